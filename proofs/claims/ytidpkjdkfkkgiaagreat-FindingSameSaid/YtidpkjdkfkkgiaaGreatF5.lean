/- Plain texts, joined. No program is in sight here. -/
import Derived.Test.YtidpkjdkfkkgiaaGreatF2
set_option autoImplicit false
set_option linter.unusedVariables false
set_option linter.unusedSimpArgs false
namespace Go.Proofs.YtidpkjdkfkkgiaaGreat
section
open Go
theorem eR {s : ByteArray} (h : Et s = true /\ s.size <= 1000) : Bs s = some true := by rw [I5 _ (by omega), h.1]
def rsa : As := ⟨5, 2048⟩
theorem eT : Bn rsa 7 [] = some true := by
 unfold Bn
 rw [Mt, Option.bind_some, show decide (0 < K0 rsa) = true by decide +kernel, Bool.not_true, cond_false, Po, Option.bind_some, show M1 rsa.Alg = 2 by decide +kernel, decide_eq_true rfl, Bool.not_true, cond_false]
 have hk : Ej 7 = some true := rfl
 rw [hk, Option.bind_some, Bool.not_true, cond_false]
 unfold Bn.j1
 rw [show decide ((8 : Int) < ((([] : List Af).length : Nat) : Int)) = false from rfl, cond_false]
 exact Ea (x := some true) rfl
def R4 : C9 := ⟨⟨#[120]⟩, rsa, 7, false, []⟩
def Sz : C9 := ⟨⟨#[121]⟩, rsa, 7, false, []⟩
theorem oO : B4 [R4, Sz] = some 0 := by
 have n1 : Bs R4.Alias = some true := eR (by decide +kernel)
 have n2 : Bs Sz.Alias = some true := eR (by decide +kernel)
 have s1 : Bn R4.Key R4.KeyId R4.Chain = some true := eT
 have s2 : Bn Sz.Key Sz.KeyId Sz.Chain = some true := eT
 have o : K1 (Im R4.Alias) (Im Sz.Alias) = true := by decide +kernel
 unfold B4
 have e0 : B4.l1 [R4, Sz] 0 = some (.next 1) := by
  show ((Bs R4.Alias).bind _) = _
  rw [n1, Option.bind_some, Bool.not_true, cond_false]
  show cond (decide ((0 : Int) < 0)) _ _ = _
  rw [show decide ((0 : Int) < 0) = false from rfl, cond_false, s1]
  rfl
 have e1 : B4.l1 [R4, Sz] ((1 : Nat) : Int) = some (.next 2) := by
  unfold B4.l1
  rw [H8 (show [R4, Sz][1]? = some Sz from rfl), n2, Option.bind_some, Bool.not_true, cond_false, decide_eq_true (by decide), cond_true, Ee (by decide), show ((1 : Nat) : Int) - 1 = ((0 : Nat) : Int) from rfl, Eg, show [R4, Sz][0]? = some R4 from rfl, Option.bind_some, o, Bool.not_true, cond_false, s2]
  rfl
 rw [Eo (body := fun q' => B4.l1 [R4, Sz] q') e0, show (1 : Int) = ((1 : Nat) : Int) from rfl, Eo (body := fun q' => B4.l1 [R4, Sz] q') e1]
 exact Ea (x := some (0 : Int)) rfl
def fI : Aa := ⟨2, ⟨#[97]⟩, 0, 3, 90, 3, ⟨#[115]⟩, rsa, 7, ⟨#[]⟩⟩
theorem qF : Bd fI = some 0 := Y9 (by decide +kernel) (by decide +kernel) (by decide) (by decide) (by decide) (by decide) (jE rfl (by decide +kernel) (by decide +kernel) (by decide) rfl)
theorem yU : Bd ⟨2, ⟨#[97]⟩, 0, 3, 90, 4, ⟨#[115]⟩, ⟨0, 0⟩, 1, ⟨#[]⟩⟩ = some 0 := Y9 (by decide +kernel) (by decide +kernel) (by decide) (by decide) (by decide) (by decide) (Ud rfl rfl (.inr (.inl ⟨.inl rfl, by decide⟩)))
theorem uZ : Ce [fI, fI] = some ([fI], 0) := by
 rw [uW [fI, fI] (by decide) (by decide) (fun f hf => by
  simp only [List.mem_cons, List.not_mem_nil, or_false] at hf
  rcases hf with rfl | rfl <;> exact qF)]
 have : Jf aK [fI, fI] = [fI] := by
  rw [Wc bS (m := [fI]) (fun z => by simp), gM bS (by exact .cons (fun _ h => by cases h) .nil)]
 rw [this]
theorem bN : Ij = some true := by
 unfold Ij
 have hs : Ci ⟨2, ⟨#[97]⟩, 0, 3, 90, 0, ⟨#[115]⟩, ⟨0, 0⟩, 0, ⟨#[]⟩⟩ [R4, Sz] = some ([fI], 0) := by
  unfold Ci Gu
  show ((Option.bind (Bd ⟨2, ⟨#[97]⟩, 0, 3, 90, 4, ⟨#[115]⟩, ⟨0, 0⟩, 1, ⟨#[]⟩⟩) _).bind _) = _
  rw [yU, Option.bind_some, Option.bind_some]
  show cond (decide ((0 : Int) = 0)) ((B4 [R4, Sz]).bind _) _ = _
  rw [oO, Option.bind_some, decide_eq_true rfl, cond_true]
  unfold Ci.j1
  rw [decide_eq_true rfl, Bool.not_true, cond_false]
  refine (Eo (s' := (1, 2, ⟨#[97]⟩, 0, 3, 90, 4, ⟨#[115]⟩, 0, 0, 1, ⟨#[]⟩, [fI])) rfl).trans ?_
  refine (Eo (s' := (2, 2, ⟨#[97]⟩, 0, 3, 90, 4, ⟨#[115]⟩, 0, 0, 1, ⟨#[]⟩, [fI, fI])) rfl).trans ?_
  refine (Ea (x := (Ce [fI, fI]).bind fun y => some (y.1, y.2)) ?_).trans ?_
  ·rfl
  rw [uZ]; rfl
 show (Ci ⟨2, ⟨#[97]⟩, 0, 3, 90, 0, ⟨#[115]⟩, ⟨0, 0⟩, 0, ⟨#[]⟩⟩ [R4, Sz]).bind _ = _
 rw [hs, Option.bind_some]
 show (Bd fI).bind _ = _
 rw [qF]
 rfl
theorem zU {t : List Int} (h : t.length <= 400) : Ok (Ol t) Mu := Ok.ret ⟨by unfold Lo; show t.length < _; omega, Int.le_refl _, by show (0 : Int) <= (t.length : Int); omega⟩
end
section
open Go
theorem aBq (b x : Bool) : cond b (some x) (some false) = some (b && x) := by cases b <;> rfl
def T5 (f : Aa) : Bool := decide (f.Use = ⟨0, 0⟩) && decide (f.Text = ⟨#[]⟩)
def S0 (f : Aa) : Bool :=
 bif decide (f.Kind = 1) || decide (f.Kind = 8) then decide (0 < K0 f.Use) && (decide (f.Number = 0) && decide (f.Text = ⟨#[]⟩))
 else bif decide (f.Kind = 2) then T5 f && (decide (0 <= f.Number) && decide (f.Number <= 65535))
 else bif decide (f.Kind = 3) then decide (0 < K0 f.Use) && (decide (M1 f.Use.Alg = 2) && (decide (0 <= f.Number) && (decide (f.Number <= 2147483648) && decide (f.Text = ⟨#[]⟩))))
 else bif decide (f.Kind = 4) || decide (f.Kind = 5) then T5 f && (decide (1 <= f.Number) && decide (f.Number <= 4))
 else bif decide (f.Kind = 6) then T5 f && (decide (0 <= f.Number) && decide (f.Number <= 2147483648))
 else bif decide (f.Kind = 7) then decide (f.Use = ⟨0, 0⟩) && (decide (f.Number = 0) && Et f.Text) else false
def P9 (f : Aa) : Int :=
 bif (Et f.Host && (Et f.Subject && (decide (0 <= f.Machine) && decide (f.Machine <= 1099511627776)))) && ((decide (0 <= f.Day) && (decide (f.Day <= 40000) && (decide (1 <= f.Confidence) && decide (f.Confidence <= 100)))) && (decide (1 <= f.Source) && (decide (f.Source <= 7) && S0 f))) then 0 else 24
theorem bY {f : Aa} (h : Oz f) : A3 f = some (S0 f) := by
 unfold A3 A3.j1 A3.j2 A3.j3
 simp only [Mt, Po, I5 _ h.text, Option.bind_some, aBq]
 unfold S0 T5
 generalize decide (f.Use = ⟨0, 0⟩) = b0
 generalize decide (f.Kind = 1) = k1
 generalize decide (f.Kind = 8) = k8
 generalize decide (f.Kind = 2) = k2
 generalize decide (f.Kind = 3) = k3
 generalize decide (f.Kind = 4) = k4
 generalize decide (f.Kind = 5) = k5
 generalize decide (f.Kind = 6) = k6
 generalize decide (f.Kind = 7) = k7
 cases b0 <;> cases k1 <;> first | rfl | (cases k8 <;> first | rfl | (cases k2 <;> first | rfl | (cases k3 <;> first | rfl | (cases k4 <;> first | rfl | (cases k5 <;> first | rfl | (cases k6 <;> first | rfl | (cases k7 <;> rfl)))))))
theorem aE2 (a b : Int) : decide (a < b) = !decide (b <= a) := by
 by_cases h : a < b
 ·rw [decide_eq_true h, decide_eq_false (by omega)]; rfl
 ·rw [decide_eq_false h, decide_eq_true (by omega)]; rfl
theorem Ts {f : Aa} (h : Oz f) : Bd f = some (P9 f) := by
 unfold Bd Bd.j1 Bd.j2 Bd.j3
 simp only [I5 _ h.host, I5 _ h.subj, bY h, Option.bind_some, aE2]
 unfold P9
 generalize Et f.Host = a1
 generalize Et f.Subject = a2
 generalize decide (0 <= f.Machine) = a3
 generalize decide (f.Machine <= 1099511627776) = a4
 generalize decide (0 <= f.Day) = a5
 generalize decide (f.Day <= 40000) = a6
 generalize decide (1 <= f.Confidence) = a7
 generalize decide (f.Confidence <= 100) = a8
 generalize decide (1 <= f.Source) = a9
 generalize decide (f.Source <= 7) = a10
 generalize S0 f = a11
 cases a1 <;> cases a2 <;> cases a3 <;> cases a4 <;> first | (cases a5 <;> cases a6 <;> cases a7 <;> cases a8 <;> rfl) | (cases a5 <;> cases a6 <;> cases a7 <;> cases a8 <;> first | rfl | (cases a9 <;> cases a10 <;> cases a11 <;> rfl))
def Sv (f : Aa) : Bool := !decide (P9 f = 0)
def Y4 (l : List Aa) : List Aa × Int := bif l.any Sv then ([], 24) else (Jf aK l, 0)
theorem eO {f : Aa} (h : Sv f = true) : P9 f = 24 := by
 unfold Sv at h
 unfold P9 at h ⊢
 revert h
 cases (Et f.Host && (Et f.Subject && (decide (0 <= f.Machine) && decide (f.Machine <= 1099511627776)))) && ((decide (0 <= f.Day) && (decide (f.Day <= 40000) && (decide (1 <= f.Confidence) && decide (f.Confidence <= 100)))) && (decide (1 <= f.Source) && (decide (f.Source <= 7) && S0 f))) with
 | true => intro h; cases h
 | false => intro _; rfl
theorem vE (l : List Aa) (h4 : l.length <= 400) (hf : ∀ f ∈ l, Oz f) : Ce l = some (Y4 l) := by
 have hcap := kN
 obtain ⟨r, hr1, hr2, hr3⟩ := Ot bS.swo pY l (by unfold H9; omega) (fun _ _ => trivial)
 have hrl : r.length = l.length := hr2.length_eq
 obtain ⟨c, hc1, rfl⟩ := Mh r (by omega)
 rw [dG bS hr2 hr3] at hc1
 have hsl := Sp aK l
 unfold Ce Y4
 refine T1 l Sv (([] : List Aa), (24 : Int)) (Jf aK l, (0 : Int)) (by unfold Lo; omega) (fun i x hx => ?_) ?_
 ·show Ce.l1 l (i : Int) = _
  unfold Ce.l1
  rw [H8 hx, Ts (hf x (Ja hx)), Option.bind_some]
  cases hb : Sv x with
  | true =>
   have e1 : (!decide (P9 x = 0)) = true := hb
   rw [e1, eO hb]; rfl
  | false =>
   have e1 : (!decide (P9 x = 0)) = false := hb
   rw [e1]; rfl
 ·show Ce.l1 l (l.length : Int) = _
  unfold Ce.l1
  rw [Ge, aE l (by omega), Option.bind_some, hr1, Option.bind_some, hc1, Option.bind_some, decide_eq_false (by omega)]
  rfl
theorem uB (a b : List Aa) (h : a.length < 1000000) : D7 a b = some (decide (a = b)) := by
 unfold D7
 by_cases hl : a.length = b.length
 ·rw [decide_eq_true (show (a.length : Int) = (b.length : Int) by omega), Bool.not_true, cond_false]
  have key : ∀ (m n p : List Aa), p ++ m = a -> p ++ n = b -> Cf (fun q' => D7.l1 a b q') (p.length : Int) = some (decide (m = n)) := by
   intro m
   induction m with
   | nil =>
    intro n p h1 h2
    have hn : n = [] := List.eq_nil_of_length_eq_zero (by have e1 := congrArg List.length h1; have e2 := congrArg List.length h2; simp at e1 e2; omega)
    subst hn
    refine Ea (x := some true) ?_
    show D7.l1 a b (p.length : Int) = _
    unfold D7.l1
    rw [decide_eq_false (by rw [<- h1]; simp), cond_false]
   | cons x m ih =>
    intro n p h1 h2
    cases n with
    | nil => have e1 := congrArg List.length h1; have e2 := congrArg List.length h2; simp at e1 e2; omega
    | cons y n =>
     have hx : a[p.length]? = some x := by rw [<- h1]; simp
     have hy : b[p.length]? = some y := by rw [<- h2]; simp
     have hlen := (List.getElem?_eq_some_iff.1 hx).1
     by_cases hxy : x = y
     ·subst hxy
      have e1 : D7.l1 a b (p.length : Int) = some (.next (((p ++ [x]).length : Nat) : Int)) := by
       unfold D7.l1
       rw [decide_eq_true (by omega), cond_true, Eg, hx, Option.bind_some, Eg, hy, Option.bind_some, decide_eq_true rfl, Bool.not_true, cond_false, Ee (by omega)]
       simp
      rw [Eo e1, ih n (p ++ [x]) (by simp [h1]) (by simp [h2])]
      simp
     ·have e1 : D7.l1 a b (p.length : Int) = up (some false) := by
       unfold D7.l1
       rw [decide_eq_true (by omega), cond_true, Eg, hx, Option.bind_some, Eg, hy, Option.bind_some, decide_eq_false hxy, Bool.not_false, cond_true]
      rw [Ea e1]
      simp [hxy]
  exact key a b [] rfl rfl
 ·rw [decide_eq_false (show ¬ (a.length : Int) = (b.length : Int) by omega), Bool.not_false, cond_true, decide_eq_false (fun e => hl (by rw [e]))]
end
section
open Go
def Tg (l : List Aa) : Prop := ∀ f ∈ l, Oz f /\ P9 f = 0
theorem Tg.fit {l : List Aa} (h : Tg l) : ∀ f ∈ l, Oz f := fun f hf => (h f hf).1
theorem Tg.norm {l : List Aa} (h : Tg l) : Y4 l = (Jf aK l, 0) := by
 have : l.any Sv = false := by
  rw [<- Bool.not_eq_true, List.any_eq_true]
  rintro ⟨f, hf, hb⟩
  unfold Sv at hb
  rw [(h f hf).2] at hb
  cases hb
 unfold Y4
 rw [this]; rfl
theorem Tg.app {a b : List Aa} (ha : Tg a) (hb : Tg b) : Tg (a ++ b) := fun f hf => by
 rcases List.mem_append.1 hf with h | h
 ·exact ha f h
 ·exact hb f h
theorem sE {f : Aa} (h : FOK f) : Oz f /\ P9 f = 0 := by
 refine ⟨h.2, ?_⟩
 have := (Ts h.2).symm.trans h.1
 injection this
end
end Go.Proofs.YtidpkjdkfkkgiaaGreat
