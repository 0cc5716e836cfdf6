import Derived.Test.YtjomajedgbcngaaF5
import Derived.Test.YtjomajedgbcngaaT1
import Derived.Test.YtjomajedgbcngaaOW
set_option autoImplicit false
set_option linter.unusedVariables false
set_option linter.unusedSimpArgs false
namespace Go.Proofs.Ytjomajedgbcngaa
open Go
theorem Hs : ∀ {a b : List C}, E3 (a ++ b) -> E3 a /\ E3 b
 | [], b, h => ⟨by unfold E3; trivial, h⟩
 | .int _ _ :: a, b, h => by
  rw [List.cons_append, E3] at h
  have t := Hs (a := a) (b := b) h.2
  rw [E3]
  exact ⟨⟨h.1, t.1⟩, t.2⟩
 | .bool _ :: a, b, h => by
  rw [List.cons_append, E3] at h
  have t := Hs (a := a) (b := b) h
  rw [E3]
  exact t
 | .str _ :: a, b, h => by
  rw [List.cons_append, E3] at h
  have t := Hs (a := a) (b := b) h.2
  rw [E3]
  exact ⟨⟨h.1, t.1⟩, t.2⟩
 | .raw _ :: a, b, h => by
  rw [List.cons_append, E3] at h
  have t := Hs (a := a) (b := b) h
  rw [E3]
  exact t
 | .mp _ :: a, b, h => by
  rw [List.cons_append, E3] at h
  have t := Hs (a := a) (b := b) h
  rw [E3]
  exact t
 | .sl _ _ :: a, b, h => by
  rw [List.cons_append, E3] at h
  have t := Hs (a := a) (b := b) h.2.2
  rw [E3]
  exact ⟨⟨h.1, h.2.1, t.1⟩, t.2⟩
theorem Zr {α : Type} {f : α -> List C} {l : List α} (h : E3 (Az f l)) : ∀ x ∈ l, E3 (f x) := by
 induction l with
 | nil => intro x hx; cases hx
 | cons y l ih =>
  have e : Az f (y :: l) = f y ++ Az f l := by simp [Az]
  rw [e] at h
  have := Hs h
  intro x hx
  rcases List.mem_cons.1 hx with rfl | hx
  ·exact this.1
  ·exact ih this.2 x hx
theorem gJ {f : Aa} (h : E3 (Aa.enc f)) : Je f := by
 simp only [Aa.enc, E3] at h
 have hm : maxLen = 9223372036854775807 := rfl
 rw [hm] at h
 exact ⟨h.2.1, h.2.2.2.2.2.2.1, h.2.2.2.2.2.2.2.2.2.2.1⟩
theorem lV {d : Aj} (hd : Tl d) : Ok (Db d) (fun y => Je y.1 /\ Tl y.2) := by
 unfold Db
 refine Ok.bind (Gl hd) fun y hy => ?_
 obtain ⟨f, d1⟩ := y
 obtain ⟨⟨-, hf⟩, hd1⟩ := hy
 have hf : Je f := hf
 refine Ok.bind (Hu hd1 _ (by omega) (by omega)) fun y2 h2 => ?_
 have fin : ∀ d' g, Tl d' -> Je g -> Ok (Db.j1 d' g) (fun y => Je y.1 /\ Tl y.2) := fun d' g h1 h2 => Ok.ret ⟨h2, h1⟩
 have wrd : ∀ {s : ByteArray} {l : List ByteArray}, s ∈ l -> (l.all fun s => decide (s.size <= 1000)) = true -> s.size <= 9223372036854775807 := fun h1 h2 => by
  have := of_decide_eq_true (List.all_eq_true.1 h2 _ h1)
  omega
 refine Ok.cond (fun _ => Ok.bind (Ou h2.2 _ (by decide) (by decide)) fun y3 h3 => fin _ _ h3.2 ⟨hf.host, hf.subj, hf.text⟩) (fun _ => ?_)
 refine Ok.cond (fun _ => Ok.bind (P6 h2.2 _ (by decide) (by decide)) fun y3 h3 => fin _ _ h3.2 ⟨wrd h3.1 (by decide), hf.subj, hf.text⟩) (fun _ => ?_)
 refine Ok.cond (fun _ => Ok.bind (Ou h2.2 _ (by decide) (by decide)) fun y3 h3 => fin _ _ h3.2 ⟨hf.host, hf.subj, hf.text⟩) (fun _ => ?_)
 refine Ok.cond (fun _ => Ok.bind (Ou h2.2 _ (by decide) (by decide)) fun y3 h3 => fin _ _ h3.2 ⟨hf.host, hf.subj, hf.text⟩) (fun _ => ?_)
 refine Ok.cond (fun _ => Ok.bind (Ou h2.2 _ (by decide) (by decide)) fun y3 h3 => fin _ _ h3.2 ⟨hf.host, hf.subj, hf.text⟩) (fun _ => ?_)
 refine Ok.cond (fun _ => Ok.bind (Ou h2.2 _ (by decide) (by decide)) fun y3 h3 => fin _ _ h3.2 ⟨hf.host, hf.subj, hf.text⟩) (fun _ => ?_)
 refine Ok.cond (fun _ => fin _ _ h2.2 ⟨hf.host, by show (⟨#[]⟩ : ByteArray).size <= _; decide, hf.text⟩) (fun _ => ?_)
 refine Ok.cond (fun _ => Ok.bind (Ou h2.2 _ (by decide) (by decide)) fun y3 h3 => Ok.bind (Ou h3.2 _ (by decide) (by decide)) fun y4 h4 => fin _ _ h4.2 ⟨hf.host, hf.subj, hf.text⟩) (fun _ => ?_)
 refine Ok.cond (fun _ => Ok.bind (Ou h2.2 _ (by decide) (by decide)) fun y3 h3 => fin _ _ h3.2 ⟨hf.host, hf.subj, hf.text⟩) (fun _ => ?_)
 refine Ok.cond (fun _ => Ok.bind (P6 h2.2 _ (by decide) (by decide)) fun y3 h3 => fin _ _ h3.2 ⟨hf.host, hf.subj, wrd h3.1 (by decide)⟩) (fun _ => ?_)
 exact fin _ _ h2.2 hf
theorem Sa (t : List Int) (raw : List Aa) (hok : Wz [.sl 1 (Az eI t), .sl 11 (Az Aa.enc raw)]) : As t raw = some true := by
 have h1 : As.j1 t raw true = some true := by unfold As.j1; rw [Pa]; rfl
 simp only [Wz, X8] at hok
 have fr : ∀ f ∈ raw, Je f := fun f hf => gJ (Zr hok.2.1.2 f hf)
 unfold As Gr
 rw [Option.bind_some]
 by_cases hl : (t.length : Int) <= 400
 ·rw [decide_eq_true hl, Bool.not_true, cond_false]
  by_cases hr : 20 < (raw.length : Int)
  ·rw [decide_eq_true hr]; exact h1
  ·rw [decide_eq_false hr]
   refine Ok.true_ ?_
   unfold As.j1
   rw [cond_false]
   refine Ok.bind (X3 (by omega)) fun d hd => ?_
   refine Ok.bind (G0 hd (n := 14) (by omega)) fun y4 h4 => ?_
   refine Ok.bind (G0 h4.2 (n := 6) (by omega)) fun y5 h5 => ?_
   refine Ok.bind (iW h5.2 3 (by omega) (by omega)) fun y6 h6 => ?_
   obtain ⟨⟨l4, g4⟩, -⟩ := h4
   obtain ⟨⟨l5, g5⟩, -⟩ := h5
   have f5 := g5.fit
   have round : ∀ (X : List Aa) (i : Int), X.length <= 40 -> (∀ f ∈ X, Je f) -> 0 <= i -> i < 2 -> Ok (As.l3 raw y5 X i) (fun o : Lp (List Aa × Int) Bool => o = .next (raw, i + 1)) := by
    intro X i hX fX hi0 hi2
    unfold As.l3
    have hn1 : (Nm X).1.length <= 1000 := by
     unfold Nm
     have := Ht Ir X
     cases X.any S1
     ·show (D2 Ir X).length <= 1000; omega
     ·exact Nat.zero_le _
    have hn2 : (Nm (X ++ y5.1)).1.length <= 1000 := by
     unfold Nm
     have := Ht Ir (X ++ y5.1)
     rw [List.length_append] at this
     cases (X ++ y5.1).any S1
     ·show (D2 Ir _).length <= 1000; omega
     ·exact Nat.zero_le _
    rw [decide_eq_true hi2, cond_true, hE X (by omega) fX, Option.bind_some, cR X (by omega) fX, Option.bind_some, bK X y5.1 (by omega) fX f5, Option.bind_some, jC X y5.1 (by omega) fX f5, Option.bind_some, decide_eq_true rfl, Bool.not_true, cond_false, decide_eq_true rfl, Bool.not_true, cond_false, P5 _ _ (by omega), Option.bind_some, decide_eq_true rfl, Bool.not_true, cond_false, P5 _ _ (by omega), Option.bind_some, decide_eq_true rfl, Bool.not_true]
    unfold As.j4
    rw [cond_false]
    refine Ok.loop (fun s : Int => ∃ k : Nat, s = (k : Int) /\ k <= X.length) (fun s => X.length - s.toNat) ?_ ⟨0, rfl, Nat.zero_le _⟩
    rintro _ ⟨k, rfl, hk⟩
    show Ok (As.l5 raw X i (k : Int)) _
    unfold As.l5
    refine Ok.cond (fun hb => ?_) (fun hb => ?_)
    ·have hkl : k < X.length := by have := of_decide_eq_true hb; omega
     obtain ⟨e, he⟩ : ∃ e, X[k]? = some e := ⟨_, List.getElem?_eq_getElem hkl⟩
     have fe := fX e (Q9 he)
     have go : Ok (As.j6 (k : Int) false) (mG (fun s' : Int => (∃ k : Nat, s' = (k : Int) /\ k <= X.length) /\ X.length - s'.toNat < X.length - ((k : Int)).toNat) (fun o : Lp (List Aa × Int) Bool => o = .next (raw, i + 1))) := by
      unfold As.j6
      rw [cond_false, D0 (by omega)]
      exact Ok.ret ⟨⟨k + 1, by omega, hkl⟩, by show X.length - ((k : Int) + 1).toNat < X.length - ((k : Int)).toNat; omega⟩
     rw [Dj, he, Option.bind_some, Pz fe, Option.bind_some, Rr fe, Option.bind_some, decide_eq_true rfl, Bool.not_true, cond_false]
     refine Ok.cond (fun h0 => ?_) (fun _ => go)
     have h0 := of_decide_eq_true h0
     obtain ⟨q, hq⟩ : ∃ q, X[k - 1]? = some q := ⟨_, List.getElem?_eq_getElem (by omega)⟩
     rw [D0 (by omega), show (k : Int) - 1 = ((k - 1 : Nat) : Int) by omega, Dj, hq, Option.bind_some, Jl, Option.bind_some, O6, Option.bind_some, decide_eq_true rfl, Bool.not_true, cond_false, Jl, Option.bind_some, decide_eq_true (Mg.self e), Bool.not_true]
     exact go
    ·rw [D0 (by omega)]
     exact Ok.up (Ok.ret rfl)
   have J2 : ∀ (d2 : Aj) (x : List Aa), Tl d2 -> x.length <= 30 -> (∀ f ∈ x, Je f) -> Ok (As.j2 raw y5 d2 x) (fun r => r = true) := by
    intro d2 x hd2 hx fx
    unfold As.j2
    refine Ok.bind (Gl hd2) fun y8 h8 => ?_
    refine Ok.bind (Tu (by rw [List.length_singleton]; omega)) fun l' hl' => ?_
    subst hl'
    have fx2 : ∀ f ∈ x ++ [y8.1], Je f := Sb fx fun f hf => by rw [List.mem_singleton.1 hf]; exact h8.1.2
    refine Ok.loop (fun s : List Aa × Int => (s.1.length <= 40 /\ ∀ f ∈ s.1, Je f) /\ 0 <= s.2 /\ s.2 <= 2) (fun s => (2 - s.2).toNat) ?_ ⟨⟨by show (x ++ [y8.1]).length <= 40; rw [List.length_append, List.length_singleton]; omega, fx2⟩, Int.le_refl _, by show (0 : Int) <= 2; omega⟩
    rintro ⟨X, i⟩ ⟨⟨h1, h2⟩, h3, h4⟩
    dsimp only at h1 h2 h3 h4
    show Ok (As.l3 raw y5 X i) _
    by_cases hi : i < 2
    ·refine (round X i h1 h2 h3 hi).mono fun o ho => ?_
     subst ho
     exact ⟨⟨⟨by show raw.length <= 40; omega, fr⟩, by show 0 <= i + 1; omega, by show i + 1 <= 2; omega⟩, by show (2 - (i + 1)).toNat < (2 - i).toNat; omega⟩
    ·unfold As.l3
     rw [decide_eq_false hi, cond_false, Pa]
     exact Ok.up (Ok.ret rfl)
   refine Ok.cond (fun _ => ?_) (fun _ => J2 _ _ h6 (by omega) g4.fit)
   refine Ok.bind (lV h6) fun y7 h7 => ?_
   refine Ok.bind (Tu (by rw [List.length_singleton]; omega)) fun l' hl' => ?_
   subst hl'
   exact J2 _ _ h7.2 (by rw [List.length_append, List.length_singleton]; omega) (Sb g4.fit fun f hf => by rw [List.mem_singleton.1 hf]; exact h7.1)
 ·rw [decide_eq_false hl, Bool.not_false, cond_true]; exact h1
end Go.Proofs.Ytjomajedgbcngaa
