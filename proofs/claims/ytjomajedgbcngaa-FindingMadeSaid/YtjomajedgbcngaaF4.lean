import Derived.Test.YtjomajedgbcngaaF3
set_option autoImplicit false
set_option linter.unusedVariables false
set_option linter.unusedSimpArgs false
namespace Go.Proofs.Ytjomajedgbcngaa
open Go
theorem gT (b x : Bool) : cond b (some x) (some false) = some (b && x) := by cases b <;> rfl
def W1 (f : Aa) : Bool := decide (f.Use = ⟨0, 0⟩) && decide (f.Text = ⟨#[]⟩)
def T8 (f : Aa) : Bool :=
 bif decide (f.Kind = 1) || decide (f.Kind = 8) then decide (0 < Py f.Use) && (decide (f.Number = 0) && decide (f.Text = ⟨#[]⟩))
 else bif decide (f.Kind = 2) then W1 f && (decide (0 <= f.Number) && decide (f.Number <= 65535))
 else bif decide (f.Kind = 3) then decide (0 < Py f.Use) && (decide (Pp f.Use.Alg = 2) && (decide (0 <= f.Number) && (decide (f.Number <= 2147483648) && decide (f.Text = ⟨#[]⟩))))
 else bif decide (f.Kind = 4) || decide (f.Kind = 5) then W1 f && (decide (1 <= f.Number) && decide (f.Number <= 4))
 else bif decide (f.Kind = 6) then W1 f && (decide (0 <= f.Number) && decide (f.Number <= 2147483648))
 else bif decide (f.Kind = 7) then decide (f.Use = ⟨0, 0⟩) && (decide (f.Number = 0) && Ic f.Text) else false
def Qy (f : Aa) : Int :=
 bif (Ic f.Host && (Ic f.Subject && (decide (0 <= f.Machine) && decide (f.Machine <= 1099511627776)))) && ((decide (0 <= f.Day) && (decide (f.Day <= 40000) && (decide (1 <= f.Confidence) && decide (f.Confidence <= 100)))) && (decide (1 <= f.Source) && (decide (f.Source <= 7) && T8 f))) then 0 else 24
theorem Vj {f : Aa} (h : Je f) : A3 f = some (T8 f) := by
 unfold A3 A3.j1 A3.j2 A3.j3
 simp only [O5, Tv, Ja _ h.text, Option.bind_some, gT]
 unfold T8 W1
 generalize decide (f.Use = ⟨0, 0⟩) = b0
 generalize decide (f.Kind = 1) = k1
 generalize decide (f.Kind = 8) = k8
 generalize decide (f.Kind = 2) = k2
 generalize decide (f.Kind = 3) = k3
 generalize decide (f.Kind = 4) = k4
 generalize decide (f.Kind = 5) = k5
 generalize decide (f.Kind = 6) = k6
 generalize decide (f.Kind = 7) = k7
 cases b0 <;> cases k1 <;> first | rfl | (cases k8 <;> first | rfl | (cases k2 <;> first | rfl | (cases k3 <;> first | rfl | (cases k4 <;> first | rfl | (cases k5 <;> first | rfl | (cases k6 <;> first | rfl | (cases k7 <;> rfl)))))))
theorem mZ (a b : Int) : decide (a < b) = !decide (b <= a) := by
 by_cases h : a < b
 ·rw [decide_eq_true h, decide_eq_false (by omega)]; rfl
 ·rw [decide_eq_false h, decide_eq_true (by omega)]; rfl
theorem Pz {f : Aa} (h : Je f) : Be f = some (Qy f) := by
 unfold Be Be.j1 Be.j2 Be.j3
 simp only [Ja _ h.host, Ja _ h.subj, Vj h, Option.bind_some, mZ]
 unfold Qy
 generalize Ic f.Host = a1
 generalize Ic f.Subject = a2
 generalize decide (0 <= f.Machine) = a3
 generalize decide (f.Machine <= 1099511627776) = a4
 generalize decide (0 <= f.Day) = a5
 generalize decide (f.Day <= 40000) = a6
 generalize decide (1 <= f.Confidence) = a7
 generalize decide (f.Confidence <= 100) = a8
 generalize decide (1 <= f.Source) = a9
 generalize decide (f.Source <= 7) = a10
 generalize T8 f = a11
 cases a1 <;> cases a2 <;> cases a3 <;> cases a4 <;> first | (cases a5 <;> cases a6 <;> cases a7 <;> cases a8 <;> rfl) | (cases a5 <;> cases a6 <;> cases a7 <;> cases a8 <;> first | rfl | (cases a9 <;> cases a10 <;> cases a11 <;> rfl))
theorem c4 (b x : Bool) : cond b (Ay.j4 x) (Ay.j4 false) = Ay.j4 (b && x) := by cases b <;> rfl
theorem Zw (u : Bk) : Gq u = some (decide (0 < Py u) && decide (Pp u.Alg = 2)) := by
 unfold Gq
 simp only [Un, cI, Option.bind_some, gT]
theorem Ua {f : Aa} (h : Je f) : Ay.j1 f false = Ay.j4 (T8 f) := by
 unfold Ay.j1 Ay.j2 Ay.j3
 simp only [Un, Zw, Tn _ h.text, Option.bind_some, c4, cond_false]
 unfold T8 W1
 generalize decide (f.Use = ⟨0, 0⟩) = b0
 generalize decide (f.Text = (⟨#[]⟩ : ByteArray)) = b1
 generalize decide (f.Kind = 1) = k1
 generalize decide (f.Kind = 8) = k8
 generalize decide (f.Kind = 2) = k2
 generalize decide (f.Kind = 3) = k3
 generalize decide (f.Kind = 4) = k4
 generalize decide (f.Kind = 5) = k5
 generalize decide (f.Kind = 6) = k6
 generalize decide (f.Kind = 7) = k7
 generalize decide (0 < Py f.Use) = u1
 generalize decide (Pp f.Use.Alg = 2) = u2
 generalize decide (0 <= f.Number) = n1
 generalize decide (f.Number = 0) = n0
 generalize decide (f.Number <= 65535) = n2
 generalize decide (f.Number <= 2147483648) = n3
 generalize decide (1 <= f.Number) = n4
 generalize decide (f.Number <= 4) = n5
 have L3 : ∀ a b c d : Bool, (a && (b && (c && d))) = ((a && d) && (b && c)) := by decide
 have L4 : ∀ a b c d e : Bool, ((a && b) && (c && (d && e))) = (a && (b && (c && (d && e)))) := by decide
 cases k1
 ·cases k8
  ·cases k2
   ·cases k3
    ·cases k4
     ·cases k5
      ·cases k6
       ·cases k7 <;> rfl
       ·exact congrArg Ay.j4 (L3 _ _ _ _)
      ·exact congrArg Ay.j4 (L3 _ _ _ _)
     ·exact congrArg Ay.j4 (L3 _ _ _ _)
    ·exact congrArg Ay.j4 (L4 _ _ _ _ _)
   ·exact congrArg Ay.j4 (L3 _ _ _ _)
  ·rfl
 ·rfl
theorem Rr {f : Aa} (h : Je f) : Ay f = some (Qy f) := by
 have ht : Ay.j1 f true = some 24 := rfl
 have hj : ∀ b, Ay.j1 f b = bif b then some 24 else some (bif T8 f then 0 else 24) := fun b => by
  cases b
  ·rw [Ua h]
   unfold Ay.j4
   cases T8 f <;> rfl
  ·rfl
 unfold Ay
 simp only [Tn _ h.host, Tn _ h.subj, hj, Option.bind_some, mZ]
 unfold Qy
 generalize Ic f.Host = a1
 generalize Ic f.Subject = a2
 generalize decide (0 <= f.Machine) = a3
 generalize decide (f.Machine <= 1099511627776) = a4
 generalize decide (0 <= f.Day) = a5
 generalize decide (f.Day <= 40000) = a6
 generalize decide (1 <= f.Confidence) = a7
 generalize decide (f.Confidence <= 100) = a8
 generalize decide (1 <= f.Source) = a9
 generalize decide (f.Source <= 7) = a10
 generalize T8 f = a11
 cases a9 <;> cases a10 <;> cases a1 <;> first | rfl | (cases a3 <;> cases a4 <;> cases a5 <;> cases a6 <;> first | (cases a7 <;> cases a8 <;> cases a2 <;> rfl) | (cases a7 <;> cases a8 <;> cases a2 <;> cases a11 <;> rfl))
theorem P1 (a b : ByteArray) : Gt a b = some (Ka a b) := by
 unfold Gt Ka
 cases Iz (Hk a) (Hk b) with
 | true => rfl
 | false => cases Iz (Hk b) (Hk a) <;> rfl
def Xr : List Int -> List Int -> Int
 | x :: a, y :: b => bif decide (Fj x y = 0) then Xr a b else Fj x y
 | _, _ => 0
theorem Rh (a b : List Int) (hl : a.length = b.length) (h : a.length <= 1000) : C7 a b = some (Xr a b) := by
 have key : ∀ (m n p q : List Int), p ++ m = a -> q ++ n = b -> p.length = q.length -> m.length = n.length -> Cy (fun i => C7.l1 a b i) (p.length : Int) = some (Xr m n) := by
  intro m
  induction m with
  | nil =>
   intro n p q h1 h2 h3 h4
   have : a.length = p.length := by rw [<- h1]; simp
   refine C5 (x := some 0) ?_
   show C7.l1 a b (p.length : Int) = _
   unfold C7.l1
   rw [decide_eq_false (by omega), cond_false]
  | cons x m ih =>
   intro n p q h1 h2 h3 h4
   cases n with
   | nil => cases h4
   | cons y n =>
    have hx : a[p.length]? = some x := by rw [<- h1]; simp
    have hy : b[p.length]? = some y := by rw [<- h2, h3]; simp
    have hlt := Rp hx
    by_cases c1 : x < y
    ·have e : C7.l1 a b (p.length : Int) = up (some (-1)) := by
      unfold C7.l1
      rw [decide_eq_true (by omega), cond_true, Dj, hx, Option.bind_some, Dj, hy, Option.bind_some, decide_eq_true c1, cond_true]
     rw [C5 e]
     unfold Xr Fj
     rw [decide_eq_true c1]; rfl
    ·by_cases c2 : y < x
     ·have e : C7.l1 a b (p.length : Int) = up (some 1) := by
       unfold C7.l1
       rw [decide_eq_true (by omega), cond_true, Dj, hx, Option.bind_some, Dj, hy, Option.bind_some, decide_eq_false c1, cond_false, decide_eq_true c2, cond_true]
      rw [C5 e]
      unfold Xr Fj
      rw [decide_eq_false c1, decide_eq_true c2]; rfl
     ·have e : C7.l1 a b (p.length : Int) = some (.next (((p ++ [x]).length : Nat) : Int)) := by
       unfold C7.l1
       rw [decide_eq_true (by omega), cond_true, Dj, hx, Option.bind_some, Dj, hy, Option.bind_some, decide_eq_false c1, cond_false, decide_eq_false c2, cond_false, D0 (by omega)]
       simp
      rw [Dc (body := fun i => C7.l1 a b i) e, ih n (p ++ [x]) (q ++ [y]) (by simp [h1]) (by simp [h2]) (by simp [h3]) (by simpa using h4)]
      show _ = some (bif decide (Fj x y = 0) then Xr m n else Fj x y)
      have : Fj x y = 0 := by unfold Fj; rw [decide_eq_false c1, decide_eq_false c2]; rfl
      rw [this]; rfl
 exact key a b [] [] rfl rfl rfl hl
theorem O6 (a b : Aa) : Gv a b = some (Ph a b) := by
 unfold Gv
 rw [P1, Option.bind_some, Rh [a.Machine, a.Day] [b.Machine, b.Day] rfl (by simp), Option.bind_some, P1, Option.bind_some, Rh [a.Kind, a.Use.Alg, a.Use.Bits, a.Number] [b.Kind, b.Use.Alg, b.Use.Bits, b.Number] rfl (by simp), Option.bind_some, P1, Option.bind_some, Rh [a.Source, a.Confidence] [b.Source, b.Confidence] rfl (by simp), Option.bind_some]
 simp only [Yw]
 unfold Ph
 simp only [Xr]
 by_cases h1 : ¬ Ka a.Host b.Host = 0
 ·refine Eq.trans ?_ (congrArg some (G8 (c := fun a b : Aa => Ka a.Host b.Host) (a := a) (b := b) h1).symm)
  simp [h1]
 rw [Decidable.not_not] at h1
 refine Eq.trans ?_ (congrArg some (Hl (c := fun a b : Aa => Ka a.Host b.Host) (a := a) (b := b) h1).symm)
 by_cases h2 : ¬ Fj a.Machine b.Machine = 0
 ·refine Eq.trans ?_ (congrArg some (G8 (c := fun a b : Aa => Fj a.Machine b.Machine) (a := a) (b := b) h2).symm)
  simp [h1, h2]
 rw [Decidable.not_not] at h2
 refine Eq.trans ?_ (congrArg some (Hl (c := fun a b : Aa => Fj a.Machine b.Machine) (a := a) (b := b) h2).symm)
 by_cases h3 : ¬ Fj a.Day b.Day = 0
 ·refine Eq.trans ?_ (congrArg some (G8 (c := fun a b : Aa => Fj a.Day b.Day) (a := a) (b := b) h3).symm)
  simp [h1, h2, h3]
 rw [Decidable.not_not] at h3
 refine Eq.trans ?_ (congrArg some (Hl (c := fun a b : Aa => Fj a.Day b.Day) (a := a) (b := b) h3).symm)
 by_cases h4 : ¬ Ka a.Subject b.Subject = 0
 ·refine Eq.trans ?_ (congrArg some (G8 (c := fun a b : Aa => Ka a.Subject b.Subject) (a := a) (b := b) h4).symm)
  simp [h1, h2, h3, h4]
 rw [Decidable.not_not] at h4
 refine Eq.trans ?_ (congrArg some (Hl (c := fun a b : Aa => Ka a.Subject b.Subject) (a := a) (b := b) h4).symm)
 by_cases h5 : ¬ Fj a.Kind b.Kind = 0
 ·refine Eq.trans ?_ (congrArg some (G8 (c := fun a b : Aa => Fj a.Kind b.Kind) (a := a) (b := b) h5).symm)
  simp [h1, h2, h3, h4, h5]
 rw [Decidable.not_not] at h5
 refine Eq.trans ?_ (congrArg some (Hl (c := fun a b : Aa => Fj a.Kind b.Kind) (a := a) (b := b) h5).symm)
 by_cases h6 : ¬ Fj a.Use.Alg b.Use.Alg = 0
 ·refine Eq.trans ?_ (congrArg some (G8 (c := fun a b : Aa => Fj a.Use.Alg b.Use.Alg) (a := a) (b := b) h6).symm)
  simp [h1, h2, h3, h4, h5, h6]
 rw [Decidable.not_not] at h6
 refine Eq.trans ?_ (congrArg some (Hl (c := fun a b : Aa => Fj a.Use.Alg b.Use.Alg) (a := a) (b := b) h6).symm)
 by_cases h7 : ¬ Fj a.Use.Bits b.Use.Bits = 0
 ·refine Eq.trans ?_ (congrArg some (G8 (c := fun a b : Aa => Fj a.Use.Bits b.Use.Bits) (a := a) (b := b) h7).symm)
  simp [h1, h2, h3, h4, h5, h6, h7]
 rw [Decidable.not_not] at h7
 refine Eq.trans ?_ (congrArg some (Hl (c := fun a b : Aa => Fj a.Use.Bits b.Use.Bits) (a := a) (b := b) h7).symm)
 by_cases h8 : ¬ Fj a.Number b.Number = 0
 ·refine Eq.trans ?_ (congrArg some (G8 (c := fun a b : Aa => Fj a.Number b.Number) (a := a) (b := b) h8).symm)
  simp [h1, h2, h3, h4, h5, h6, h7, h8]
 rw [Decidable.not_not] at h8
 refine Eq.trans ?_ (congrArg some (Hl (c := fun a b : Aa => Fj a.Number b.Number) (a := a) (b := b) h8).symm)
 by_cases h9 : ¬ Ka a.Text b.Text = 0
 ·refine Eq.trans ?_ (congrArg some (G8 (c := fun a b : Aa => Ka a.Text b.Text) (a := a) (b := b) h9).symm)
  simp [h1, h2, h3, h4, h5, h6, h7, h8, h9]
 rw [Decidable.not_not] at h9
 refine Eq.trans ?_ (congrArg some (Hl (c := fun a b : Aa => Ka a.Text b.Text) (a := a) (b := b) h9).symm)
 by_cases h10 : ¬ Fj a.Source b.Source = 0
 ·refine Eq.trans ?_ (congrArg some (G8 (c := fun a b : Aa => Fj a.Source b.Source) (a := a) (b := b) h10).symm)
  simp [h1, h2, h3, h4, h5, h6, h7, h8, h9, h10]
 rw [Decidable.not_not] at h10
 refine Eq.trans ?_ (congrArg some (Hl (c := fun a b : Aa => Fj a.Source b.Source) (a := a) (b := b) h10).symm)
 by_cases h11 : ¬ Fj a.Confidence b.Confidence = 0
 ·refine Eq.trans ?_ (congrArg some (G8 (c := fun a b : Aa => Fj a.Confidence b.Confidence) (a := a) (b := b) h11).symm)
  simp [h1, h2, h3, h4, h5, h6, h7, h8, h9, h10, h11]
 rw [Decidable.not_not] at h11
 refine Eq.trans ?_ (congrArg some (Hl (c := fun a b : Aa => Fj a.Confidence b.Confidence) (a := a) (b := b) h11).symm)
 simp [h1, h2, h3, h4, h5, h6, h7, h8, h9, h10, h11]
theorem dO {α : Type} {l : List α} {a b : Int} (h : 0 <= a /\ a <= b /\ b <= l.length) : X9 l a b = some ((l.drop a.toNat).take (b.toNat - a.toNat)) := if_pos h
theorem eQ (l : List Aa) (x : Aa) (hl : l.length < 1000000) (hs : Z8 Ir l) : B1 l x = some (Mq Ir l x) := by
 have lay : ∀ p m : List Aa, p ++ m = l -> B1.j3 l x (p.length : Int) false = some (p ++ x :: m) := fun p m h => by
  unfold B1.j3
  have hlen : l.length = p.length + m.length := by rw [<- h]; simp
  have e1 : (l.drop (0 : Int).toNat).take ((p.length : Int).toNat - (0 : Int).toNat) = p := by
   show (l.drop 0).take (p.length - 0) = p
   rw [<- h]; simp
  have e2 : (l.drop (p.length : Int).toNat).take (((l.length : Nat) : Int).toNat - (p.length : Int).toNat) = m := by
   show (l.drop p.length).take (l.length - p.length) = m
   rw [<- h]; simp
  rw [cond_false, dO (by omega), Option.bind_some, e1, Kd (by simp; omega), Option.bind_some, Kd (by simp; omega), Option.bind_some, dO (by omega), Option.bind_some, e2, Kd (by simp; omega), Option.bind_some]
  simp
 have key : ∀ (n : Nat) (p m : List Aa), p.length = n -> p ++ m = l -> (∀ y ∈ m, Ir x y = true) -> Cy (fun q' => B1.l1 l x q') (p.length : Int) = some (Mq Ir l x) := by
  intro n
  induction n with
  | zero =>
   intro p m hp h hm
   have : p = [] := List.eq_nil_of_length_eq_zero hp
   subst this
   have h : m = l := h
   subst h
   have e : B1.l1 m x ((0 : Nat) : Int) = up (some (x :: m)) := by
    unfold B1.l1
    rw [decide_eq_false (by omega), cond_false]
    unfold B1.j2
    rw [cond_false, decide_eq_false (by omega), cond_false]
    have := lay [] m rfl
    rw [show (([] : List Aa).length : Int) = ((0 : Nat) : Int) from rfl] at this
    rw [this]; rfl
   show Cy (fun q' => B1.l1 m x q') ((0 : Nat) : Int) = _
   rw [C5 e]
   refine congrArg some (Qo Ix (.cons hm hs) (Mk Ix hs) fun z => ?_)
   rw [Me Ix, List.mem_cons]
  | succ n ih =>
   intro p m hp h hm
   obtain ⟨q, y, rfl⟩ : ∃ q y, p = q ++ [y] := by
    rcases List.eq_nil_or_concat p with h0 | ⟨q, y, h0⟩
    ·rw [h0] at hp; cases hp
    ·exact ⟨q, y, by rw [h0]; simp⟩
   have hql : (q ++ [y]).length = q.length + 1 := by simp
   have hy : l[q.length]? = some y := by rw [<- h]; simp
   have hlen := Rp hy
   have e0 : W (((q ++ [y]).length : Int) - 1) = (q.length : Int) := by rw [D0 (by omega)]; omega
   have hasc := hs
   rw [<- h] at hasc
   obtain ⟨ha1, ha2, ha3⟩ := List.pairwise_append.1 hasc
   obtain ⟨hb1, hb2, hb3⟩ := List.pairwise_append.1 ha1
   by_cases c1 : 0 < Ph y x
   ·have hxy : Ir x y = true := decide_eq_true (by have := Mg.anti y x; omega)
    have e : B1.l1 l x ((q ++ [y]).length : Int) = some (.next (q.length : Int)) := by
     unfold B1.l1
     rw [decide_eq_true (by omega), cond_true, e0, Dj, hy, Option.bind_some, O6, Option.bind_some, decide_eq_true c1]
     unfold B1.j2
     rw [cond_true, e0]
    rw [Dc (body := fun q' => B1.l1 l x q') e]
    refine ih q (y :: m) (by omega) (by rw [<- h]; simp) fun z hz => ?_
    rcases List.mem_cons.1 hz with rfl | hz
    ·exact hxy
    ·exact hm z hz
   ·have e : ∀ R, B1.j3 l x ((q ++ [y]).length : Int) (decide (Ph y x = 0)) = some R -> B1.l1 l x ((q ++ [y]).length : Int) = up (some R) := fun R hR => by
     unfold B1.l1
     rw [decide_eq_true (by omega), cond_true, e0, Dj, hy, Option.bind_some, O6, Option.bind_some, decide_eq_false c1]
     unfold B1.j2
     rw [cond_false, decide_eq_true (by omega), cond_true, e0, Dj, hy, Option.bind_some, O6, Option.bind_some, hR]
    by_cases c2 : Ph y x = 0
    ·have hyx := U8 y x c2
     subst hyx
     rw [C5 (e l (by rw [decide_eq_true c2]; rfl))]
     refine congrArg some (Qo Ix hs (Mk Ix hs) fun z => ?_)
     rw [Me Ix]
     constructor
     ·exact .inr
     ·rintro (rfl | h1)
      ·exact Q9 hy
      ·exact h1
    ·have hyx : Ir y x = true := decide_eq_true (by omega)
     rw [C5 (e _ (by rw [decide_eq_false c2]; exact lay _ m h))]
     have hall : ∀ z ∈ q ++ [y], Ir z x = true := fun z hz => by
      rcases List.mem_append.1 hz with hz | hz
      ·exact Ix.trans _ _ _ (hb3 z hz y (by simp)) hyx
      ·rw [List.mem_singleton.1 hz]; exact hyx
     refine congrArg some (Qo Ix (List.pairwise_append.2 ⟨ha1, .cons hm ha2, fun z hz w hw => ?_⟩) (Mk Ix hs) fun z => ?_)
     ·rcases List.mem_cons.1 hw with rfl | hw
      ·exact hall z hz
      ·exact ha3 z hz w hw
     ·rw [Me Ix, <- h]
      simp only [List.mem_append, List.mem_cons]
      constructor
      ·rintro (h1 | h1 | h1)
       ·exact .inr (.inl h1)
       ·exact .inl h1
       ·exact .inr (.inr h1)
      ·rintro (h1 | h1 | h1)
       ·exact .inr (.inl h1)
       ·exact .inl h1
       ·exact .inr (.inr h1)
 exact key l.length l [] rfl (by simp) (fun _ h => by cases h)
def S1 (f : Aa) : Bool := !decide (Qy f = 0)
def Nm (l : List Aa) : List Aa × Int := bif l.any S1 then ([], 24) else (D2 Ir l, 0)
theorem Wf {f : Aa} (h : S1 f = true) : Qy f = 24 := by
 unfold S1 at h
 unfold Qy at h ⊢
 revert h
 cases (Ic f.Host && (Ic f.Subject && (decide (0 <= f.Machine) && decide (f.Machine <= 1099511627776)))) && ((decide (0 <= f.Day) && (decide (f.Day <= 40000) && (decide (1 <= f.Confidence) && decide (f.Confidence <= 100)))) && (decide (1 <= f.Source) && (decide (f.Source <= 7) && T8 f))) with
 | true => intro h; cases h
 | false => intro _; rfl
theorem hE (l : List Aa) (h4 : l.length <= 400) (hf : ∀ f ∈ l, Je f) : B4 l = some (Nm l) := by
 have hcap := Yr
 obtain ⟨r, hr1, hr2, hr3⟩ := Lw Ix.swo aA l (by unfold Fh; omega) (fun _ _ => trivial)
 have hrl : r.length = l.length := hr2.length_eq
 obtain ⟨c, hc1, rfl⟩ := J7 r (by omega)
 rw [V6 Ix hr2 hr3] at hc1
 have hsl := Ht Ir l
 unfold B4 Nm
 refine Sv l S1 (([] : List Aa), (24 : Int)) (D2 Ir l, (0 : Int)) (by unfold Lo; omega) (fun i x hx => ?_) ?_
 ·show B4.l1 l (i : Int) = _
  unfold B4.l1
  rw [K5 hx, Pz (hf x (Q9 hx)), Option.bind_some]
  cases hb : S1 x with
  | true =>
   have e1 : (!decide (Qy x = 0)) = true := hb
   rw [e1, Wf hb]; rfl
  | false =>
   have e1 : (!decide (Qy x = 0)) = false := hb
   rw [e1]; rfl
 ·show B4.l1 l (l.length : Int) = _
  unfold B4.l1
  rw [J9, U5 l (by omega), Option.bind_some, hr1, Option.bind_some, hc1, Option.bind_some, decide_eq_false (by omega)]
  rfl
theorem cR (l : List Aa) (h4 : l.length <= 400) (hf : ∀ f ∈ l, Je f) : Cj l = some (Nm l) := by
 have l2 : ∀ (m p acc : List Aa), p ++ m = l -> Z8 Ir acc -> acc.length + m.length <= 400 -> Cy (fun q' => Cj.l2 l q'.1 q'.2) ((p.length : Int), acc) = some (m.foldl (Mq Ir) acc, 0) := by
  intro m
  induction m with
  | nil =>
   intro p acc hp hs hl
   have : l.length = p.length := by rw [<- hp]; simp
   refine C5 (x := some (acc, 0)) ?_
   show Cj.l2 l (p.length : Int) acc = _
   unfold Cj.l2
   rw [decide_eq_false (by omega), cond_false]
  | cons y m ih =>
   intro p acc hp hs hl
   rw [List.length_cons] at hl
   have hy : l[p.length]? = some y := by rw [<- hp]; simp
   have hlen := Rp hy
   have hq := Tp Ir y acc
   have e1 : Cj.l2 l (p.length : Int) acc = some (.next ((((p ++ [y]).length : Nat) : Int), Mq Ir acc y)) := by
    unfold Cj.l2
    rw [decide_eq_true (by omega), cond_true, Dj, hy, Option.bind_some, eQ acc y (by omega) hs, Option.bind_some, decide_eq_false (by omega), cond_false, D0 (by omega)]
    simp
   rw [Dc (body := fun q' => Cj.l2 l q'.1 q'.2) e1, ih (p ++ [y]) _ (by simp [hp]) (Mk Ix hs) (by omega)]
   rfl
 unfold Cj Nm
 refine Sv l S1 (([] : List Aa), (24 : Int)) (D2 Ir l, (0 : Int)) (by unfold Lo; omega) (fun i x hx => ?_) ?_
 ·show Cj.l1 l (i : Int) = _
  unfold Cj.l1
  rw [K5 hx, Rr (hf x (Q9 hx)), Option.bind_some]
  cases hb : S1 x with
  | true =>
   have e1 : (!decide (Qy x = 0)) = true := hb
   rw [e1, Wf hb]; rfl
  | false =>
   have e1 : (!decide (Qy x = 0)) = false := hb
   rw [e1]; rfl
 ·show Cj.l1 l (l.length : Int) = _
  unfold Cj.l1
  have := l2 l [] [] rfl .nil (by simpa using h4)
  rw [show ((([] : List Aa).length : Nat) : Int) = 0 from rfl] at this
  rw [J9, this]
  rfl
theorem P5 (a b : List Aa) (h : a.length < 1000000) : C6 a b = some (decide (a = b)) := by
 unfold C6
 by_cases hl : a.length = b.length
 ·rw [decide_eq_true (show (a.length : Int) = (b.length : Int) by omega), Bool.not_true, cond_false]
  have key : ∀ (m n p : List Aa), p ++ m = a -> p ++ n = b -> Cy (fun q' => C6.l1 a b q') (p.length : Int) = some (decide (m = n)) := by
   intro m
   induction m with
   | nil =>
    intro n p h1 h2
    have hn : n = [] := List.eq_nil_of_length_eq_zero (by have e1 := congrArg List.length h1; have e2 := congrArg List.length h2; simp at e1 e2; omega)
    subst hn
    refine C5 (x := some true) ?_
    show C6.l1 a b (p.length : Int) = _
    unfold C6.l1
    rw [decide_eq_false (by rw [<- h1]; simp), cond_false]
   | cons x m ih =>
    intro n p h1 h2
    cases n with
    | nil => have e1 := congrArg List.length h1; have e2 := congrArg List.length h2; simp at e1 e2; omega
    | cons y n =>
     have hx : a[p.length]? = some x := by rw [<- h1]; simp
     have hy : b[p.length]? = some y := by rw [<- h2]; simp
     have hlen := (List.getElem?_eq_some_iff.1 hx).1
     by_cases hxy : x = y
     ·subst hxy
      have e1 : C6.l1 a b (p.length : Int) = some (.next (((p ++ [x]).length : Nat) : Int)) := by
       unfold C6.l1
       rw [decide_eq_true (by omega), cond_true, Dj, hx, Option.bind_some, Dj, hy, Option.bind_some, decide_eq_true rfl, Bool.not_true, cond_false, D0 (by omega)]
       simp
      rw [Dc e1, ih n (p ++ [x]) (by simp [h1]) (by simp [h2])]
      simp
     ·have e1 : C6.l1 a b (p.length : Int) = up (some false) := by
       unfold C6.l1
       rw [decide_eq_true (by omega), cond_true, Dj, hx, Option.bind_some, Dj, hy, Option.bind_some, decide_eq_false hxy, Bool.not_false, cond_true]
      rw [C5 e1]
      simp [hxy]
  exact key a b [] rfl rfl
 ·rw [decide_eq_false (show ¬ (a.length : Int) = (b.length : Int) by omega), Bool.not_false, cond_true, decide_eq_false (fun e => hl (by rw [e]))]
end Go.Proofs.Ytjomajedgbcngaa
