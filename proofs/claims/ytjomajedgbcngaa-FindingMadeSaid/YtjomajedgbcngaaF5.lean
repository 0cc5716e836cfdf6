import Derived.Test.YtjomajedgbcngaaF4
set_option autoImplicit false
set_option linter.unusedVariables false
set_option linter.unusedSimpArgs false
namespace Go.Proofs.Ytjomajedgbcngaa
open Go
theorem gA {n : Int} (h0 : 0 <= n) (h1 : n <= 100000) : Dq n = some [] := by
 unfold Dq
 have e : W (n - W (0 - 0)) = n := by rw [show W (0 - 0) = 0 from rfl, D0 (by omega)]; omega
 rw [decide_eq_false (by omega), cond_false, e]
 by_cases hn : 0 < n
 ·rw [decide_eq_true hn, cond_true]
  unfold cM
  rw [if_pos ⟨hn, by omega, by omega⟩, Option.bind_some, dO (by omega), Option.bind_some]
  rfl
 ·rw [decide_eq_false hn, cond_false]
theorem Zf (a b : List Aa) (h : a.length + b.length <= 100000) : Ax [a, b] = some (a ++ b) := by
 have e0 : Ax.l1 [a, b] 0 ((0 : Nat) : Int) = some (.next ((a.length : Int), ((1 : Nat) : Int))) := by
  unfold Ax.l1
  rw [K5 (show [a, b][0]? = some a from rfl), Int.zero_add, D0 (x := (a.length : Int)) (by omega), decide_eq_false (by omega), cond_false, D0 (by omega)]
  rfl
 have e1 : Ax.l1 [a, b] (a.length : Int) ((1 : Nat) : Int) = some (.next ((a.length : Int) + (b.length : Int), ((2 : Nat) : Int))) := by
  unfold Ax.l1
  rw [K5 (show [a, b][1]? = some b from rfl), D0 (x := (a.length : Int) + (b.length : Int)) (by omega), decide_eq_false (by omega), cond_false, D0 (by omega)]
  rfl
 have f0 : Ax.l2 [a, b] ((0 : Nat) : Int) [] = some (.next (((1 : Nat) : Int), a)) := by
  unfold Ax.l2
  rw [K5 (show [a, b][0]? = some a from rfl), Kd (by simp; omega), Option.bind_some, D0 (by omega)]
  rfl
 have f1 : Ax.l2 [a, b] ((1 : Nat) : Int) a = some (.next (((2 : Nat) : Int), a ++ b)) := by
  unfold Ax.l2
  rw [K5 (show [a, b][1]? = some b from rfl), Kd (by omega), Option.bind_some, D0 (by omega)]
  rfl
 have f2 : Ax.l2 [a, b] ((2 : Nat) : Int) (a ++ b) = up (some (a ++ b)) := by
  unfold Ax.l2
  rw [show ((2 : Nat) : Int) = (([a, b].length : Nat) : Int) from rfl, J9]
 have e2 : Ax.l1 [a, b] ((a.length : Int) + (b.length : Int)) ((2 : Nat) : Int) = up (some (a ++ b)) := by
  unfold Ax.l1
  rw [show ((2 : Nat) : Int) = (([a, b].length : Nat) : Int) from rfl, J9, gA (by omega) (by omega), Option.bind_some]
  show up (Cy (fun q' => Ax.l2 [a, b] q'.1 q'.2) (((0 : Nat) : Int), [])) = _
  rw [Dc (body := fun q' => Ax.l2 [a, b] q'.1 q'.2) (s := (((0 : Nat) : Int), [])) f0, Dc (body := fun q' => Ax.l2 [a, b] q'.1 q'.2) (s := (((1 : Nat) : Int), a)) f1, C5 (body := fun q' => Ax.l2 [a, b] q'.1 q'.2) (s := (((2 : Nat) : Int), a ++ b)) f2]
 unfold Ax
 show Cy (fun q' => Ax.l1 [a, b] q'.1 q'.2) (0, ((0 : Nat) : Int)) = _
 rw [Dc (body := fun q' => Ax.l1 [a, b] q'.1 q'.2) (s := (0, ((0 : Nat) : Int))) e0, Dc (body := fun q' => Ax.l1 [a, b] q'.1 q'.2) (s := ((a.length : Int), ((1 : Nat) : Int))) e1, C5 (body := fun q' => Ax.l1 [a, b] q'.1 q'.2) (s := ((a.length : Int) + (b.length : Int), ((2 : Nat) : Int))) e2]
theorem Sb {a b : List Aa} (ha : ∀ f ∈ a, Je f) (hb : ∀ f ∈ b, Je f) : ∀ f ∈ a ++ b, Je f := fun f hf => by
 rcases List.mem_append.1 hf with h | h
 ·exact ha f h
 ·exact hb f h
theorem bK (a b : List Aa) (h : a.length + b.length <= 400) (ha : ∀ f ∈ a, Je f) (hb : ∀ f ∈ b, Je f) : C8 a b = some (Nm (a ++ b)) := by
 unfold C8
 rw [Zf a b (by omega), Option.bind_some, hE _ (by rw [List.length_append]; exact h) (Sb ha hb)]
 rfl
theorem jC (a b : List Aa) (h : a.length + b.length <= 400) (ha : ∀ f ∈ a, Je f) (hb : ∀ f ∈ b, Je f) : H3 a b = some (Nm (a ++ b)) := by
 unfold H3
 rw [Kd (by simp; omega), Option.bind_some, List.nil_append, Kd (by omega), Option.bind_some, cR _ (by rw [List.length_append]; exact h) (Sb ha hb)]
 rfl
def Kn (l : List Aa) : Prop := ∀ f ∈ l, Je f /\ Qy f = 0
theorem Kn.fit {l : List Aa} (h : Kn l) : ∀ f ∈ l, Je f := fun f hf => (h f hf).1
theorem Kn.norm {l : List Aa} (h : Kn l) : Nm l = (D2 Ir l, 0) := by
 have : l.any S1 = false := by
  rw [<- Bool.not_eq_true, List.any_eq_true]
  rintro ⟨f, hf, hb⟩
  unfold S1 at hb
  rw [(h f hf).2] at hb
  cases hb
 unfold Nm
 rw [this]; rfl
theorem Kn.app {a b : List Aa} (ha : Kn a) (hb : Kn b) : Kn (a ++ b) := fun f hf => by
 rcases List.mem_append.1 hf with h | h
 ·exact ha f h
 ·exact hb f h
theorem Kn.sort {l : List Aa} (h : Kn l) : Kn (D2 Ir l) := fun f hf => h f ((Kh Ix).1 hf)
theorem fV {f : Aa} (h : fF f) : Je f /\ Qy f = 0 := by
 refine ⟨h.2, ?_⟩
 have := (Pz h.2).symm.trans h.1
 injection this
theorem I7 {a b : List Aa} (h : a.length + b.length <= 400) (ha : Kn a) (hb : Kn b) : C8 a b = some (D2 Ir (a ++ b), 0) := by
 rw [bK a b h ha.fit hb.fit, (ha.app hb).norm]
theorem G0 {d : Aj} (hd : Tl d) {n : Nat} (hn : n <= 100) : Ok (C9 d (n : Int)) (fun y => (y.1.length <= n /\ Kn y.1) /\ Tl y.2) := by
 unfold C9
 rw [D0 (by omega)]
 refine Ok.bind (Hu hd _ (by omega) (by omega)) fun y hy => ?_
 have hy1 := hy.1
 refine Ok.loop (fun s : Int × Aj × List Aa => (0 <= s.1 /\ s.1 + (s.2.2.length : Int) <= n) /\ Tl s.2.1 /\ ∀ f ∈ s.2.2, fF f) (fun s => s.1.toNat) ?_ ⟨⟨hy1.1, by show y.1 + ((([] : List Aa).length : Nat) : Int) <= n; simp; omega⟩, hy.2, fun f hf => by cases hf⟩
 rintro ⟨i, d1, l⟩ ⟨⟨h1, h2⟩, h3, h4⟩
 dsimp only at h1 h2 h3 h4
 show Ok (C9.l1 i d1 l) _
 unfold C9.l1
 refine Ok.cond (fun hb => ?_) (fun hb => ?_)
 ·have hb := of_decide_eq_true hb
  refine Ok.bind (Gl h3) fun y2 h5 => ?_
  refine Ok.bind (Tu (by rw [List.length_singleton]; omega)) fun l' hl' => ?_
  subst hl'
  rw [D0 (by omega)]
  refine Ok.ret ⟨⟨⟨by show 0 <= i - 1; omega, ?_⟩, h5.2, fun f hf => ?_⟩, by show (i - 1).toNat < i.toNat; omega⟩
  ·show i - 1 + ((l ++ [y2.1]).length : Int) <= n
   rw [List.length_append, List.length_singleton]; omega
  ·rcases List.mem_append.1 hf with hf | hf
   ·exact h4 f hf
   ·rw [List.mem_singleton.1 hf]; exact h5.1
 ·have hg : Kn l := fun f hf => fV (h4 f hf)
  rw [cR l (by omega) hg.fit, hg.norm, Option.bind_some]
  have := Ht Ir l
  exact Ok.up (Ok.ret ⟨⟨by show (D2 Ir l).length <= n; omega, hg.sort⟩, h3⟩)
theorem P8 (t : List Int) : A6 t = some true := by
 unfold A6 Gr
 rw [Option.bind_some]
 by_cases hl : (t.length : Int) <= 400
 ·rw [decide_eq_true hl, Bool.not_true, cond_false]
  refine Ok.true_ ?_
  refine Ok.bind (X3 (by omega)) fun d hd => ?_
  refine Ok.bind (G0 hd (n := 8) (by omega)) fun y4 h4 => ?_
  refine Ok.bind (G0 h4.2 (n := 8) (by omega)) fun y5 h5 => ?_
  refine Ok.bind (G0 h5.2 (n := 8) (by omega)) fun y6 h6 => ?_
  obtain ⟨a, d4⟩ := y4
  obtain ⟨b, d5⟩ := y5
  obtain ⟨c, d6⟩ := y6
  obtain ⟨⟨la, ga⟩, -⟩ := h4
  obtain ⟨⟨lb, gb⟩, -⟩ := h5
  obtain ⟨⟨lc, gc⟩, -⟩ := h6
  dsimp only at la ga lb gb lc gc
  have s1 := Ht Ir (a ++ b)
  have s2 := Ht Ir (b ++ c)
  have s3 := Ht Ir (D2 Ir (a ++ b) ++ c)
  rw [List.length_append] at s1 s2 s3
  have gx := ((ga.app gb).sort.app gc).sort
  show Ok ((C8 a b).bind fun y_7 => (C8 b a).bind fun y_8 => (C8 b c).bind _) _
  rw [I7 (by omega) ga gb, Option.bind_some, I7 (by omega) gb ga, Option.bind_some, I7 (by omega) gb gc, Option.bind_some, I7 (by omega) (ga.app gb).sort gc, Option.bind_some, I7 (by omega) ga (gb.app gc).sort, Option.bind_some, I7 (by omega) gx gx, Option.bind_some]
  have eab : D2 Ir (a ++ b) = D2 Ir (b ++ a) := Jn Ix fun z => by
   simp only [List.mem_append]; exact Or.comm
  have exy : D2 Ir (D2 Ir (a ++ b) ++ c) = D2 Ir (a ++ D2 Ir (b ++ c)) := Jn Ix fun z => by
   simp only [List.mem_append, Kh Ix]; exact or_assoc
  have exx : D2 Ir (D2 Ir (D2 Ir (a ++ b) ++ c) ++ D2 Ir (D2 Ir (a ++ b) ++ c)) = D2 Ir (D2 Ir (a ++ b) ++ c) := (Jn Ix fun z => by simp only [List.mem_append, or_self]).trans (T6 Ix (O4 Ix _))
  simp only [decide_true, Bool.not_true, cond_false]
  rw [P5 _ _ (by omega), Option.bind_some, decide_eq_true eab, Bool.not_true, cond_false, P5 _ _ (by omega), Option.bind_some, decide_eq_true exy, Bool.not_true, cond_false, P5 _ _ (by omega), Option.bind_some, decide_eq_true exx.symm, Bool.not_true]
  have hmem : ∀ z ∈ c, z ∈ D2 Ir (D2 Ir (a ++ b) ++ c) := fun z hz => (Kh Ix).2 (List.mem_append.2 (.inr hz))
  generalize D2 Ir (D2 Ir (a ++ b) ++ c) = X at *
  unfold A6.j4
  rw [cond_false]
  refine Ok.loop (fun s : Int => ∃ n : Nat, s = (n : Int) /\ n <= c.length) (fun s => c.length - s.toNat) ?_ ⟨0, rfl, Nat.zero_le _⟩
  rintro _ ⟨n, rfl, hn⟩
  show Ok (A6.l5 (a, d4) (b, d5) (c, d6) (X, 0) (n : Int)) _
  unfold A6.l5
  show Ok (cond (decide ((n : Int) < (c.length : Int))) _ _) _
  refine Ok.cond (fun hb => ?_) (fun hb => ?_)
  ·have hnl : n < c.length := by have := of_decide_eq_true hb; omega
   obtain ⟨z, hz⟩ : ∃ z, c[n]? = some z := ⟨_, List.getElem?_eq_getElem hnl⟩
   have hzX := hmem z (Q9 hz)
   refine Ok.loop (fun s : Bool × Int => ∃ k : Nat, s.2 = (k : Int) /\ k <= X.length /\ s.1 = (X.take k).any fun q => decide (q = z)) (fun s => X.length - s.2.toNat) ?_ ⟨0, rfl, Nat.zero_le _, rfl⟩
   rintro ⟨_, _⟩ ⟨k, rfl, hk, rfl⟩
   show Ok (A6.l6 (c, d6) (X, 0) (n : Int) ((X.take k).any fun q => decide (q = z)) (k : Int)) _
   unfold A6.l6
   show Ok (cond (decide ((k : Int) < (X.length : Int))) _ _) _
   refine Ok.cond (fun hb => ?_) (fun hb => ?_)
   ·have hkl : k < X.length := by have := of_decide_eq_true hb; omega
    obtain ⟨q, hq⟩ : ∃ q, X[k]? = some q := ⟨_, List.getElem?_eq_getElem hkl⟩
    have fin : ∀ b : Bool, b = ((X.take (k + 1)).any fun q => decide (q = z)) -> Ok (A6.j7 (k : Int) b) (mG (fun s' : Bool × Int => (∃ k : Nat, s'.2 = (k : Int) /\ k <= X.length /\ s'.1 = (X.take k).any fun q => decide (q = z)) /\ X.length - s'.2.toNat < X.length - ((k : Int)).toNat) (mG (fun s' : Int => (∃ n : Nat, s' = (n : Int) /\ n <= c.length) /\ c.length - s'.toNat < c.length - ((n : Int)).toNat) (fun r => r = true))) := by
     intro b hb
     unfold A6.j7
     rw [D0 (by omega)]
     exact Ok.ret ⟨⟨k + 1, by show (k : Int) + 1 = _; omega, hkl, hb⟩, by show X.length - ((k : Int) + 1).toNat < X.length - ((k : Int)).toNat; omega⟩
    refine Ok.cond (fun h1 => fin _ ?_) (fun h1 => ?_)
    ·rw [I4 hq, List.any_append, h1]; rfl
    ·show Ok ((Cc X (k : Int)).bind fun e => (Cc c (n : Int)).bind _) _
     rw [Dj, hq, Option.bind_some, Dj, hz, Option.bind_some]
     refine fin _ ?_
     rw [I4 hq, List.any_append, h1]; simp
   ·have hkl : k = X.length := by have := of_decide_eq_false hb; omega
    subst hkl
    have : ((X.take X.length).any fun q => decide (q = z)) = true := by
     rw [List.take_length]
     exact List.any_eq_true.2 ⟨z, hzX, decide_eq_true rfl⟩
    rw [this, Bool.not_true, cond_false, D0 (by omega)]
    exact Ok.up (Ok.ret ⟨⟨n + 1, by omega, hnl⟩, by show c.length - ((n : Int) + 1).toNat < c.length - ((n : Int)).toNat; omega⟩)
  ·refine Ok.up ?_
   show Ok (cond (decide ((X.length : Int) <= W (W ((a.length : Int) + (b.length : Int)) + (c.length : Int)))) _ _) _
   rw [D0 (x := (a.length : Int) + (b.length : Int)) (by omega), D0 (by omega), decide_eq_true (by omega), cond_true, Pa, Option.bind_some]
   exact Ok.ret rfl
 ·rw [decide_eq_false hl, Bool.not_false, cond_true, Pa]
  rfl
end Go.Proofs.Ytjomajedgbcngaa
