import Derived.Test.YtopkgllcjbpdeaaDoorOD
set_option linter.unusedVariables false
set_option linter.unusedSimpArgs false
set_option maxRecDepth 100000
namespace Go.Proofs.YtopkgllcjbpdeaaDoor
open Go
theorem Xb (n : Int) (l : List Aa) (hl : l.length <= 1000) : ∃ y, B4 n l = some (y, Dn n l) /\ Bp n l = some (y, Dn n l) /\ y.length <= 1000 := by
 obtain ⟨r1, r2⟩ := Xy n l hl
 rcases T2 n l hl with ⟨h, e⟩ | ⟨m, hm, hv, hc, e⟩
 ·exact ⟨[], e, r1 h, by simp⟩
 ·rw [hc]
  refine ⟨_, e, r2 m hm hv, ?_⟩
  have h1 := F2 (Gv m l) m m
  have h2 : m * m <= 24 * 24 := Nat.mul_le_mul hv.n24 hv.n24
  unfold Hz
  omega
theorem cY (n : Int) (l : List Aa) (hl : l.length <= 1000) : ∃ y, Be n l = some y /\ By n l = some y := by
 by_cases hc : Dn n l = 0
 ·obtain ⟨m, rfl, hv⟩ := In hc
  exact ⟨_, dK hv hl⟩
 ·exact ⟨_, V1 hl hc⟩
theorem Zl (n : Int) (l : List Aa) (hl : l.length <= 1000) : ∃ y, Ct n l = some y /\ C4 n l = some y /\ y.1.length <= 1000 := by
 by_cases hc : Dn n l = 0
 ·obtain ⟨m, rfl, hv⟩ := In hc
  obtain ⟨a, b⟩ := Pg hv hl
  have := hv.n24
  exact ⟨_, a, b, by rw [Kl]; omega⟩
 ·obtain ⟨a, b⟩ := cF hl hc
  exact ⟨_, a, b, by simp⟩
theorem X6 (n : Int) (l : List Aa) (s : List Int) (hl : l.length <= 1000) (hs : s.length <= 1000) : ∃ y, Da n l s = some y /\ D1 n l s = some y := by
 by_cases hc : Dn n l = 0
 ·obtain ⟨m, rfl, hv⟩ := In hc
  by_cases h : VS m s
  ·exact ⟨_, Hb hv hl h⟩
  ·exact ⟨_, T7 hv hl hs h⟩
 ·exact ⟨_, Tw s hl hc⟩
theorem Z7 (n : Int) (l : List Aa) (s : List Int) (hl : l.length <= 1000) (hs : s.length <= 1000) : ∃ y, D2 n l s = some y /\ El n l s = some y /\ y.1.length <= 1000 := by
 by_cases hc : Dn n l = 0
 ·obtain ⟨m, rfl, hv⟩ := In hc
  by_cases h : VS m s /\ So m l s
  ·obtain ⟨w, a, b, -, c, -⟩ := Pn hv hl h.1 h.2
   have := c.len
   have := hv.n24
   exact ⟨_, a, b, by show w.length <= 1000; omega⟩
  ·obtain ⟨a, b⟩ := cD hv hl hs h
   exact ⟨_, a, b, by simp⟩
 ·obtain ⟨a, b⟩ := dP s hl hc
  exact ⟨_, a, b, by simp⟩
theorem T0 (n : Int) (l : List Aa) (s : List Int) (hl : l.length <= 1000) (hs : s.length <= 1000) : ∃ y, C8 n l s = some y /\ Dl n l s = some y /\ y.1.length <= 1000 := by
 by_cases hc : Dn n l = 0
 ·obtain ⟨m, rfl, hv⟩ := In hc
  by_cases h : VS m s /\ So m l s
  ·obtain ⟨w, a, b, c, -⟩ := K4 hv hl h.1 h.2
   have := c.len
   have := hv.n24
   exact ⟨_, a, b, by show w.length <= 1000; omega⟩
  ·obtain ⟨a, b⟩ := U6 hv hl hs h
   exact ⟨_, a, b, by simp⟩
 ·obtain ⟨a, b⟩ := Va s hl hc
  exact ⟨_, a, b, by simp⟩
theorem dG (n : Int) (l : List Aa) (s : List Int) (hl : l.length <= 1000) (hs : s.length <= 1000) : ∃ y, Bx n l s = some y /\ B3 n l s = some y /\ y.1.length <= 1000 := by
 by_cases hc : Dn n l = 0
 ·obtain ⟨m, rfl, hv⟩ := In hc
  by_cases h : VS m s
  ·obtain ⟨a, b⟩ := Vn hv hl h
   refine ⟨_, a, b, ?_⟩
   have h1 := F2 (J6 m l s) s.length s.length
   have h3 := h.len
   have h4 := hv.n24
   have h2 : s.length * s.length <= 24 * 24 := Nat.mul_le_mul (by omega) (by omega)
   show (Pj m l s).length <= 1000
   unfold Pj
   omega
  ·obtain ⟨a, b⟩ := iL hv hl hs h
   exact ⟨_, a, b, by simp⟩
 ·obtain ⟨a, b⟩ := gH s hl hc
  exact ⟨_, a, b, by simp⟩
theorem Jf (a : List Int) (h : a.length <= 100000) : Co a a = some true := by
 unfold Co
 rw [decide_eq_true rfl, Bool.not_true, cond_false]
 refine Ok.true_ (J0 (fun i (q : Unit) => i) a.length (fun _ _ => True) (fun i _ hi _ => ?_) (fun _ _ => ?_) (s := ()) trivial)
 ·obtain ⟨x, hx⟩ : ∃ x, a[i]? = some x := ⟨_, List.getElem?_eq_getElem hi⟩
  show Ok (Co.l1 a a (i : Int)) _
  unfold Co.l1
  rw [Dx hx, F6 hx, Option.bind_some, decide_eq_true rfl, W1 (by omega)]
  exact Ok.ret ⟨(), rfl, trivial⟩
 ·show Ok (Co.l1 a a (a.length : Int)) _
  unfold Co.l1
  rw [Dt]
  exact Ok.up (Ok.ret rfl)
theorem U1 (a : List (List Int)) (h : a.length <= 100000) (hx : ∀ x ∈ a, x.length <= 1000) : C6 a a = some true := by
 unfold C6
 rw [decide_eq_true rfl, Bool.not_true, cond_false]
 refine Ok.true_ (J0 (fun i (q : Unit) => i) a.length (fun _ _ => True) (fun i _ hi _ => ?_) (fun _ _ => ?_) (s := ()) trivial)
 ·obtain ⟨x, hx'⟩ : ∃ x, a[i]? = some x := ⟨_, List.getElem?_eq_getElem hi⟩
  have := hx x (H8 hx')
  show Ok (C6.l1 a a (i : Int)) _
  unfold C6.l1
  rw [Dx hx', F6 hx', Option.bind_some, Jf x (by omega), Option.bind_some, W1 (by omega)]
  exact Ok.ret ⟨(), rfl, trivial⟩
 ·show Ok (C6.l1 a a (a.length : Int)) _
  unfold C6.l1
  rw [Dt]
  exact Ok.up (Ok.ret rfl)
theorem lC {n : Nat} (hn : n <= 24) {l : List Aa} (hl : hO n l) (hlen : l.length <= 1000) {s : List Int} (hs : VS n s) : Ok (B8 (n : Int) l s) (fun y => y.length <= n) := by
 have hsl := hs.len
 unfold B8
 refine Ok.bind (S0 (by omega) hl (by omega)) fun M hM => ?_
 refine J0 (fun i (q : List Int) => (i, q)) n (fun i q => q.length <= i) (fun i q hi hq => ?_) (fun q hq => ?_) (s := []) (Nat.le_refl _)
 ·obtain ⟨r, a1, a2, a3, a4⟩ := hM.get hi
  show Ok (B8.l1 (n : Int) s M (i : Int) q) _
  unfold B8.l1
  rw [P9 hi, cond_true, Xa s _ (by omega), Option.bind_some]
  refine J0 (fun k (b : Bool) => (b, k)) s.length (fun _ _ => True) (fun k b hk _ => ?_) (fun b _ => ?_) trivial
  ·obtain ⟨x, b1, b2, b3⟩ := hs.at hk
   show Ok (B8.l2 s M (i : Int) q b (k : Int)) _
   unfold B8.l2 B8.j3
   rw [Dx b1, W1 (by omega)]
   refine Ok.cond (fun _ => Ok.ret ⟨_, rfl, trivial⟩) (fun _ => ?_)
   rw [a1, Option.bind_some, a4 x b2, Option.bind_some]
   exact Ok.ret ⟨_, rfl, trivial⟩
  ·show Ok (B8.l2 s M (i : Int) q b (s.length : Int)) _
   unfold B8.l2 B8.j4
   rw [Dt, W1 (by omega)]
   refine Ok.up (Ok.cond (fun _ => ?_) (fun _ => ?_))
   ·rw [U4 (by omega), Option.bind_some]
    exact Ok.ret ⟨_, rfl, by rw [List.length_append, List.length_singleton]; omega⟩
   ·exact Ok.ret ⟨_, rfl, by omega⟩
 ·show Ok (B8.l1 (n : Int) s M (n : Int) q) _
  unfold B8.l1
  rw [Qx, cond_false]
  exact Ok.up (Ok.ret hq)
theorem W0 (t : List Int) (raw : List Aa) (s : List Int) (n : Int) : Aq t raw s n = some true := by
 have out : Aq.j1 t raw s n true = some true := by
  unfold Aq.j1
  rw [cond_true, Ja]; rfl
 unfold Aq D9
 rw [Option.bind_some]
 by_cases hl : (t.length : Int) <= 400
 ·rw [decide_eq_true hl, Bool.not_true, cond_false]
  by_cases hr : (60 : Int) < (raw.length : Int)
  ·rw [decide_eq_true hr]; exact out
  rw [decide_eq_false hr, cond_false]
  by_cases hs : (60 : Int) < (s.length : Int)
  ·rw [decide_eq_true hs]; exact out
  rw [decide_eq_false hs]
  unfold Aq.j1
  rw [cond_false]
  refine Ok.true_ ?_
  refine Ok.bind (Uo (by omega)) fun d hd => ?_
  refine Ok.bind (H5 hd 6 (by omega) (by omega)) fun y4 h4 => ?_
  obtain ⟨hM, hd4⟩ := h4
  have hv := hM.vok (by omega)
  have hlen := hM.len
  have hl4 : y4.1.length <= 1000 := by omega
  refine Ok.bind (iG n 12 (by omega) (by omega)) fun y5 h5 => ?_
  have B := L8 Il (y4.1 ++ raw)
  rw [List.length_append] at B
  have hlist : ∀ e ∈ ([y4.1, raw, Ex Il (y4.1 ++ raw)] : List (List Aa)), e.length <= 1000 := fun e he => by
   simp only [List.mem_cons, List.not_mem_nil, or_false] at he
   rcases he with rfl | rfl | rfl <;> omega
  refine J0 (fun i (q : Ai) => (i, q)) 3 (fun _ q => aH q) (fun i q hi hq => ?_) (fun q hq => ?_) (s := y4.2) hd4
  ·show Ok (Aq.l2 raw s n y4 y5 (i : Int) q) _
   have hi3 : i < ([6, n, W (y5 - 1)] : List Int).length := hi
   obtain ⟨e, he⟩ : ∃ e, ([6, n, W (y5 - 1)] : List Int)[i]? = some e := ⟨_, List.getElem?_eq_getElem hi3⟩
   unfold Aq.l2
   rw [Dx he, He _ _ (by omega), Option.bind_some]
   refine J0 (fun i (q : Ai) => (i, q)) 3 (fun _ q => aH q) (fun j q hj hq => ?_) (fun q hq => ?_) (s := q) hq
   ·show Ok (Aq.l3 raw s y4 (i : Int) e (Ex Il (y4.1 ++ raw)) (j : Int) q) _
    have hj3 : j < ([y4.1, raw, Ex Il (y4.1 ++ raw)] : List (List Aa)).length := hj
    obtain ⟨l, hl'⟩ : ∃ l, ([y4.1, raw, Ex Il (y4.1 ++ raw)] : List (List Aa))[j]? = some l := ⟨_, List.getElem?_eq_getElem hj3⟩
    have hll := hlist l (H8 hl')
    obtain ⟨a, a1, a2, a3⟩ := Xb e l hll
    obtain ⟨b, b1, b2, b3⟩ := Zl e l hll
    unfold Aq.l3
    rw [Dx hl', a1, Option.bind_some, a2, Option.bind_some, b1, Option.bind_some, b2, Option.bind_some, (E5 e l hll).1]
    dsimp only
    rw [decide_eq_true (p := Dn e l = Dn e l) rfl, decide_eq_true (p := b.2 = b.2) rfl, Bool.not_true, cond_false, cond_false, Option.bind_some, decide_eq_true (p := Dn e l = Dn e l) rfl, Bool.not_true, cond_false, aQ a a (by omega), Option.bind_some, decide_eq_true (p := a = a) rfl, Bool.not_true, cond_false, Jf b.1 (by omega), Option.bind_some]
    unfold Aq.j4
    rw [Bool.not_true, cond_false]
    refine Ok.bind (Nl hq 6 (by omega)) fun y14 h14 => ?_
    refine Ok.bind (Nl h14.2 6 (by omega)) fun y15 h15 => ?_
    refine Ok.bind (lC (n := 6) (by omega) hv.inr hl4 h15.1) fun y16 h16 => ?_
    have hz : ∀ z ∈ ([s, y14.1, y16, ([] : List Int)] : List (List Int)), z.length <= 1000 := fun z hz => by
     have := h14.1.len
     simp only [List.mem_cons, List.not_mem_nil, or_false] at hz
     rcases hz with rfl | rfl | rfl | rfl
     ·omega
     ·omega
     ·omega
     ·simp
    refine J0 (fun i (q : Unit) => i) 4 (fun _ _ => True) (fun k _ hk _ => ?_) (fun _ _ => ?_) (s := ()) trivial
    ·show Ok (Aq.l5 s e (j : Int) l y14 y15 y16 (k : Int)) _
     have hk4 : k < ([s, y14.1, y16, ([] : List Int)] : List (List Int)).length := hk
     obtain ⟨z, hz'⟩ : ∃ z, ([s, y14.1, y16, ([] : List Int)] : List (List Int))[k]? = some z := ⟨_, List.getElem?_eq_getElem hk4⟩
     have hzl := hz z (H8 hz')
     obtain ⟨p, p1, p2⟩ := X6 e l z hll hzl
     obtain ⟨u, u1, u2, u3⟩ := Z7 e l z hll hzl
     obtain ⟨w, w1, w2, w3⟩ := T0 e l z hll hzl
     obtain ⟨c, c1, c2, c3⟩ := dG e l z hll hzl
     unfold Aq.l5
     rw [Dx hz', p1, Option.bind_some, p2, Option.bind_some, u1, Option.bind_some, u2, Option.bind_some, w1, Option.bind_some, w2, Option.bind_some, c1, Option.bind_some, c2, Option.bind_some]
     rw [decide_eq_true (p := p.1 = p.1) rfl, decide_eq_true (p := p.2 = p.2) rfl, decide_eq_true (p := u.2 = u.2) rfl, decide_eq_true (p := w.2 = w.2) rfl, decide_eq_true (p := c.2 = c.2) rfl, Bool.not_true, cond_false, cond_false, cond_false, cond_false, cond_false, Jf u.1 (by omega), Option.bind_some, Bool.not_true, cond_false, Jf w.1 (by omega), Option.bind_some, Bool.not_true, cond_false, aQ c.1 c.1 (by omega), Option.bind_some, decide_eq_true (p := c.1 = c.1) rfl]
     unfold Aq.j6
     rw [Bool.not_true, cond_false, W1 (by omega)]
     exact Ok.ret ⟨(), rfl, trivial⟩
    ·show Ok (Aq.l5 s e (j : Int) l y14 y15 y16 4) _
     unfold Aq.l5
     rw [decide_eq_false (p := (4 : Int) < _) (by simp), cond_false, W1 (by omega)]
     exact Ok.up (Ok.ret ⟨_, rfl, h15.2⟩)
   ·show Ok (Aq.l3 raw s y4 (i : Int) e (Ex Il (y4.1 ++ raw)) 3 q) _
    unfold Aq.l3
    rw [decide_eq_false (p := (3 : Int) < _) (by simp), cond_false, W1 (by omega)]
    exact Ok.up (Ok.ret ⟨_, rfl, hq⟩)
  ·show Ok (Aq.l2 raw s n y4 y5 3 q) _
   obtain ⟨h64, hs6⟩ := Jl hv (by omega)
   obtain ⟨z, z1, z2⟩ := cY 24 y4.1 hl4
   unfold Aq.l2
   rw [decide_eq_false (p := (3 : Int) < _) (by simp), cond_false]
   refine Ok.up ?_
   refine Ok.bindE (Hd hv hl4) ?_
   refine Ok.bindE (Uq hv hl4) ?_
   rw [hs6]
   dsimp only
   rw [decide_eq_true (p := (0 : Int) = 0) rfl, Bool.not_true, cond_false, U1 _ (by omega) (fun x hx => by have := ((Hc hv).1 hx).1.len; omega), Option.bind_some]
   unfold Aq.j7
   rw [Bool.not_true, cond_false, z1, Option.bind_some, z2, Option.bind_some, decide_eq_true rfl, cond_true, Ja]
   exact ⟨_, rfl, rfl⟩
 ·rw [decide_eq_false hl]; exact out
end Go.Proofs.YtopkgllcjbpdeaaDoor
