import Derived.Test.YtopkgllcjbpdeaaDoorOC
set_option linter.unusedVariables false
set_option linter.unusedSimpArgs false
set_option maxRecDepth 100000
namespace Go.Proofs.YtopkgllcjbpdeaaDoor
open Go
theorem fA (l : List (List Int)) (s : List Int) (hl : l.length <= 100000) (h : ∀ x ∈ l, x.length <= 1000) : Eo l s = some (decide (s ∈ l)) := by
 have e : decide (s ∈ l) = l.any fun x => decide (x = s) := by
  cases ha : l.any fun x => decide (x = s) with
  | true =>
   obtain ⟨x, h1, h2⟩ := List.any_eq_true.1 ha
   have := of_decide_eq_true h2
   subst this
   exact decide_eq_true h1
  | false => exact decide_eq_false fun hm => List.any_eq_false.1 ha s hm (decide_eq_true rfl)
 unfold Eo
 rw [e]
 refine (Py l (fun x => decide (x = s)) true false (Qk (by omega)) (fun i x hx => ?_) ?_).trans (by cases l.any fun x => decide (x = s) <;> rfl)
 ·unfold Eo.l1
  rw [Dx hx, Zf _ _ (h x (H8 hx)), Option.bind_some]
  cases decide (x = s) <;> rfl
 ·unfold Eo.l1
  rw [Dt]; rfl
theorem jC {n : Nat} {l : List Aa} (hv : Ia n l) (hn : n <= 6) (s : List Int) : Eo (Dh n l n) s = some (decide (s ∈ Dh n l n)) :=
 fA _ _ (by have := (Jl hv hn).1; omega) fun x hx => by have := ((Hc hv).1 hx).1.len; omega
theorem pW {n : Nat} {l : List Aa} (hv : Ia n l) : n + 1 <= (Dh n l n).length := by
 have hnd : ((List.range (n + 1)).map (Ug n l)).Nodup := by
  rw [List.Nodup, List.pairwise_map]
  refine List.Pairwise.imp_of_mem (fun {a b} ha hb hne e => hne ?_) List.nodup_range
  have h1 := (Nr hv a (by have := List.mem_range.1 ha; omega)).2.2
  have h2 := (Nr hv b (by have := List.mem_range.1 hb; omega)).2.2
  rw [e] at h1
  omega
 have := List.Nodup.length_le_of_subset (l₂ := Dh n l n) hnd fun t ht => by
  obtain ⟨k, hk, rfl⟩ := List.mem_map.1 ht
  obtain ⟨g1, g2, g3⟩ := Nr hv k (by have := List.mem_range.1 hk; omega)
  exact (Hc hv).2 ⟨g1, g2⟩
 rwa [List.length_map, List.length_range] at this
theorem Ul (t : List Int) (a b : UInt8) : A6 t a b = some true := by
 unfold A6 D9
 rw [Option.bind_some]
 by_cases hl : (t.length : Int) <= 400
 ·rw [decide_eq_true hl, Bool.not_true, cond_false]
  refine Ok.true_ ?_
  refine Ok.bind (Uo (by omega)) fun d hd => ?_
  refine Ok.bind (H5 hd 6 (by omega) (by omega)) fun y4 h4 => ?_
  obtain ⟨hM, -⟩ := h4
  have hv := hM.vok (by omega)
  have hlen := hM.len
  have hl4 : y4.1.length <= 1000 := by omega
  have hfl := Kl 6 y4.1 6
  refine Ok.bindE (Pg hv hl4).1 ?_
  show Ok (A6.j1 a b y4 (La 6 y4.1 6, 0) (!decide (((La 6 y4.1 6).length : Int) = 6))) _
  rw [hfl, decide_eq_true (p := ((6 : Nat) : Int) = 6) rfl]
  unfold A6.j1
  rw [Bool.not_true, cond_false]
  refine J0 (fun i (q : List Int) => (q, i)) 6 (fun i q => q = Ug 6 y4.1 i) (fun i q hi hq => ?_) (fun q hq => ?_) (s := []) rfl
  ·subst hq
   obtain ⟨g1, g2, g3⟩ := Nr hv i (by omega)
   have st := S2 hv hi
   obtain ⟨r, r1, -, -, r2, r3⟩ := Pn hv hl4 g1 g2
   have hr : ∃ t, r = (Xu 6 y4.1 i : Int) :: t := by
    have hin := (r3 _).2 ⟨_, rfl, st.rd⟩
    cases r with
    | nil => cases hin
    | cons x t =>
     refine ⟨t, ?_⟩
     obtain ⟨j, rfl, hj⟩ := (r3 x).1 (.head _)
     have h1 := st.least j hj
     have h2 : (j : Int) <= (Xu 6 y4.1 i : Int) := by
      rcases List.mem_cons.1 hin with h | h
      ·omega
      ·have := (List.pairwise_cons.1 r2.asc).1 _ h; omega
     have : j = Xu 6 y4.1 i := by omega
     rw [this]
   obtain ⟨t, rfl⟩ := hr
   show Ok (A6.l2 a b y4 (La 6 y4.1 6, 0) (Ug 6 y4.1 i) (i : Int)) _
   unfold A6.l2
   rw [Dx (aM hi)]
   refine Ok.bindE r1 ?_
   show Ok (cond (decide ((((Xu 6 y4.1 i : Int) :: t).length : Int) = 0)) _ _) _
   rw [decide_eq_false (by rw [List.length_cons]; omega), cond_false, fD]
   show Ok (A6.j3 (Ug 6 y4.1 i) (i : Int) (Xu 6 y4.1 i : Int) (!decide ((Xu 6 y4.1 i : Int) = (Xu 6 y4.1 i : Int)))) _
   unfold A6.j3
   rw [decide_eq_true rfl, Bool.not_true, cond_false, st.wit, Option.bind_some, W1 (by omega)]
   exact Ok.ret ⟨_, rfl, rfl⟩
  ·subst hq
   show Ok (A6.l2 a b y4 (La 6 y4.1 6, 0) (Ug 6 y4.1 6) 6) _
   unfold A6.l2
   dsimp only
   rw [hfl, decide_eq_false (p := (6 : Int) < ((6 : Nat) : Int)) (by omega), cond_false]
   refine Ok.up ?_
   have h6 : (6 : UInt8) ≠ 0 := by decide
   unfold Xd
   rw [if_neg h6, Option.bind_some, if_neg h6, Option.bind_some, He _ _ (by simp; omega), Option.bind_some]
   generalize (a % 6).toNat = u
   generalize (b % 6).toNat = v
   have hsl := L8 Il (y4.1 ++ [(⟨(u : Int), (v : Int)⟩ : Aa)])
   rw [List.length_append, List.length_singleton] at hsl
   obtain ⟨more, hmore⟩ : ∃ more, more = Ex Il (y4.1 ++ [(⟨(u : Int), (v : Int)⟩ : Aa)]) := ⟨_, rfl⟩
   rw [<- hmore] at hsl ⊢
   have hml : more.length <= 1000 := by omega
   refine Ok.bindE (Hd hv hl4) ?_
   obtain ⟨h64, hs6⟩ := Jl hv (by omega)
   rw [hs6]
   by_cases hc : Dn 6 more = 0
   ·obtain ⟨m, hm, hv2⟩ := In hc
    have : m = 6 := by omega
    subst this
    obtain ⟨k64, ks6⟩ := Jl hv2 (by omega)
    refine Ok.bindE (Hd hv2 hml) ?_
    rw [ks6]
    refine Ok.bindE (E5 6 more hml).1 ?_
    rw [hc]
    show Ok (B2 (fun q' => A6.l4 (Dh 6 y4.1 6, 0) (Dh 6 more 6, 0) q') 0) _
    have hsub : ∀ t ∈ Dh 6 more 6, t ∈ Dh 6 y4.1 6 := fun t ht => by
     obtain ⟨q1, q2⟩ := (Hc hv2).1 ht
     refine (Hc hv).2 ⟨q1, fun x y hw hy => q2 x y (hv2.wr.2 ?_) hy⟩
     refine TC.mono (fun x y he => ?_) (hv.wr.1 hw)
     rw [hmore]
     exact Oi.2 (.inl he)
    refine J0 (fun i (q : Unit) => i) (Dh 6 more 6).length (fun _ _ => True) (fun i _ hi _ => ?_) (fun _ _ => ?_) (s := ()) trivial
    ·obtain ⟨e, he⟩ : ∃ e, (Dh 6 more 6)[i]? = some e := ⟨_, List.getElem?_eq_getElem hi⟩
     show Ok (A6.l4 (Dh 6 y4.1 6, 0) (Dh 6 more 6, 0) (i : Int)) _
     unfold A6.l4
     rw [Dx he]
     refine Ok.bindE (jC hv (by omega) e) ?_
     rw [decide_eq_true (hsub e (H8 he)), Bool.not_true, cond_false, W1 (by omega)]
     exact Ok.ret ⟨(), rfl, trivial⟩
    ·show Ok (A6.l4 (Dh 6 y4.1 6, 0) (Dh 6 more 6, 0) ((Dh 6 more 6).length : Int)) _
     unfold A6.l4
     rw [Dt]
     have h7 := pW hv2
     have hle := List.Nodup.length_le_of_subset (Qg hv2 6) hsub
     refine Ok.up ?_
     show Ok (cond (decide (((Dh 6 more 6).length : Int) <= ((Dh 6 y4.1 6).length : Int))) _ _) _
     rw [decide_eq_true (by omega), cond_true]
     show Ok (cond (decide (7 <= ((Dh 6 more 6).length : Int))) _ _) _
     rw [decide_eq_true (by omega), cond_true, Ja]
     exact ⟨_, rfl, rfl⟩
   ·refine Ok.bindE (V1 hml hc).1 ?_
    refine Ok.bindE (E5 6 more hml).1 ?_
    rw [decide_eq_false hc]
    show Ok (C5.bind fun y_12 => some y_12) _
    rw [Ja]
    exact ⟨_, rfl, rfl⟩
 ·rw [decide_eq_false hl, Ja]; rfl
theorem Nl {d : Ai} (h : aH d) (n : Nat) (hn : n <= 24) : Ok (De d (n : Int)) (fun y => VS n y.1 /\ aH y.2) := by
 unfold De
 refine J0 (fun i (q : Ai × List Int) => (i, q.1, q.2)) n (fun i q => VS i q.2 /\ aH q.1) (fun i q hi hq => ?_) (fun q hq => ?_) (s := (d, [])) ⟨.nil, h⟩
 ·obtain ⟨q1, q2⟩ := q
  obtain ⟨h1, h2⟩ := hq
  have h3 : VS i q2 := h1
  have h4 : aH q1 := h2
  have := h3.len
  show Ok (De.l1 (n : Int) (i : Int) q1 q2) _
  unfold De.l1 De.j2
  rw [P9 hi, cond_true]
  refine Ok.bind (Sx h4 2 (by omega) (by omega)) fun y hy => ?_
  rw [W1 (by omega)]
  refine Ok.cond (fun _ => ?_) (fun _ => ?_)
  ·rw [U4 (by omega), Option.bind_some]
   refine Ok.ret ⟨(_, _), rfl, ⟨Nz h3.asc fun y hy => (h3.rng y hy).2, fun x hx => ?_⟩, hy.2⟩
   rcases List.mem_append.1 hx with h | h
   ·have := h3.rng x h; omega
   ·rw [List.mem_singleton.1 h]; omega
  ·exact Ok.ret ⟨(_, _), rfl, ⟨h3.asc, fun x hx => by have := h3.rng x hx; omega⟩, hy.2⟩
 ·obtain ⟨q1, q2⟩ := q
  show Ok (De.l1 (n : Int) (n : Int) q1 q2) _
  unfold De.l1
  rw [Qx, cond_false]
  exact Ok.up (Ok.ret hq)
theorem S9 (p : Nat -> Nat -> Bool) (m : Nat) : ∀ n, SA (Gb p m n)
 | 0 => .nil
 | n + 1 => by
  rw [Ho]
  refine List.pairwise_append.2 ⟨S9 p m n, ?_, fun a ha b hb => ?_⟩
  ·unfold Hq
   rw [List.pairwise_map]
   exact (List.pairwise_lt_range.sublist List.filter_sublist).imp fun {a b : Nat} (h : a < b) => (show Il ⟨(n : Int), (a : Int)⟩ ⟨(n : Int), (b : Int)⟩ = true from Qr.2 (.inr ⟨rfl, by show (a : Int) < (b : Int); omega⟩))
  ·obtain ⟨i, k, hi, hk, hp, rfl⟩ := Jo.1 ha
   unfold Hq at hb
   obtain ⟨j, hj, rfl⟩ := List.mem_map.1 hb
   exact Qr.2 (.inl (by show (i : Int) < (n : Int); omega))
theorem Tk {n : Nat} {l : List Aa} {s : List Int} {i k : Nat} : Iw (Pj n l s) i k = true ↔ i < s.length /\ k < s.length /\ J6 n l s i k = true := by
 rw [Kt]
 unfold Pj
 rw [Jo]
 constructor
 ·rintro ⟨i', k', h1, h2, h3, e⟩
  injection e with e1 e2
  have a1 : i = i' := by omega
  have a2 : k = k' := by omega
  subst a1 a2
  exact ⟨h1, h2, h3⟩
 ·rintro ⟨h1, h2, h3⟩; exact ⟨i, k, h1, h2, h3, rfl⟩
theorem aJ {n : Nat} {l : List Aa} (hv : Ia n l) {s : List Int} {i k : Nat} (h : TC (fun a b => Iw (Pj n l s) a b = true) i k) : J6 n l s i k = true := by
 induction h with
 | one e => exact (Tk.1 e).2.2
 | step e _ ih => exact hv.tr (Tk.1 e).2.2 ih
theorem Sy {n : Nat} {l : List Aa} (hv : Ia n l) {s : List Int} (hs : VS n s) : Ia s.length (Pj n l s) := by
 have hn := hv.n24
 have hsl := hs.len
 have hin : hO s.length (Pj n l s) := fun r hr => by
  obtain ⟨i, k, h1, h2, -, rfl⟩ := Jo.1 hr
  simp only
  omega
 refine ⟨by omega, hin, fun r hr e => ?_, S9 _ _ _, fun i => ?_⟩
 ·obtain ⟨i, k, h1, h2, h3, rfl⟩ := Jo.1 hr
  have e : (i : Int) = (k : Int) := e
  have : i = k := by omega
  subst this
  unfold J6 at h3
  rw [hv.acy] at h3; cases h3
 ·cases hw : Gv s.length (Pj n l s) i i with
  | false => rfl
  | true =>
   have := aJ hv ((Ke (fun _ _ => Mz hin)).1 hw)
   unfold J6 at this
   rw [hv.acy] at this; cases this
def Qc (s x : List Int) : List Int := ((List.range s.length).filter fun k => decide (s.getD k 0 ∈ x)).map fun (k : Nat) => (k : Int)
theorem Qq {s x : List Int} {k : Nat} : (k : Int) ∈ Qc s x ↔ k < s.length /\ s.getD k 0 ∈ x := by
 unfold Qc
 rw [List.mem_map]
 constructor
 ·rintro ⟨j, hj, e⟩
  have : j = k := by omega
  subst this
  have := List.mem_filter.1 hj
  exact ⟨List.mem_range.1 this.1, of_decide_eq_true this.2⟩
 ·rintro ⟨h1, h2⟩
  exact ⟨k, List.mem_filter.2 ⟨List.mem_range.2 h1, decide_eq_true h2⟩, rfl⟩
theorem S3 (s x : List Int) : VS s.length (Qc s x) := by
 unfold Qc
 refine ⟨?_, fun y hy => ?_⟩
 ·rw [Gs, List.pairwise_map]
  exact (List.pairwise_lt_range.sublist List.filter_sublist).imp fun h => by omega
 ·obtain ⟨j, hj, rfl⟩ := List.mem_map.1 hy
  have := List.mem_range.1 (List.mem_filter.1 hj).1
  omega
theorem Ua (s x : List Int) : (Qc s x).length <= s.length := (S3 s x).len
theorem kP {n : Nat} {l : List Aa} (hv : Ia n l) {s x : List Int} (hs : VS n s) (hx : So n l x) : So s.length (Pj n l s) (Qc s x) := fun a b hw hb => by
 have hp := aJ hv ((Sy hv hs).wr.1 hw)
 have hlt := (Sy hv hs).lt hw
 obtain ⟨h1, h2⟩ := Qq.1 hb
 refine Qq.2 ⟨hlt.1, ?_⟩
 obtain ⟨u, u1, u2, u3⟩ := hs.at hlt.1
 obtain ⟨v, v1, v2, v3⟩ := hs.at hlt.2
 unfold J6 at hp
 rw [u3, v3] at hp
 have e1 : s.getD a 0 = (u : Int) := by rw [List.getD_eq_getElem?_getD, u1]; rfl
 have e2 : s.getD b 0 = (v : Int) := by rw [List.getD_eq_getElem?_getD, v1]; rfl
 rw [e2] at h2
 rw [e1]
 exact hx u v hp h2
theorem cH {n : Nat} {l : List Aa} (hv : Ia n l) {s y : List Int} (hs : VS n s) (hy : VS s.length y) (hc : So s.length (Pj n l s) y) : ∃ x, VS n x /\ So n l x /\ Qc s x = y := by
 classical
 refine ⟨((List.range n).filter fun (a : Nat) => decide (∃ k : Nat, (k : Int) ∈ y /\ k < s.length /\ (s.getD k 0 = (a : Int) \/ Gv n l a (s.getD k 0).toNat = true))).map fun (a : Nat) => (a : Int), ⟨?_, fun x hx => ?_⟩, fun a b hw hb => ?_, ?_⟩
 ·rw [Gs, List.pairwise_map]
  exact (List.pairwise_lt_range.sublist List.filter_sublist).imp fun h => by omega
 ·obtain ⟨j, hj, rfl⟩ := List.mem_map.1 hx
  have := List.mem_range.1 (List.mem_filter.1 hj).1
  omega
 ·obtain ⟨j, hj, e⟩ := List.mem_map.1 hb
  have : j = b := by omega
  subst this
  obtain ⟨h1, h2⟩ := List.mem_filter.1 hj
  obtain ⟨k, k1, k2, k3⟩ := of_decide_eq_true h2
  refine List.mem_map.2 ⟨a, List.mem_filter.2 ⟨List.mem_range.2 (hv.lt hw).1, decide_eq_true ⟨k, k1, k2, .inr ?_⟩⟩, rfl⟩
  rcases k3 with k3 | k3
  ·rw [k3]; exact hw
  ·exact hv.tr hw k3
 ·refine Oo (S3 s _).asc hy.asc fun z => ?_
  constructor
  ·intro hz
   have hr := (S3 s _).rng z hz
   obtain ⟨k, rfl⟩ : ∃ k : Nat, z = (k : Int) := ⟨z.toNat, by omega⟩
   obtain ⟨h1, h2⟩ := Qq.1 hz
   obtain ⟨a, ha, e⟩ := List.mem_map.1 h2
   obtain ⟨q, q1, q2, q3⟩ := of_decide_eq_true (List.mem_filter.1 ha).2
   obtain ⟨u, u1, u2, u3⟩ := hs.at h1
   obtain ⟨v, v1, v2, v3⟩ := hs.at q2
   have e1 : s.getD k 0 = (u : Int) := by rw [List.getD_eq_getElem?_getD, u1]; rfl
   have e2 : s.getD q 0 = (v : Int) := by rw [List.getD_eq_getElem?_getD, v1]; rfl
   have hau : a = u := by omega
   subst hau
   rcases q3 with q3 | q3
   ·have huv : a = v := by omega
    subst huv
    have hkq : k = q := by
     obtain ⟨b1, b2⟩ := List.getElem?_eq_some_iff.1 u1
     obtain ⟨b3, b4⟩ := List.getElem?_eq_some_iff.1 v1
     have hp := List.pairwise_iff_getElem.1 hs.asc
     rcases Nat.lt_trichotomy k q with h | h | h
     ·have := hp k q b1 b3 h; omega
     ·exact h
     ·have := hp q k b3 b1 h; omega
    rw [hkq]; exact q1
   ·refine hc k q ((Sy hv hs).wr.2 (.one (Tk.2 ⟨h1, q2, ?_⟩))) q1
    unfold J6
    rw [u3]; exact q3
  ·intro hz
   have hr := hy.rng z hz
   obtain ⟨k, rfl⟩ : ∃ k : Nat, z = (k : Int) := ⟨z.toNat, by omega⟩
   have hk : k < s.length := by omega
   obtain ⟨u, u1, u2, u3⟩ := hs.at hk
   have e1 : s.getD k 0 = (u : Int) := by rw [List.getD_eq_getElem?_getD, u1]; rfl
   refine Qq.2 ⟨hk, ?_⟩
   rw [e1]
   exact List.mem_map.2 ⟨u, List.mem_filter.2 ⟨List.mem_range.2 u2, decide_eq_true ⟨k, hz, hk, .inl e1⟩⟩, rfl⟩
theorem S6 (t : List Int) : Az t = some true := by
 unfold Az D9
 rw [Option.bind_some]
 by_cases hl : (t.length : Int) <= 400
 ·rw [decide_eq_true hl, Bool.not_true, cond_false]
  refine Ok.true_ ?_
  refine Ok.bind (Uo (by omega)) fun d hd => ?_
  refine Ok.bind (H5 hd 6 (by omega) (by omega)) fun y4 h4 => ?_
  obtain ⟨hM, hd4⟩ := h4
  have hv := hM.vok (by omega)
  have hlen := hM.len
  have hl4 : y4.1.length <= 1000 := by omega
  refine Ok.bind (Nl hd4 6 (by omega)) fun y5 h5 => ?_
  obtain ⟨hs, -⟩ := h5
  have hsl := hs.len
  have hvp := Sy hv hs
  have hpl : (Pj 6 y4.1 y5.1).length <= 1000 := by
   have := F2 (J6 6 y4.1 y5.1) y5.1.length y5.1.length
   have h2 : y5.1.length * y5.1.length <= 6 * 6 := Nat.mul_le_mul hsl hsl
   unfold Pj
   omega
  obtain ⟨h64, hs6⟩ := Jl hv (by omega)
  obtain ⟨k64, ks6⟩ := Jl hvp hsl
  refine Ok.bindE (Vn hv hl4 hs).1 ?_
  refine Ok.bindE (Hd hvp hpl) ?_
  refine Ok.bindE (Hd hv hl4) ?_
  rw [hs6, ks6]
  obtain ⟨S, hS⟩ : ∃ S, S = Dh y5.1.length (Pj 6 y4.1 y5.1) y5.1.length := ⟨_, rfl⟩
  obtain ⟨A, hA⟩ : ∃ A, A = Dh 6 y4.1 6 := ⟨_, rfl⟩
  rw [<- hS, <- hA]
  rw [<- hS] at k64
  rw [<- hA] at h64
  show Ok (B2 (fun q' => Az.l1 y5 (S, 0) (A, 0) q'.1 q'.2) (0, ([] : List (List Int)))) _
  refine J0 (fun i (q : List (List Int)) => (i, q)) A.length (fun i q => q.Nodup /\ q.length <= i /\ ∀ y, y ∈ q ↔ ∃ x, x ∈ A.take i /\ y = Qc y5.1 x) (fun i q hi hq => ?_) (fun q hq => ?_) (s := []) ⟨.nil, Nat.le_refl _, fun y => by simp⟩
  ·obtain ⟨q1, q2, q3⟩ := hq
   obtain ⟨e, he⟩ : ∃ e, A[i]? = some e := ⟨_, List.getElem?_eq_getElem hi⟩
   have heA := H8 he
   rw [hA] at heA
   obtain ⟨g1, g2⟩ := (Hc hv).1 heA
   have gl := g1.len
   show Ok (Az.l1 y5 (S, 0) (A, 0) (i : Int) q) _
   unfold Az.l1
   rw [Dx he]
   refine J0 (fun k (s : List Int) => (k, s)) y5.1.length (fun k s => s = ((List.range k).filter fun k => decide (y5.1.getD k 0 ∈ e)).map fun (k : Nat) => (k : Int)) (fun k s hk hs' => ?_) (fun s hs' => ?_) (s := []) rfl
   ·have hsl' : s.length <= k := by
     rw [hs', List.length_map]
     have := List.length_filter_le (fun k => decide (y5.1.getD k 0 ∈ e)) (List.range k)
     rw [List.length_range] at this
     exact this
    obtain ⟨x, hx⟩ : ∃ x, y5.1[k]? = some x := ⟨_, List.getElem?_eq_getElem hk⟩
    have e1 : y5.1.getD k 0 = x := by rw [List.getD_eq_getElem?_getD, hx]; rfl
    show Ok (Az.l2 y5 (i : Int) q e (k : Int) s) _
    unfold Az.l2 Az.j3
    rw [Dx hx, Xa e x (by omega), Option.bind_some, W1 (by omega)]
    refine Ok.cond (fun ht => ?_) (fun hf => ?_)
    ·rw [U4 (by omega), Option.bind_some]
     refine Ok.ret ⟨_, rfl, ?_⟩
     rw [J7, e1, show decide (x ∈ e) = true from ht, List.map_append, hs']; rfl
    ·refine Ok.ret ⟨_, rfl, ?_⟩
     rw [J7, e1, show decide (x ∈ e) = false from hf, hs']; simp
   ·have hs' : s = Qc y5.1 e := hs'
    subst hs'
    show Ok (Az.l2 y5 (i : Int) q e (y5.1.length : Int) (Qc y5.1 e)) _
    unfold Az.l2 Az.j5
    rw [Dt]
    have hpl := Ua y5.1 e
    refine Ok.up (Ok.bindE (fA q (Qc y5.1 e) (by omega) fun x hx => by
     obtain ⟨z, -, rfl⟩ := (q3 x).1 hx
     have := Ua y5.1 z
     omega) ?_)
    rw [W1 (by omega)]
    refine Ok.cond (fun ht => ?_) (fun hf => ?_)
    ·have hno : ¬ Qc y5.1 e ∈ q := fun h => by rw [decide_eq_true h] at ht; cases ht
     rw [Fk (by rw [List.length_singleton]; omega), Option.bind_some]
     refine Ok.ret ⟨_, rfl, List.nodup_append.2 ⟨q1, by simp, fun a ha b hb e' => hno (by rw [List.mem_singleton.1 hb] at e'; rw [<- e']; exact ha)⟩, by rw [List.length_append, List.length_singleton]; omega, fun y => ?_⟩
     rw [Dq he, List.mem_append, q3, List.mem_singleton]
     constructor
     ·rintro (⟨x, h1, h2⟩ | h)
      ·exact ⟨x, List.mem_append.2 (.inl h1), h2⟩
      ·exact ⟨e, List.mem_append.2 (.inr (.head _)), h⟩
     ·rintro ⟨x, h1, h2⟩
      rcases List.mem_append.1 h1 with h1 | h1
      ·exact .inl ⟨x, h1, h2⟩
      ·rw [List.mem_singleton.1 h1] at h2; exact .inr h2
    ·have hin : Qc y5.1 e ∈ q := by
      cases hd : decide (Qc y5.1 e ∈ q) with
      | true => exact of_decide_eq_true hd
      | false => rw [hd] at hf; cases hf
     refine Ok.ret ⟨_, rfl, q1, by omega, fun y => ?_⟩
     rw [Dq he, q3]
     constructor
     ·rintro ⟨x, h1, h2⟩; exact ⟨x, List.mem_append.2 (.inl h1), h2⟩
     ·rintro ⟨x, h1, h2⟩
      rcases List.mem_append.1 h1 with h1 | h1
      ·exact ⟨x, h1, h2⟩
      ·rw [List.mem_singleton.1 h1] at h2
       rw [h2]
       exact (q3 _).1 hin
  ·obtain ⟨q1, q2, q3⟩ := hq
   rw [List.take_length] at q3
   have hmem : ∀ y, y ∈ q ↔ y ∈ S := fun y => by
    rw [q3, hS, Hc hvp]
    constructor
    ·rintro ⟨x, hx, rfl⟩
     rw [hA] at hx
     obtain ⟨g1, g2⟩ := (Hc hv).1 hx
     exact ⟨S3 _ _, kP hv hs g2⟩
    ·rintro ⟨h1, h2⟩
     obtain ⟨x, x1, x2, x3⟩ := cH hv hs h1 h2
     exact ⟨x, by rw [hA]; exact (Hc hv).2 ⟨x1, x2⟩, x3.symm⟩
   have hSn : S.Nodup := by rw [hS]; exact Qg hvp _
   have hql : q.length = S.length := ((List.perm_ext_iff_of_nodup q1 hSn).2 hmem).length_eq
   show Ok (Az.l1 y5 (S, 0) (A, 0) (A.length : Int) q) _
   unfold Az.l1
   rw [Dt]
   refine Ok.up ?_
   refine J0 (fun i (q : Unit) => i) q.length (fun _ _ => True) (fun i _ hi _ => ?_) (fun _ _ => ?_) (s := ()) trivial
   ·obtain ⟨e, he⟩ : ∃ e, q[i]? = some e := ⟨_, List.getElem?_eq_getElem hi⟩
    show Ok (Az.l6 (S, 0) q (i : Int)) _
    unfold Az.l6
    rw [Dx he]
    refine Ok.bindE (fA S e (by omega) fun x hx => by
     obtain ⟨z, -, rfl⟩ := (q3 x).1 ((hmem x).2 hx)
     have := Ua y5.1 z
     omega) ?_
    rw [decide_eq_true ((hmem e).1 (H8 he)), Bool.not_true, cond_false, W1 (by omega)]
    exact Ok.ret ⟨(), rfl, trivial⟩
   ·show Ok (Az.l6 (S, 0) q (q.length : Int)) _
    unfold Az.l6
    rw [Dt]
    refine Ok.up ?_
    show Ok (cond (decide ((q.length : Int) = (S.length : Int))) _ _) _
    rw [decide_eq_true (by omega), cond_true, Ja]
    exact ⟨_, rfl, rfl⟩
 ·rw [decide_eq_false hl, Ja]; rfl
end Go.Proofs.YtopkgllcjbpdeaaDoor
