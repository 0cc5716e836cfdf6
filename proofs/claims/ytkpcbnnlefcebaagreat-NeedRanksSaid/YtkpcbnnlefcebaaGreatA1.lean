import Derived.Test.YtkpcbnnlefcebaaGreatT1
set_option linter.unusedVariables false
set_option linter.unusedSimpArgs false
set_option maxRecDepth 100000
set_option maxHeartbeats 1600000
namespace Go.Proofs.YtkpcbnnlefcebaaGreat
open Go.RowKit
theorem aA (l : (List Int)) (r : Bool) (hg : Ms l = some r) : Fn Tryz.prog 6 0 [.sl 1 (Av eI l)] [] (fun d' b' => d' = .val (.bool r) /\ b' = []) := by
 unfold Ms at hg
 refine Fn.of Tryz.func6 rfl rfl rfl fun w0 I ρ0 => ?_
 show Cy _ ⟨w0, I, ρ0, 0, 0, 6⟩ _ _ _
 refine Bu 0 8 Bg ?_
 refine Ao ?_
 refine Al fun hU => ?_
 refine Bu 8 40 hU ?_
 refine Ao ?_
 refine Al fun hU => ?_
 refine Bv ?_
 obtain rfl := oi_ hg
 exact Bt [] ⟨rfl, rfl⟩
theorem Ks (e : Aw) (c : An) (r : Int) (hg : Cp e c = some r) : Fn Tryz.prog 16 0 [.agg (Aw.dv e), .agg (An.dv c)] [] (fun d' b' => d' = .val (.int .i64 r) /\ b' = []) := by
 unfold Cp at hg
 refine Fn.of Tryz.func16 rfl rfl rfl fun w0 I ρ0 => ?_
 show Cy _ ⟨w0, I, ρ0, 0, 0, 36⟩ _ _ _
 refine Bu 0 24 Bg ?_
 refine Ao ?_
 refine Al fun hU => ?_
 refine Bu 24 32 hU ?_
 refine Ao ?_
 refine Al fun hU => ?_
 refine B7 (ι := Bool) (fun (more_3 : Bool) => mk [(5, .val (.bool more_3))] [] 0) (fun (more_3 : Bool) => Cp.j3 more_3 = some r) ?_ ?_
 ·refine Aj ?_
  refine Af (Cd _ _ []) 32 48 hU rfl rfl ?_
  refine Ao ?_
  refine Al fun hU => ?_
  refine A3 ?_
  refine B7 (ι := Bool) (fun (x8_1 : Bool) => mk [(2, .ptr 0 0), (3, .ptr 1 0), (5, .val (.bool false)), (7, .val (.int .i64 c.Kind)), (8, .val (.bool x8_1))] [(0, .box (Aw.dv e) 37), (1, .box (An.dv c) 44)] 2) (fun (x8_1 : Bool) => Cp.j1 e c x8_1 = some r) ?_ ?_
  ·refine Aj ?_
   refine Af (Cd _ _ []) 48 64 hU rfl rfl ?_
   refine Ao ?_
   refine Al fun hU => ?_
   refine D1 rfl hg (fun h5 hg => ?_) fun h5 hg => ?_
   ·refine Ay ?_
    repeat first | refine Dg ?_ | refine Df ?_
    exact ⟨decide (c.Kind = 7), hg, A9 [(0, 0), (1, 8)]⟩
   ·refine Af (Cd _ _ []) 64 80 hU rfl rfl ?_
    refine Ao ?_
    refine Al fun hU => ?_
    exact ⟨decide (c.Kind = 9), hg, A9 [(0, 0), (1, 8)]⟩
  ·rintro x8_1 hg
   replace hg : Cp.j1 e c x8_1 = some r := hg
   show Cy _ _ _ _ (mk _ _ _)
   unfold Cp.j1 at hg
   refine D1 rfl hg (fun h7 hg => ?_) fun h7 hg => ?_
   ·refine Aj ?_
    refine Af (Cd _ _ []) 2 10 Bg rfl rfl ?_
    refine Ao ?_
    refine Al fun hU => ?_
    refine Bv ?_
    obtain rfl := oi_ hg
    exact Bt [] ⟨rfl, rfl⟩
   ·refine Aj ?_
    refine Af (Cd _ _ []) 2 18 Bg rfl rfl ?_
    refine Ao ?_
    refine Al fun hU => ?_
    refine D1 rfl hg (fun h10 hg => ?_) fun h10 hg => ?_
    ·refine Aj ?_
     refine Af (Cd _ _ []) 18 26 hU rfl rfl ?_
     refine Ao ?_
     refine Al fun hU => ?_
     refine Bv ?_
     obtain rfl := oi_ hg
     exact Bt [] ⟨rfl, rfl⟩
    ·refine B7 (ι := Bool) (fun (x13_2 : Bool) => mk [(2, .ptr 0 0), (3, .ptr 1 0), (5, .val (.bool false)), (7, .val (.int .i64 c.Kind)), (13, .val (.bool x13_2))] [(0, .box (Aw.dv e) 37), (1, .box (An.dv c) 44)] 2) (fun (x13_2 : Bool) => Cp.j2 e c x13_2 = some r) ?_ ?_
     ·refine Aj ?_
      refine Af (Cd _ _ []) 18 34 hU rfl rfl ?_
      refine Ao ?_
      refine Al fun hU => ?_
      refine D1 rfl hg (fun h13 hg => ?_) fun h13 hg => ?_
      ·refine Ay ?_
       repeat first | refine Dg ?_ | refine Df ?_
       exact ⟨decide (c.Kind = 1), hg, A9 [(0, 0), (1, 1)]⟩
      ·refine Af (Cd _ _ []) 34 50 hU rfl rfl ?_
       refine Ao ?_
       refine Al fun hU => ?_
       exact ⟨decide (c.Kind = 12), hg, A9 [(0, 0), (1, 1)]⟩
     ·rintro x13_2 hg
      replace hg : Cp.j2 e c x13_2 = some r := hg
      show Cy _ _ _ _ (mk _ _ _)
      unfold Cp.j2 at hg
      refine D1 rfl hg (fun h15 hg => ?_) fun h15 hg => ?_
      ·refine Af (Cd _ _ []) 2 10 Bg rfl rfl ?_
       refine Ao ?_
       refine Al fun hU => ?_
       exact ⟨true, hg, A9 []⟩
      ·refine Aj ?_
       refine Af (Cd _ _ []) 2 18 Bg rfl rfl ?_
       refine Ao ?_
       refine Al fun hU => ?_
       refine D1 rfl hg (fun h18 hg => ?_) fun h18 hg => ?_
       ·refine Af (Cd _ _ []) 18 66 hU rfl rfl ?_
        refine Ao ?_
        refine Al fun hU => ?_
        exact ⟨decide (e.Most < c.Number), hg, A9 []⟩
       ·refine Aj ?_
        refine Af (Cd _ _ []) 18 34 hU rfl rfl ?_
        refine Ao ?_
        refine Al fun hU => ?_
        refine D1 rfl hg (fun h21 hg => ?_) fun h21 hg => ?_
        ·refine Af (Cd _ _ []) 34 82 hU rfl rfl ?_
         refine Ao ?_
         refine Al fun hU => ?_
         exact ⟨decide (c.Number < e.Least), hg, A9 []⟩
        ·refine Aj ?_
         refine Af (Cd _ _ []) 34 50 hU rfl rfl ?_
         refine Ao ?_
         refine Al fun hU => ?_
         refine D1 rfl hg (fun h24 hg => ?_) fun h24 hg => ?_
         ·refine Af (Cd _ _ []) 50 82 hU rfl rfl ?_
          refine Ao ?_
          refine Al fun hU => ?_
          exact ⟨decide (c.Number = 1), hg, A9 []⟩
         ·refine Ay ?_
          repeat first | refine Dg ?_ | refine Df ?_
          exact ⟨false, hg, A9 []⟩
 ·rintro more_3 hg
  replace hg : Cp.j3 more_3 = some r := hg
  show Cy _ _ _ _ (mk _ _ _)
  unfold Cp.j3 at hg
  refine Aj ?_
  refine Bu 0 8 Bg ?_
  refine Ao ?_
  refine Al fun hU => ?_
  refine D1 rfl hg (fun h27 hg => ?_) fun h27 hg => ?_
  ·refine Aj ?_
   refine Af (Cd _ _ []) 8 16 hU rfl rfl ?_
   refine Ao ?_
   refine Al fun hU => ?_
   refine Bv ?_
   obtain rfl := oi_ hg
   exact Bt [] ⟨rfl, rfl⟩
  ·refine Ay ?_
   repeat first | refine Dg ?_ | refine Df ?_
   refine Bu 8 16 hU ?_
   refine Ao ?_
   refine Al fun hU => ?_
   refine Bv ?_
   obtain rfl := oi_ hg
   exact Bt [] ⟨rfl, rfl⟩
theorem T5 (x' : Int) (r : Int) (hg : B1 x' = some r) : Fn Tryz.prog 134 0 [.val (.int .u64 x')] [] (fun d' b' => d' = .val (.int .i64 r) /\ b' = []) := by
 unfold B1 at hg
 refine Fn.of Tryz.func134 rfl rfl rfl fun w0 I ρ0 => ?_
 show Cy _ ⟨w0, I, ρ0, 0, 0, 25⟩ _ _ _
 refine Bu 0 8 Bg ?_
 refine Ao ?_
 refine Al fun hU => ?_
 refine B7 (ι := Int × Int) (fun ((x_1, n_1) : Int × Int) => mk [(0, .val (.int .u64 x_1)), (2, .val (.int .i64 n_1))] [] 0) (fun ((x_1, n_1) : Int × Int) => B1.j1 x_1 n_1 = some r) ?_ ?_
 ·refine Aj ?_
  refine Af (Cd _ _ []) 8 24 hU rfl rfl ?_
  refine Ao ?_
  refine Al fun hU => ?_
  refine D1 rfl hg (fun h3 hg => ?_) fun h3 hg => ?_
  ·refine Aj ?_
   refine Af (Cd _ _ []) 24 48 hU rfl rfl ?_
   refine Ao ?_
   obtain ⟨q, hq, hg⟩ := Ad hg
   refine Cl rfl rfl (U2 hq) rfl rfl ?_
   refine Ao ?_
   refine Al fun hU => ?_
   refine Af (Cd _ _ []) 48 56 hU rfl rfl ?_
   refine Ao ?_
   refine Al fun hU => ?_
   exact ⟨(q, 32), hg, A9 []⟩
  ·refine Ay ?_
   repeat first | refine Dg ?_ | refine Df ?_
   exact ⟨(x', 0), hg, A9 []⟩
 ·rintro ⟨x_1, n_1⟩ hg
  replace hg : B1.j1 x_1 n_1 = some r := hg
  show Cy _ _ _ _ (mk _ _ _)
  unfold B1.j1 at hg
  refine B7 (ι := Int × Int) (fun ((x_2, n_2) : Int × Int) => mk [(0, .val (.int .u64 x_2)), (2, .val (.int .i64 n_2))] [] 0) (fun ((x_2, n_2) : Int × Int) => B1.j2 x_2 n_2 = some r) ?_ ?_
  ·refine Aj ?_
   refine Af (Cd _ _ []) 0 16 Bg rfl rfl ?_
   refine Ao ?_
   refine Al fun hU => ?_
   refine D1 rfl hg (fun h7 hg => ?_) fun h7 hg => ?_
   ·refine Aj ?_
    refine Af (Cd _ _ []) 16 40 hU rfl rfl ?_
    refine Ao ?_
    obtain ⟨q_2, hq_2, hg⟩ := Ad hg
    refine Cl rfl rfl (U2 hq_2) rfl rfl ?_
    refine Ao ?_
    refine Al fun hU => ?_
    refine Af (Cd _ _ []) 40 64 hU rfl rfl ?_
    refine Ao ?_
    refine Al fun hU => ?_
    exact ⟨(q_2, W (n_1 + 16)), hg, A9 []⟩
   ·refine Ay ?_
    repeat first | refine Dg ?_ | refine Df ?_
    exact ⟨(x_1, n_1), hg, A9 []⟩
  ·rintro ⟨x_2, n_2⟩ hg
   replace hg : B1.j2 x_2 n_2 = some r := hg
   show Cy _ _ _ _ (mk _ _ _)
   unfold B1.j2 at hg
   refine B7 (ι := Int × Int) (fun ((x_3, n_3) : Int × Int) => mk [(0, .val (.int .u64 x_3)), (2, .val (.int .i64 n_3))] [] 0) (fun ((x_3, n_3) : Int × Int) => B1.j3 x_3 n_3 = some r) ?_ ?_
   ·refine Aj ?_
    refine Af (Cd _ _ []) 0 16 Bg rfl rfl ?_
    refine Ao ?_
    refine Al fun hU => ?_
    refine D1 rfl hg (fun h11 hg => ?_) fun h11 hg => ?_
    ·refine Aj ?_
     refine Af (Cd _ _ []) 16 40 hU rfl rfl ?_
     refine Ao ?_
     obtain ⟨q_3, hq_3, hg⟩ := Ad hg
     refine Cl rfl rfl (U2 hq_3) rfl rfl ?_
     refine Ao ?_
     refine Al fun hU => ?_
     refine Af (Cd _ _ []) 40 64 hU rfl rfl ?_
     refine Ao ?_
     refine Al fun hU => ?_
     exact ⟨(q_3, W (n_2 + 8)), hg, A9 []⟩
    ·refine Ay ?_
     repeat first | refine Dg ?_ | refine Df ?_
     exact ⟨(x_2, n_2), hg, A9 []⟩
   ·rintro ⟨x_3, n_3⟩ hg
    replace hg : B1.j3 x_3 n_3 = some r := hg
    show Cy _ _ _ _ (mk _ _ _)
    unfold B1.j3 at hg
    refine Bu 0 56 Bg ?_
    refine Ao ?_
    refine Cl rfl rfl (Lw rY V7) rfl rfl ?_
    obtain ⟨c, hc, hg⟩ := Ad hg
    refine Cl rfl rfl (cI U1 hc) rfl rfl ?_
    refine Cl rfl rfl (gC (u := c) V7 V4) rfl rfl ?_
    refine Ao ?_
    refine Al fun hU => ?_
    refine Bv ?_
    obtain rfl := oi_ hg
    exact Bt [] ⟨rfl, rfl⟩
theorem Qb (x' : Int) (r : Int) (hg : G5 x' = some r) : Fn Tryz.prog 99 0 [.val (.int .u64 x')] [] (fun d' b' => d' = .val (.int .i64 r) /\ b' = []) := by
 unfold G5 at hg
 refine Fn.of Tryz.func99 rfl rfl rfl fun w0 I ρ0 => ?_
 show Cy _ ⟨w0, I, ρ0, 0, 0, 8⟩ _ _ _
 refine Bu 0 8 Bg ?_
 refine Ao ?_
 refine Al fun hU => ?_
 refine Aj ?_
 refine fQ (fun h => ?_) (fun h => ?_)
 ·exact absurd h (by decide)
 ·refine Ay ?_
  repeat first | refine Dg ?_ | refine Df ?_
  refine Bu 8 32 hU ?_
  refine Ao ?_
  obtain ⟨y, hy, hg⟩ := Ad hg
  refine E4 (T5 _ _ hy) ?_
  refine Ao ?_
  refine Al fun hU => ?_
  refine Bv ?_
  obtain rfl := oi_ hg
  exact Bt [] ⟨rfl, rfl⟩
theorem P8 (x' : Int) (r : Bool) (hg : Iw x' = some r) : Fn Tryz.prog 135 0 [.val (.int .i64 x')] [] (fun d' b' => d' = .val (.bool r) /\ b' = []) := by
 unfold Iw at hg
 refine Fn.of Tryz.func135 rfl rfl rfl fun w0 I ρ0 => ?_
 show Cy _ ⟨w0, I, ρ0, 0, 0, 6⟩ _ _ _
 refine Bu 0 8 Bg ?_
 refine Ao ?_
 refine Al fun hU => ?_
 refine Bu 8 40 hU ?_
 refine Ao ?_
 refine Al fun hU => ?_
 refine Bv ?_
 obtain rfl := oi_ hg
 exact Bt [] ⟨rfl, rfl⟩
theorem Ob (x' : Int) (y : Int) (r : Int) (hg : G2 x' y = some r) : Fn Tryz.prog 101 0 [.val (.int .i64 x'), .val (.int .i64 y)] [] (fun d' b' => d' = .val (.int .i64 r) /\ b' = []) := by
 unfold G2 at hg
 refine Fn.of Tryz.func101 rfl rfl rfl fun w0 I ρ0 => ?_
 show Cy _ ⟨w0, I, ρ0, 0, 0, 20⟩ _ _ _
 refine Bu 0 8 Bg ?_
 refine Ao ?_
 refine Al fun hU => ?_
 refine Bu 8 32 hU ?_
 refine Ao ?_
 obtain ⟨y_2, hy_2, hg⟩ := Ad hg
 refine E4 (P8 _ _ hy_2) ?_
 refine Ao ?_
 refine Al fun hU => ?_
 refine Bu 32 56 hU ?_
 refine Ao ?_
 obtain ⟨y_3, hy_3, hg⟩ := Ad hg
 refine E4 (P8 _ _ hy_3) ?_
 refine Ao ?_
 refine Al fun hU => ?_
 refine Aj ?_
 refine Bu 56 64 hU ?_
 refine Ao ?_
 refine Al fun hU => ?_
 refine D1 rfl hg (fun h5 hg => ?_) fun h5 hg => ?_
 ·refine Aj ?_
  refine Bu 64 72 hU ?_
  refine Ao ?_
  refine Al fun hU => ?_
  refine D1 rfl hg (fun h7 hg => ?_) fun h7 hg => ?_
  ·refine Aj ?_
   refine Af (Cd _ _ []) 72 80 hU rfl rfl ?_
   refine Ao ?_
   refine Al fun hU => ?_
   refine Bv ?_
   obtain rfl := oi_ hg
   exact Bt [] ⟨rfl, rfl⟩
  ·refine Ay ?_
   repeat first | refine Dg ?_ | refine Df ?_
   refine Bu 72 80 hU ?_
   refine Ao ?_
   refine Al fun hU => ?_
   refine Bv ?_
   obtain rfl := oi_ hg
   exact Bt [] ⟨rfl, rfl⟩
 ·refine Ay ?_
  repeat first | refine Dg ?_ | refine Df ?_
  refine Aj ?_
  refine Bu 64 72 hU ?_
  refine Ao ?_
  refine Al fun hU => ?_
  refine D1 rfl hg (fun h11 hg => ?_) fun h11 hg => ?_
  ·refine Aj ?_
   refine Af (Cd _ _ []) 72 80 hU rfl rfl ?_
   refine Ao ?_
   refine Al fun hU => ?_
   refine Bv ?_
   obtain rfl := oi_ hg
   exact Bt [] ⟨rfl, rfl⟩
  ·refine Ay ?_
   repeat first | refine Dg ?_ | refine Df ?_
   refine Aj ?_
   refine Bu 72 96 hU ?_
   refine Ao ?_
   refine Al fun hU => ?_
   refine D1 rfl hg (fun h14 hg => ?_) fun h14 hg => ?_
   ·refine Aj ?_
    refine Af (Cd _ _ []) 96 104 hU rfl rfl ?_
    refine Ao ?_
    refine Al fun hU => ?_
    refine Bv ?_
    obtain rfl := oi_ hg
    exact Bt [] ⟨rfl, rfl⟩
   ·refine Ay ?_
    repeat first | refine Dg ?_ | refine Df ?_
    refine Aj ?_
    refine Bu 96 120 hU ?_
    refine Ao ?_
    refine Al fun hU => ?_
    refine D1 rfl hg (fun h17 hg => ?_) fun h17 hg => ?_
    ·refine Aj ?_
     refine Af (Cd _ _ []) 120 128 hU rfl rfl ?_
     refine Ao ?_
     refine Al fun hU => ?_
     refine Bv ?_
     obtain rfl := oi_ hg
     exact Bt [] ⟨rfl, rfl⟩
    ·refine Ay ?_
     repeat first | refine Dg ?_ | refine Df ?_
     refine Bu 120 128 hU ?_
     refine Ao ?_
     refine Al fun hU => ?_
     refine Bv ?_
     obtain rfl := oi_ hg
     exact Bt [] ⟨rfl, rfl⟩
theorem Zr (vals : (List Int)) (r : Int) (hg : Ez vals = some r) : Fn Tryz.prog 100 0 [.sl 1 (Av eI vals)] [] (fun d' b' => d' = .val (.int .i64 r) /\ b' = []) := by
 unfold Ez at hg
 refine Fn.of Tryz.func100 rfl rfl rfl fun w0 I ρ0 => ?_
 show Cy _ ⟨w0, I, ρ0, 0, 0, 18⟩ _ _ _
 refine Bu 0 8 Bg ?_
 refine Ao ?_
 refine Al fun hU => ?_
 refine Bu 8 16 hU ?_
 refine Ao ?_
 refine Al fun hU => ?_
 refine Aj ?_
 refine Bu 16 40 hU ?_
 refine Ao ?_
 refine Al fun hU => ?_
 refine A3 ?_
 refine Ix (fun (x8_1 : Int) => mk [(3, .val (.int .i64 0)), (6, .sl 1 (Av eI vals)), (7, .val (.int .i64 (vals.length : Int))), (8, .val (.int .i64 x8_1))] [] 0) hg (A9 []) ?_
 rintro x8_1 m1 o1 hg hn1
 replace hg : Ez.l1 vals x8_1 = some o1 := hg
 show Cy _ _ _ _ (mk _ _ _)
 unfold Ez.l1 at hg
 refine Bu 0 8 Bg ?_
 refine Ao ?_
 refine Al fun hU => ?_
 refine Aj ?_
 refine D1 rfl hg (fun h5 hg => ?_) fun h5 hg => ?_
 ·refine Ay ?_
  repeat first | refine Dg ?_ | refine Df ?_
  refine Aj ?_
  refine A3 ?_
  refine Bu 8 32 hU ?_
  obtain ⟨e, he, hg⟩ := Ad hg
  refine Ao ?_
  refine Cl rfl rfl (Cz Nw (Do Hu (Aq he) (o := 0) (c := .int .i64 e) rfl rfl)) rfl rfl ?_
  refine Ao ?_
  refine Al fun hU => ?_
  refine Bu 32 56 hU ?_
  refine Ao ?_
  refine Al fun hU => ?_
  refine D1 rfl hg (fun h8 hg => ?_) fun h8 hg => ?_
  ·refine Aj ?_
   refine Af (Cd _ _ []) 56 72 hU rfl rfl ?_
   refine Ao ?_
   refine Al fun hU => ?_
   refine Bv ?_
   replace hg := Cr hg hn1
   obtain rfl := oi_ hg
   exact Bt [] ⟨rfl, rfl⟩
  ·refine Ay ?_
   repeat first | refine Dg ?_ | refine Df ?_
   refine Af (Cd _ _ []) 56 72 hU rfl rfl ?_
   refine Ao ?_
   refine Al fun hU => ?_
   obtain rfl := oi_ hg
   exact ⟨(W (x8_1 + 1), m1), Nat.lt_succ_self _, hn1, A9 []⟩
 ·refine B8 ?_
  repeat first | refine Dg ?_ | refine Df ?_
  replace hg := Cr hg hn1
  refine Bu 8 24 hU ?_
  refine Ao ?_
  refine Al fun hU => ?_
  refine Bv ?_
  obtain rfl := oi_ hg
  exact Bt [] ⟨rfl, rfl⟩
theorem On (r' : Aa) (s : Aa) (r : Int) (hg : E1 r' s = some r) : Fn Tryz.prog 69 0 [.agg [.val (.int .i64 r'.First), .val (.int .i64 r'.Then)], .agg [.val (.int .i64 s.First), .val (.int .i64 s.Then)]] [] (fun d' b' => d' = .val (.int .i64 r) /\ b' = []) := by
 unfold E1 at hg
 refine Fn.of Tryz.func69 rfl rfl rfl fun w0 I ρ0 => ?_
 show Cy _ ⟨w0, I, ρ0, 0, 0, 17⟩ _ _ _
 refine Bu 0 24 Bg ?_
 refine Ao ?_
 refine Al fun hU => ?_
 refine Aj ?_
 refine Ck (Cd _ _ []) (by kernel_rfl) [0, 1, 0, 4, 15, 0, 32, 0, 128, 511, 1023, 2047, 4095] 24 128 hU rfl rfl (by kernel_rfl) ?_
 refine Ao ?_
 obtain ⟨y, hy, hg⟩ := Ad hg
 refine E4 (Ob _ _ _ hy) ?_
 refine Ao ?_
 obtain ⟨y_2, hy_2, hg⟩ := Ad hg
 refine E4 (Ob _ _ _ hy_2) ?_
 refine Cl rfl rfl (Bc G1 z3 (by decide) rfl rfl rfl rfl Mn (cs := [.int .i64 y, .int .i64 y_2]) (.cons .int (.cons .int .nil)) rfl (l := ([y, y_2] : List Int)) (f := eI) rfl) rfl rfl ?_
 obtain ⟨y_3, hy_3, hg⟩ := Ad hg
 refine K0 [104] [] [] true (Zr _ _ hy_3) ?_
 refine Ao ?_
 refine Al fun hU => ?_
 refine Bv ?_
 obtain rfl := oi_ hg
 exact Bt [] ⟨rfl, rfl⟩
theorem G9 (data : List Aa) (a : Int) (b : Int) (cmp : Aa -> Aa -> Option (Int)) (hf_cmp : ∀ (x0 : Aa) (x1 : Aa) (y : Int), cmp x0 x1 = some y -> Fn Tryz.prog 69 0 [.agg [.val (.int .i64 x0.First), .val (.int .i64 x0.Then)], .agg [.val (.int .i64 x1.First), .val (.int .i64 x1.Then)]] [] (fun d' b' => d' = .val (.int .i64 y) /\ b' = [])) (r : (List Aa)) (hg : Au data a b cmp = some r) : Fn Tryz.prog 125 1 [.row 0, .val (.int .i64 a), .val (.int .i64 b), .clo 69 0 []] [.row 122 2 (Av Aa.enc data)] (fun d' b' => d' = .tup [] /\ b' = [.row 122 2 (Av Aa.enc r)]) := by
 unfold Au at hg
 refine Fn.of Tryz.func125 rfl rfl rfl fun w0 I ρ0 => ?_
 show Cy _ ⟨w0, I, ρ0, 1, 1, 53⟩ _ _ _
 refine Bu 1 25 Bg ?_
 refine Ao ?_
 refine Al fun hU => ?_
 refine A3 ?_
 refine Ix (fun ((i_1, data_1) : Int × List Aa) => mk [(0, .row 0), (1, .val (.int .i64 a)), (2, .val (.int .i64 b)), (3, .clo 69 0 []), (8, .val (.int .i64 i_1))] [(0, .row 122 2 (Av Aa.enc data_1))] 1) hg (A9 [(0, 0)]) ?_
 rintro ⟨i_1, data_1⟩ m1 o1 hg hn1
 replace hg : Au.l1 a b cmp i_1 data_1 = some o1 := hg
 show Cy _ _ _ _ (mk _ _ _)
 unfold Au.l1 at hg
 refine Aj ?_
 refine Bu 1 25 Bg ?_
 refine Ao ?_
 refine Al fun hU => ?_
 refine D1 rfl hg (fun h3 hg => ?_) fun h3 hg => ?_
 ·refine Ay ?_
  repeat first | refine Dg ?_ | refine Df ?_
  refine Aj ?_
  refine A3 ?_
  refine Bu 25 41 hU ?_
  refine Ao ?_
  refine Al fun hU => ?_
  refine A3 ?_
  refine Ix (fun ((j_2, data_2) : Int × List Aa) => mk [(0, .row 0), (1, .val (.int .i64 a)), (2, .val (.int .i64 b)), (3, .clo 69 0 []), (8, .val (.int .i64 i_1)), (9, .val (.int .i64 j_2))] [(0, .row 122 2 (Av Aa.enc data_2))] 1) hg (A9 [(0, 0)]) ?_
  rintro ⟨j_2, data_2⟩ m2 o2 hg hn2
  replace hg : Au.l2 a cmp i_1 j_2 data_2 = some o2 := hg
  show Cy _ _ _ _ (mk _ _ _)
  unfold Au.l2 at hg
  refine Aj ?_
  refine B7 (ι := Bool) (fun (x34_3 : Bool) => mk [(0, .row 0), (1, .val (.int .i64 a)), (2, .val (.int .i64 b)), (3, .clo 69 0 []), (8, .val (.int .i64 i_1)), (9, .val (.int .i64 j_2)), (34, .val (.bool x34_3))] [(0, .row 122 2 (Av Aa.enc data_2))] 1) (fun (x34_3 : Bool) => Au.j3 i_1 j_2 data_2 x34_3 = some o2) ?_ ?_
  ·refine Ck (Cd _ _ []) (by kernel_rfl) [0, 0, 3, 7, 15, 15, 15, 111, 239, 15, 15, 1039, 3599, 7695, 16383, 32767, 65535] 1 137 Bg rfl rfl (by kernel_rfl) ?_
   refine Ao ?_
   rcases E8 hg with ⟨h5, hg⟩ | ⟨h5, hg⟩
   ·refine Ao ?_
    obtain ⟨e, he, hg⟩ := Ad hg
    refine Ao ?_
    refine Da (rd := [0]) (Cj rfl rfl h5) rfl (Ci Dd (Bh Aa.enc_len (Aq he) (o := 0) (m := 2) (cs := [.int .i64 e.First, .int .i64 e.Then]) rfl (by decide) rfl) (Ax Aa.enc_len (Aq he) (o := 0) (m := 2) (by decide) rfl)) rfl rfl ?_
    refine Ao ?_
    obtain ⟨e_2, he_2, hg⟩ := Ad hg
    refine Ao ?_
    refine Da (rd := [0]) (Cj rfl rfl h5) rfl (Ci Dd (Bh Aa.enc_len (Aq he_2) (o := 0) (m := 2) (cs := [.int .i64 e_2.First, .int .i64 e_2.Then]) rfl (by decide) rfl) (Ax Aa.enc_len (Aq he_2) (o := 0) (m := 2) (by decide) rfl)) rfl rfl ?_
    obtain ⟨y, hy, hg⟩ := Ad hg
    refine Fg (rd := []) (ps := []) (gs := []) false (Cj rfl rfl h5) rfl (hf_cmp e e_2 _ hy) rfl rfl (.cons (.agg (.cons .val (.cons .val .nil))) (.cons (.agg (.cons .val (.cons .val .nil))) .nil)) rfl rfl (by intro h; cases h) rfl rfl rfl rfl ?_
    refine Ao ?_
    refine Al fun hU => ?_
    exact ⟨decide (y < 0), hg, A9 [(0, 0)]⟩
   ·refine Ao ?_
    refine Al fun hU => ?_
    exact ⟨false, hg, A9 [(0, 0)]⟩
  ·rintro x34_3 hg
   replace hg : Au.j3 i_1 j_2 data_2 x34_3 = some o2 := hg
   show Cy _ _ _ _ (mk _ _ _)
   unfold Au.j3 at hg
   refine D1 rfl hg (fun h8 hg => ?_) fun h8 hg => ?_
   ·refine Ay ?_
    repeat first | refine Dg ?_ | refine Df ?_
    refine Aj ?_
    refine A3 ?_
    refine Ck (Cd _ _ []) (by kernel_rfl) [0, 0, 0, 0, 8, 0, 0, 64, 224, 480, 0, 0, 3072, 7168, 16355, 32739, 65535, 131071] 1 145 Bg rfl rfl (by kernel_rfl) ?_
    refine Ao ?_
    obtain ⟨e_3, he_3, hg⟩ := Ad hg
    refine Ao ?_
    refine Da (rd := [0]) rfl rfl (Ci Dd (Bh Aa.enc_len (Aq he_3) (o := 0) (m := 2) (cs := [.int .i64 e_3.First, .int .i64 e_3.Then]) rfl (by decide) rfl) (Ax Aa.enc_len (Aq he_3) (o := 0) (m := 2) (by decide) rfl)) rfl rfl ?_
    refine Ao ?_
    obtain ⟨e_4, he_4, hg⟩ := Ad hg
    refine Ao ?_
    refine Da (rd := [0]) rfl rfl (Ci Dd (Bh Aa.enc_len (Aq he_4) (o := 0) (m := 2) (cs := [.int .i64 e_4.First, .int .i64 e_4.Then]) rfl (by decide) rfl) (Ax Aa.enc_len (Aq he_4) (o := 0) (m := 2) (by decide) rfl)) rfl rfl ?_
    refine Ao ?_
    refine Da (rd := [0]) rfl rfl (D9 Dd rfl (Ax Aa.enc_len (Aq he_4) (o := 0) (m := 2) (by decide) rfl) He (cs' := [.int .i64 e_3.First, .int .i64 e_3.Then]) (.cons .int (.cons .int .nil)) (Dm Aa.enc_len (Aq he_4) (o := 0) (x' := e_3) (Nat.le_of_ble_eq_true rfl) rfl rfl)) rfl rfl ?_
    obtain ⟨e_5, he_5, hg⟩ := Ad hg
    refine Ao ?_
    refine Da (rd := [0]) rfl rfl (D9 Dd rfl (Ax Aa.enc_len (Aq he_5) (o := 0) (m := 2) (by decide) rfl) He (cs' := [.int .i64 e_4.First, .int .i64 e_4.Then]) (.cons .int (.cons .int .nil)) (Dm Aa.enc_len (Aq he_5) (o := 0) (x' := e_4) (Nat.le_of_ble_eq_true rfl) rfl rfl)) rfl rfl ?_
    refine Al fun hU => ?_
    refine Af (Cd _ _ []) 145 169 hU rfl rfl ?_
    refine Ao ?_
    refine Al fun hU => ?_
    obtain rfl := oi_ hg
    exact ⟨((W (j_2 - 1), De (De data_2 ((j_2).toNat) e_3) ((W (j_2 - 1)).toNat) e_4), m2), Nat.lt_succ_self _, hn2, A9 [(0, 0)]⟩
   ·refine B8 ?_
    repeat first | refine Dg ?_ | refine Df ?_
    replace hg := Cr hg hn2
    refine Af (Cd _ _ []) 1 25 Bg rfl rfl ?_
    refine Ao ?_
    refine Al fun hU => ?_
    obtain rfl := oi_ hg
    exact ⟨((W (i_1 + 1), data_2), m1), Nat.lt_succ_self _, hn1, A9 [(0, 0)]⟩
 ·refine B8 ?_
  repeat first | refine Dg ?_ | refine Df ?_
  replace hg := Cr hg hn1
  obtain rfl := oi_ hg
  exact Bt [(0, 0)] ⟨rfl, rfl⟩
theorem Fx (data : List Aa) (lo : Int) (hi : Int) (first : Int) (cmp : Aa -> Aa -> Option (Int)) (hf_cmp : ∀ (x0 : Aa) (x1 : Aa) (y : Int), cmp x0 x1 = some y -> Fn Tryz.prog 69 0 [.agg [.val (.int .i64 x0.First), .val (.int .i64 x0.Then)], .agg [.val (.int .i64 x1.First), .val (.int .i64 x1.Then)]] [] (fun d' b' => d' = .val (.int .i64 y) /\ b' = [])) (r : (List Aa)) (hg : As data lo hi first cmp = some r) : Fn Tryz.prog 150 1 [.row 0, .val (.int .i64 lo), .val (.int .i64 hi), .val (.int .i64 first), .clo 69 0 []] [.row 122 2 (Av Aa.enc data)] (fun d' b' => d' = .tup [] /\ b' = [.row 122 2 (Av Aa.enc r)]) := by
 unfold As at hg
 refine Fn.of Tryz.func150 rfl rfl rfl fun w0 I ρ0 => ?_
 show Cy _ ⟨w0, I, ρ0, 1, 1, 82⟩ _ _ _
 refine Bu 1 17 Bg ?_
 refine Ao ?_
 refine Al fun hU => ?_
 refine A3 ?_
 refine Ix (fun ((root_1, data_1) : Int × List Aa) => mk [(0, .row 0), (2, .val (.int .i64 hi)), (3, .val (.int .i64 first)), (4, .clo 69 0 []), (10, .val (.int .i64 root_1))] [(0, .row 122 2 (Av Aa.enc data_1))] 1) hg (A9 [(0, 0)]) ?_
 rintro ⟨root_1, data_1⟩ m1 o1 hg hn1
 replace hg : As.l1 hi first cmp root_1 data_1 = some o1 := hg
 show Cy _ _ _ _ (mk _ _ _)
 unfold As.l1 at hg
 refine A3 ?_
 refine Bu 1 33 Bg ?_
 refine Ao ?_
 refine Al fun hU => ?_
 refine Aj ?_
 refine Bu 33 57 hU ?_
 refine Ao ?_
 refine Al fun hU => ?_
 refine D1 rfl hg (fun h4 hg => ?_) fun h4 hg => ?_
 ·refine B8 ?_
  repeat first | refine Dg ?_ | refine Df ?_
  replace hg := Cr hg hn1
  obtain rfl := oi_ hg
  exact Bt [(0, 0)] ⟨rfl, rfl⟩
 ·refine Ay ?_
  repeat first | refine Dg ?_ | refine Df ?_
  refine B7 (ι := Int) (fun (child_3 : Int) => mk [(0, .row 0), (2, .val (.int .i64 hi)), (3, .val (.int .i64 first)), (4, .clo 69 0 []), (10, .val (.int .i64 root_1)), (11, .val (.int .i64 child_3))] [(0, .row 122 2 (Av Aa.enc data_1))] 1) (fun (child_3 : Int) => As.j3 first cmp root_1 data_1 child_3 = some o1) ?_ ?_
  ·refine B7 (ι := Bool) (fun (x40_2 : Bool) => mk [(0, .row 0), (2, .val (.int .i64 hi)), (3, .val (.int .i64 first)), (4, .clo 69 0 []), (10, .val (.int .i64 root_1)), (11, .val (.int .i64 (W ((W (2 * root_1)) + 1)))), (40, .val (.bool x40_2))] [(0, .row 122 2 (Av Aa.enc data_1))] 1) (fun (x40_2 : Bool) => As.j2 first cmp root_1 data_1 x40_2 = some o1) ?_ ?_
   ·refine Ck (Cd _ _ []) (by kernel_rfl) [0, 1, 0, 7, 15, 31, 31, 31, 31, 415, 991, 2015, 31, 31, 31, 24607, 57375, 127007, 258079, 524287, 1048575, 2097151] 57 233 hU rfl rfl (by kernel_rfl) ?_
    refine Ao ?_
    rcases E8 hg with ⟨h5, hg⟩ | ⟨h5, hg⟩
    ·refine Ao ?_
     obtain ⟨e, he, hg⟩ := Ad hg
     refine Ao ?_
     refine Da (rd := [0]) (Cj rfl rfl h5) rfl (Ci Dd (Bh Aa.enc_len (Aq he) (o := 0) (m := 2) (cs := [.int .i64 e.First, .int .i64 e.Then]) rfl (by decide) rfl) (Ax Aa.enc_len (Aq he) (o := 0) (m := 2) (by decide) rfl)) rfl rfl ?_
     refine Ao ?_
     obtain ⟨e_2, he_2, hg⟩ := Ad hg
     refine Ao ?_
     refine Da (rd := [0]) (Cj rfl rfl h5) rfl (Ci Dd (Bh Aa.enc_len (Aq he_2) (o := 0) (m := 2) (cs := [.int .i64 e_2.First, .int .i64 e_2.Then]) rfl (by decide) rfl) (Ax Aa.enc_len (Aq he_2) (o := 0) (m := 2) (by decide) rfl)) rfl rfl ?_
     obtain ⟨y, hy, hg⟩ := Ad hg
     refine Fg (rd := []) (ps := []) (gs := []) false (Cj rfl rfl h5) rfl (hf_cmp e e_2 _ hy) rfl rfl (.cons (.agg (.cons .val (.cons .val .nil))) (.cons (.agg (.cons .val (.cons .val .nil))) .nil)) rfl rfl (by intro h; cases h) rfl rfl rfl rfl ?_
     refine Ao ?_
     refine Al fun hU => ?_
     exact ⟨decide (y < 0), hg, A9 [(0, 0)]⟩
    ·refine Ao ?_
     refine Al fun hU => ?_
     exact ⟨false, hg, A9 [(0, 0)]⟩
   ·rintro x40_2 hg
    replace hg : As.j2 first cmp root_1 data_1 x40_2 = some o1 := hg
    show Cy _ _ _ _ (mk _ _ _)
    unfold As.j2 at hg
    refine D1 rfl hg (fun h8 hg => ?_) fun h8 hg => ?_
    ·refine Af (Cd _ _ []) 1 25 Bg rfl rfl ?_
     refine Ao ?_
     refine Al fun hU => ?_
     exact ⟨W ((W ((W (2 * root_1)) + 1)) + 1), hg, A9 [(0, 0)]⟩
    ·refine Ay ?_
     repeat first | refine Dg ?_ | refine Df ?_
     exact ⟨W ((W (2 * root_1)) + 1), hg, A9 [(0, 0)]⟩
  ·rintro child_3 hg
   replace hg : As.j3 first cmp root_1 data_1 child_3 = some o1 := hg
   show Cy _ _ _ _ (mk _ _ _)
   unfold As.j3 at hg
   refine Aj ?_
   refine Aj ?_
   refine Ck (Cd _ _ []) (by kernel_rfl) [0, 0, 0, 0, 12, 30, 62, 0, 0, 0, 768, 1920, 3968, 8191, 16383, 32767] 1 129 Bg rfl rfl (by kernel_rfl) ?_
   refine Ao ?_
   obtain ⟨e_3, he_3, hg⟩ := Ad hg
   refine Ao ?_
   refine Da (rd := [0]) rfl rfl (Ci Dd (Bh Aa.enc_len (Aq he_3) (o := 0) (m := 2) (cs := [.int .i64 e_3.First, .int .i64 e_3.Then]) rfl (by decide) rfl) (Ax Aa.enc_len (Aq he_3) (o := 0) (m := 2) (by decide) rfl)) rfl rfl ?_
   refine Ao ?_
   obtain ⟨e_4, he_4, hg⟩ := Ad hg
   refine Ao ?_
   refine Da (rd := [0]) rfl rfl (Ci Dd (Bh Aa.enc_len (Aq he_4) (o := 0) (m := 2) (cs := [.int .i64 e_4.First, .int .i64 e_4.Then]) rfl (by decide) rfl) (Ax Aa.enc_len (Aq he_4) (o := 0) (m := 2) (by decide) rfl)) rfl rfl ?_
   obtain ⟨y_2, hy_2, hg⟩ := Ad hg
   refine Fg (rd := []) (ps := []) (gs := []) false rfl rfl (hf_cmp e_3 e_4 _ hy_2) rfl rfl (.cons (.agg (.cons .val (.cons .val .nil))) (.cons (.agg (.cons .val (.cons .val .nil))) .nil)) rfl rfl (by intro h; cases h) rfl rfl rfl rfl ?_
   refine Ao ?_
   refine Al fun hU => ?_
   refine D1 rfl hg (fun h11 hg => ?_) fun h11 hg => ?_
   ·refine Z5 ?_
    repeat first | refine Dg ?_ | refine Df ?_
    replace hg := Cr hg hn1
    obtain rfl := oi_ hg
    exact Bt [(0, 0)] ⟨rfl, rfl⟩
   ·refine Ay ?_
    repeat first | refine Dg ?_ | refine Df ?_
    refine Aj ?_
    refine Ck (Cd _ _ []) (by kernel_rfl) [0, 0, 0, 6, 0, 0, 0, 96, 0, 0, 0, 1536, 3840, 7936, 0, 0, 0, 98304, 245760, 507904, 1048335, 2096911, 4194303, 8388607] 129 321 hU rfl rfl (by kernel_rfl) ?_
    refine Ao ?_
    refine Da (rd := [0]) rfl rfl (Ci Dd (Bh Aa.enc_len (Aq he_4) (o := 0) (m := 2) (cs := [.int .i64 e_4.First, .int .i64 e_4.Then]) rfl (by decide) rfl) (Ax Aa.enc_len (Aq he_4) (o := 0) (m := 2) (by decide) rfl)) rfl rfl ?_
    refine Ao ?_
    refine Da (rd := [0]) rfl rfl (Ci Dd (Bh Aa.enc_len (Aq he_3) (o := 0) (m := 2) (cs := [.int .i64 e_3.First, .int .i64 e_3.Then]) rfl (by decide) rfl) (Ax Aa.enc_len (Aq he_3) (o := 0) (m := 2) (by decide) rfl)) rfl rfl ?_
    refine Ao ?_
    refine Da (rd := [0]) rfl rfl (D9 Dd rfl (Ax Aa.enc_len (Aq he_3) (o := 0) (m := 2) (by decide) rfl) He (cs' := [.int .i64 e_4.First, .int .i64 e_4.Then]) (.cons .int (.cons .int .nil)) (Dm Aa.enc_len (Aq he_3) (o := 0) (x' := e_4) (Nat.le_of_ble_eq_true rfl) rfl rfl)) rfl rfl ?_
    obtain ⟨e_5, he_5, hg⟩ := Ad hg
    refine Ao ?_
    refine Da (rd := [0]) rfl rfl (D9 Dd rfl (Ax Aa.enc_len (Aq he_5) (o := 0) (m := 2) (by decide) rfl) He (cs' := [.int .i64 e_3.First, .int .i64 e_3.Then]) (.cons .int (.cons .int .nil)) (Dm Aa.enc_len (Aq he_5) (o := 0) (x' := e_3) (Nat.le_of_ble_eq_true rfl) rfl rfl)) rfl rfl ?_
    refine Al fun hU => ?_
    refine Af (Cd _ _ []) 321 337 hU rfl rfl ?_
    refine Ao ?_
    refine Al fun hU => ?_
    obtain rfl := oi_ hg
    exact ⟨((child_3, De (De data_1 ((W (first + root_1)).toNat) e_4) ((W (first + child_3)).toNat) e_3), m1), Nat.lt_succ_self _, hn1, A9 [(0, 0)]⟩
theorem Hv (data : List Aa) (a : Int) (b : Int) (cmp : Aa -> Aa -> Option (Int)) (hf_cmp : ∀ (x0 : Aa) (x1 : Aa) (y : Int), cmp x0 x1 = some y -> Fn Tryz.prog 69 0 [.agg [.val (.int .i64 x0.First), .val (.int .i64 x0.Then)], .agg [.val (.int .i64 x1.First), .val (.int .i64 x1.Then)]] [] (fun d' b' => d' = .val (.int .i64 y) /\ b' = [])) (r : (List Aa)) (hg : A6 data a b cmp = some r) : Fn Tryz.prog 126 1 [.row 0, .val (.int .i64 a), .val (.int .i64 b), .clo 69 0 []] [.row 122 2 (Av Aa.enc data)] (fun d' b' => d' = .tup [] /\ b' = [.row 122 2 (Av Aa.enc r)]) := by
 unfold A6 at hg
 refine Fn.of Tryz.func126 rfl rfl rfl fun w0 I ρ0 => ?_
 show Cy _ ⟨w0, I, ρ0, 1, 1, 60⟩ _ _ _
 refine Bu 1 17 Bg ?_
 refine Ao ?_
 refine Al fun hU => ?_
 refine Bu 17 25 hU ?_
 refine Ao ?_
 refine Al fun hU => ?_
 refine Bu 25 57 hU ?_
 refine Ao ?_
 refine Al fun hU => ?_
 refine Aj ?_
 refine Bu 57 89 hU ?_
 refine Ao ?_
 obtain ⟨q, hq, hg⟩ := Ad hg
 refine Cl rfl rfl (Rc hq) rfl rfl ?_
 refine Ao ?_
 refine Al fun hU => ?_
 refine A3 ?_
 refine Ix (fun ((i_1, data_1) : Int × List Aa) => mk [(0, .row 0), (3, .clo 69 0 []), (8, .val (.int .i64 a)), (9, .val (.int .i64 0)), (10, .val (.int .i64 (W (b - a)))), (11, .val (.int .i64 i_1))] [(0, .row 122 2 (Av Aa.enc data_1))] 1) hg (A9 [(0, 0)]) ?_
 rintro ⟨i_1, data_1⟩ m1 o1 hg hn1
 replace hg : A6.l1 a b cmp i_1 data_1 = some o1 := hg
 show Cy _ _ _ _ (mk _ _ _)
 unfold A6.l1 at hg
 refine Aj ?_
 refine Bu 1 17 Bg ?_
 refine Ao ?_
 refine Al fun hU => ?_
 refine D1 rfl hg (fun h6 hg => ?_) fun h6 hg => ?_
 ·refine Ay ?_
  repeat first | refine Dg ?_ | refine Df ?_
  refine Aj ?_
  refine A3 ?_
  refine Af (Cd _ _ []) 17 65 hU rfl rfl ?_
  refine Ao ?_
  obtain ⟨y, hy, hg⟩ := Ad hg
  refine K0 [0] [0] [] false (Fx data_1 i_1 (W (b - a)) a cmp hf_cmp _ hy) ?_
  refine Al fun hU => ?_
  refine Af (Cd _ _ []) 65 89 hU rfl rfl ?_
  refine Ao ?_
  refine Al fun hU => ?_
  obtain rfl := oi_ hg
  exact ⟨((W (i_1 - 1), y), m1), Nat.lt_succ_self _, hn1, A9 [(0, 0)]⟩
 ·refine B8 ?_
  repeat first | refine Dg ?_ | refine Df ?_
  replace hg := Cr hg hn1
  refine Bu 17 41 hU ?_
  refine Ao ?_
  refine Al fun hU => ?_
  refine A3 ?_
  refine Ix (fun ((i_2, data_2) : Int × List Aa) => mk [(0, .row 0), (3, .clo 69 0 []), (8, .val (.int .i64 a)), (9, .val (.int .i64 0)), (12, .val (.int .i64 i_2))] [(0, .row 122 2 (Av Aa.enc data_2))] 1) hg (A9 [(0, 0)]) ?_
  rintro ⟨i_2, data_2⟩ m2 o2 hg hn2
  replace hg : A6.l2 a cmp i_2 data_2 = some o2 := hg
  show Cy _ _ _ _ (mk _ _ _)
  unfold A6.l2 at hg
  refine Aj ?_
  refine Bu 1 17 Bg ?_
  refine Ao ?_
  refine Al fun hU => ?_
  refine D1 rfl hg (fun h11 hg => ?_) fun h11 hg => ?_
  ·refine Ay ?_
   repeat first | refine Dg ?_ | refine Df ?_
   refine Aj ?_
   refine A3 ?_
   refine Aj ?_
   refine Ck (Cd _ _ []) (by kernel_rfl) [0, 0, 0, 0, 0, 24, 0, 0, 0, 384, 960, 1984, 0, 0, 12288, 28672, 65475, 131011, 262143, 524287] 17 177 hU rfl rfl (by kernel_rfl) ?_
   refine Ao ?_
   obtain ⟨e, he, hg⟩ := Ad hg
   refine Ao ?_
   refine Da (rd := [0]) rfl rfl (Ci Dd (Bh Aa.enc_len (Aq he) (o := 0) (m := 2) (cs := [.int .i64 e.First, .int .i64 e.Then]) rfl (by decide) rfl) (Ax Aa.enc_len (Aq he) (o := 0) (m := 2) (by decide) rfl)) rfl rfl ?_
   refine Ao ?_
   obtain ⟨e_2, he_2, hg⟩ := Ad hg
   refine Ao ?_
   refine Da (rd := [0]) rfl rfl (Ci Dd (Bh Aa.enc_len (Aq he_2) (o := 0) (m := 2) (cs := [.int .i64 e_2.First, .int .i64 e_2.Then]) rfl (by decide) rfl) (Ax Aa.enc_len (Aq he_2) (o := 0) (m := 2) (by decide) rfl)) rfl rfl ?_
   refine Ao ?_
   refine Da (rd := [0]) rfl rfl (D9 Dd rfl (Ax Aa.enc_len (Aq he_2) (o := 0) (m := 2) (by decide) rfl) He (cs' := [.int .i64 e.First, .int .i64 e.Then]) (.cons .int (.cons .int .nil)) (Dm Aa.enc_len (Aq he_2) (o := 0) (x' := e) (Nat.le_of_ble_eq_true rfl) rfl rfl)) rfl rfl ?_
   obtain ⟨e_3, he_3, hg⟩ := Ad hg
   refine Ao ?_
   refine Da (rd := [0]) rfl rfl (D9 Dd rfl (Ax Aa.enc_len (Aq he_3) (o := 0) (m := 2) (by decide) rfl) He (cs' := [.int .i64 e_2.First, .int .i64 e_2.Then]) (.cons .int (.cons .int .nil)) (Dm Aa.enc_len (Aq he_3) (o := 0) (x' := e_2) (Nat.le_of_ble_eq_true rfl) rfl rfl)) rfl rfl ?_
   refine Al fun hU => ?_
   refine Af (Cd _ _ []) 177 225 hU rfl rfl ?_
   refine Ao ?_
   obtain ⟨y_2, hy_2, hg⟩ := Ad hg
   refine K0 [0] [0] [] false (Fx (De (De data_2 ((a).toNat) e) ((W (a + i_2)).toNat) e_2) 0 i_2 a cmp hf_cmp _ hy_2) ?_
   refine Al fun hU => ?_
   refine Af (Cd _ _ []) 225 249 hU rfl rfl ?_
   refine Ao ?_
   refine Al fun hU => ?_
   obtain rfl := oi_ hg
   exact ⟨((W (i_2 - 1), y_2), m2), Nat.lt_succ_self _, hn2, A9 [(0, 0)]⟩
  ·refine B8 ?_
   repeat first | refine Dg ?_ | refine Df ?_
   replace hg := Cr hg hn2
   obtain rfl := oi_ hg
   exact Bt [(0, 0)] ⟨rfl, rfl⟩
theorem O0 (length : Int) (r : Int) (hg : F7 length = some r) : Fn Tryz.prog 151 0 [.val (.int .i64 length)] [] (fun d' b' => d' = .val (.int .u64 r) /\ b' = []) := by
 unfold F7 at hg
 refine Fn.of Tryz.func151 rfl rfl rfl fun w0 I ρ0 => ?_
 show Cy _ ⟨w0, I, ρ0, 0, 0, 7⟩ _ _ _
 refine Bu 0 8 Bg ?_
 refine Ao ?_
 refine Al fun hU => ?_
 refine Bu 8 48 hU ?_
 refine Ao ?_
 refine Cl rfl rfl (Wi V4 dE) rfl rfl ?_
 obtain ⟨y, hy, hg⟩ := Ad hg
 refine E4 (Qb _ _ hy) ?_
 obtain ⟨q, hq, hg⟩ := Ad hg
 refine Cl rfl rfl (cG hq) rfl rfl ?_
 refine Ao ?_
 refine Al fun hU => ?_
 refine Bv ?_
 obtain rfl := oi_ hg
 exact Bt [] ⟨rfl, rfl⟩
theorem Pj (r' : Int) (r : Int × Int) (hg : Gj r' = some r) : Fn Tryz.prog 152 1 [.ptr 0 0] [.box [.val (.int .u64 r')] 193] (fun d' b' => d' = .val (.int .u64 r.1) /\ b' = [.box [.val (.int .u64 r.2)] 193]) := by
 unfold Gj at hg
 refine Fn.of Tryz.func152 rfl rfl rfl fun w0 I ρ0 => ?_
 show Cy _ ⟨w0, I, ρ0, 1, 1, 33⟩ _ _ _
 refine Bu 1 9 Bg ?_
 refine Ao ?_
 refine Al fun hU => ?_
 refine Aj ?_
 refine Ck (Cd _ _ []) (by kernel_rfl) [0, 1, 3, 0, 8, 24, 56, 127, 255, 511] 9 89 hU rfl rfl (by kernel_rfl) ?_
 refine Ao ?_
 obtain ⟨q, hq, hg⟩ := Ad hg
 refine Cl rfl rfl (cG hq) rfl rfl ?_
 refine Cl rfl rfl Zp rfl rfl ?_
 refine Ao ?_
 refine Al fun hU => ?_
 refine Aj ?_
 refine Ck (Cd _ _ []) (by kernel_rfl) [0, 1, 3, 0, 8, 24, 56, 127, 255, 511] 89 169 hU rfl rfl (by kernel_rfl) ?_
 refine Ao ?_
 obtain ⟨q_2, hq_2, hg⟩ := Ad hg
 refine Cl rfl rfl (U2 hq_2) rfl rfl ?_
 refine Cl rfl rfl Zp rfl rfl ?_
 refine Ao ?_
 refine Al fun hU => ?_
 refine Aj ?_
 refine Ck (Cd _ _ []) (by kernel_rfl) [0, 1, 3, 0, 8, 24, 56, 127, 255, 511] 169 249 hU rfl rfl (by kernel_rfl) ?_
 refine Ao ?_
 obtain ⟨q_3, hq_3, hg⟩ := Ad hg
 refine Cl rfl rfl (cG hq_3) rfl rfl ?_
 refine Cl rfl rfl Zp rfl rfl ?_
 refine Ao ?_
 refine Al fun hU => ?_
 refine Bu 249 281 hU ?_
 refine Ao ?_
 refine Al fun hU => ?_
 refine Bv ?_
 obtain rfl := oi_ hg
 exact Bt [(0, 0)] ⟨rfl, rfl⟩
theorem G8 (data : List Aa) (a : Int) (b : Int) (cmp : Aa -> Aa -> Option (Int)) (hf_cmp : ∀ (x0 : Aa) (x1 : Aa) (y : Int), cmp x0 x1 = some y -> Fn Tryz.prog 69 0 [.agg [.val (.int .i64 x0.First), .val (.int .i64 x0.Then)], .agg [.val (.int .i64 x1.First), .val (.int .i64 x1.Then)]] [] (fun d' b' => d' = .val (.int .i64 y) /\ b' = [])) (r : (List Aa)) (hg : A5 data a b cmp = some r) : Fn Tryz.prog 127 1 [.row 0, .val (.int .i64 a), .val (.int .i64 b), .clo 69 0 []] [.row 122 2 (Av Aa.enc data)] (fun d' b' => d' = .tup [] /\ b' = [.row 122 2 (Av Aa.enc r)]) := by
 unfold A5 at hg
 refine Fn.of Tryz.func127 rfl rfl rfl fun w0 I ρ0 => ?_
 show Cy _ ⟨w0, I, ρ0, 1, 1, 67⟩ _ _ _
 refine Bu 1 33 Bg ?_
 refine Ao ?_
 refine Al fun hU => ?_
 refine Bu 33 49 hU ?_
 refine Ao ?_
 refine Al fun hU => ?_
 refine D1 rfl hg (fun h3 hg => ?_) fun h3 hg => ?_
 ·refine Aj ?_
  refine Af (Cd _ _ []) 49 81 hU rfl rfl ?_
  refine Ao ?_
  refine Cl rfl rfl (Wi V4 rP) rfl rfl ?_
  refine Ao ?_
  refine Al fun hU => ?_
  refine Bu 81 105 hU ?_
  refine Ao ?_
  obtain ⟨y, hy, hg⟩ := Ad hg
  refine E4 (O0 _ _ hy) ?_
  refine Ao ?_
  refine Al fun hU => ?_
  refine Bu 105 161 hU ?_
  refine Ao ?_
  obtain ⟨q, hq, hg⟩ := Ad hg
  refine Cl rfl rfl (Rc hq) rfl rfl ?_
  refine Ao ?_
  refine Al fun hU => ?_
  refine A3 ?_
  refine Ix (fun ((idx_1, data_1, random_1) : Int × List Aa × Int) => mk [(0, .row 0), (1, .val (.int .i64 a)), (8, .val (.int .i64 (W (b - a)))), (9, .ptr 1 0), (10, .val (.int .u64 y)), (11, .val (.int .i64 idx_1))] [(0, .row 122 2 (Av Aa.enc data_1)), (1, .box [.val (.int .u64 random_1)] 193)] 2) hg (A9 [(0, 0), (1, 65)]) ?_
  rintro ⟨idx_1, data_1, random_1⟩ m1 o1 hg hn1
  replace hg : A5.l1 a b y idx_1 data_1 random_1 = some o1 := hg
  show Cy _ _ _ _ (mk _ _ _)
  unfold A5.l1 at hg
  refine Aj ?_
  refine Bu 2 66 Bg ?_
  refine Ao ?_
  obtain ⟨q_2, hq_2, hg⟩ := Ad hg
  refine Cl rfl rfl (Rc hq_2) rfl rfl ?_
  refine Ao ?_
  refine Al fun hU => ?_
  refine D1 rfl hg (fun h8 hg => ?_) fun h8 hg => ?_
  ·refine Ay ?_
   repeat first | refine Dg ?_ | refine Df ?_
   refine Aj ?_
   refine A3 ?_
   refine Bu 66 114 hU ?_
   obtain ⟨y_2, hy_2, hg⟩ := Ad hg
   refine K0 [1] [1] [] false (Pj _ _ hy_2) ?_
   refine Ao ?_
   refine Cl rfl rfl qX rfl rfl ?_
   refine Cl rfl rfl uC rfl rfl ?_
   refine Cl rfl rfl (Xe dE V4) rfl rfl ?_
   refine Ao ?_
   refine Al fun hU => ?_
   refine B7 (ι := Int) (fun (other_2 : Int) => mk [(0, .row 0), (1, .val (.int .i64 a)), (8, .val (.int .i64 (W (b - a)))), (9, .ptr 1 0), (10, .val (.int .u64 y)), (11, .val (.int .i64 idx_1)), (12, .val (.int .i64 other_2))] [(0, .row 122 2 (Av Aa.enc data_1)), (1, .box [.val (.int .u64 y_2.2)] 193)] 2) (fun (other_2 : Int) => A5.j2 a idx_1 data_1 y_2 other_2 = some o1) ?_ ?_
   ·refine Aj ?_
    refine Af (Cd _ _ []) 114 138 hU rfl rfl ?_
    refine Ao ?_
    refine Al fun hU => ?_
    refine D1 rfl hg (fun h11 hg => ?_) fun h11 hg => ?_
    ·refine Af (Cd _ _ []) 138 170 hU rfl rfl ?_
     refine Ao ?_
     refine Al fun hU => ?_
     exact ⟨W ((W (aM .u64 y_2.1 (IntKind.wrap .u64 (y - 1)))) - (W (b - a))), hg, A9 [(0, 0), (1, 1)]⟩
    ·refine Ay ?_
     repeat first | refine Dg ?_ | refine Df ?_
     exact ⟨W (aM .u64 y_2.1 (IntKind.wrap .u64 (y - 1))), hg, A9 [(0, 0), (1, 1)]⟩
   ·rintro other_2 hg
    replace hg : A5.j2 a idx_1 data_1 y_2 other_2 = some o1 := hg
    show Cy _ _ _ _ (mk _ _ _)
    unfold A5.j2 at hg
    refine Ck (Cd _ _ []) (by kernel_rfl) [0, 0, 0, 0, 0, 24, 0, 0, 0, 384, 960, 1984, 0, 0, 12288, 28672, 65475, 131011, 262143, 524287] 2 162 Bg rfl rfl (by kernel_rfl) ?_
    refine Ao ?_
    obtain ⟨e, he, hg⟩ := Ad hg
    refine Ao ?_
    refine Da (rd := [0]) rfl rfl (Ci Dd (Bh Aa.enc_len (Aq he) (o := 0) (m := 2) (cs := [.int .i64 e.First, .int .i64 e.Then]) rfl (by decide) rfl) (Ax Aa.enc_len (Aq he) (o := 0) (m := 2) (by decide) rfl)) rfl rfl ?_
    refine Ao ?_
    obtain ⟨e_2, he_2, hg⟩ := Ad hg
    refine Ao ?_
    refine Da (rd := [0]) rfl rfl (Ci Dd (Bh Aa.enc_len (Aq he_2) (o := 0) (m := 2) (cs := [.int .i64 e_2.First, .int .i64 e_2.Then]) rfl (by decide) rfl) (Ax Aa.enc_len (Aq he_2) (o := 0) (m := 2) (by decide) rfl)) rfl rfl ?_
    refine Ao ?_
    refine Da (rd := [0]) rfl rfl (D9 Dd rfl (Ax Aa.enc_len (Aq he_2) (o := 0) (m := 2) (by decide) rfl) He (cs' := [.int .i64 e.First, .int .i64 e.Then]) (.cons .int (.cons .int .nil)) (Dm Aa.enc_len (Aq he_2) (o := 0) (x' := e) (Nat.le_of_ble_eq_true rfl) rfl rfl)) rfl rfl ?_
    obtain ⟨e_3, he_3, hg⟩ := Ad hg
    refine Ao ?_
    refine Da (rd := [0]) rfl rfl (D9 Dd rfl (Ax Aa.enc_len (Aq he_3) (o := 0) (m := 2) (by decide) rfl) He (cs' := [.int .i64 e_2.First, .int .i64 e_2.Then]) (.cons .int (.cons .int .nil)) (Dm Aa.enc_len (Aq he_3) (o := 0) (x' := e_2) (Nat.le_of_ble_eq_true rfl) rfl rfl)) rfl rfl ?_
    refine Al fun hU => ?_
    refine Af (Cd _ _ []) 162 186 hU rfl rfl ?_
    refine Ao ?_
    refine Al fun hU => ?_
    obtain rfl := oi_ hg
    exact ⟨((W (idx_1 + 1), De (De data_1 ((idx_1).toNat) e) ((W (a + other_2)).toNat) e_2, y_2.2), m1), Nat.lt_succ_self _, hn1, A9 [(0, 0), (1, 1)]⟩
  ·refine B8 ?_
   repeat first | refine Dg ?_ | refine Df ?_
   replace hg := Cr hg hn1
   obtain rfl := oi_ hg
   exact Bt [(0, 0)] ⟨rfl, rfl⟩
 ·refine Ay ?_
  repeat first | refine Dg ?_ | refine Df ?_
  obtain rfl := oi_ hg
  exact Bt [(0, 0)] ⟨rfl, rfl⟩
theorem Et (data : (List Aa)) (a : Int) (b : Int) (swaps : Int) (cmp : Aa -> Aa -> Option (Int)) (hf_cmp : ∀ (x0 : Aa) (x1 : Aa) (y : Int), cmp x0 x1 = some y -> Fn Tryz.prog 69 0 [.agg [.val (.int .i64 x0.First), .val (.int .i64 x0.Then)], .agg [.val (.int .i64 x1.First), .val (.int .i64 x1.Then)]] [] (fun d' b' => d' = .val (.int .i64 y) /\ b' = [])) (r : Int × Int × Int) (hg : Dr data a b swaps cmp = some r) : Fn Tryz.prog 163 1 [.sl 2 (Av Aa.enc data), .val (.int .i64 a), .val (.int .i64 b), .ptr 0 0, .clo 69 0 []] [.box [.val (.int .i64 swaps)] 3] (fun d' b' => d' = .tup [.val (.int .i64 r.1), .val (.int .i64 r.2.1)] /\ b' = [.box [.val (.int .i64 r.2.2)] 3]) := by
 unfold Dr at hg
 refine Fn.of Tryz.func163 rfl rfl rfl fun w0 I ρ0 => ?_
 show Cy _ ⟨w0, I, ρ0, 1, 1, 32⟩ _ _ _
 refine Bu 1 17 Bg ?_
 refine Ao ?_
 refine Al fun hU => ?_
 refine Aj ?_
 refine Aj ?_
 refine Ck (Cd _ _ []) (by kernel_rfl) [0, 0, 0, 6, 14, 0, 0, 96, 224, 511, 1023] 17 105 hU rfl rfl (by kernel_rfl) ?_
 refine Ao ?_
 obtain ⟨e, he, hg⟩ := Ad hg
 refine Ao ?_
 refine Cl rfl rfl (D4 Dd (Bh Aa.enc_len (Aq he) (o := 0) (m := 2) (cs := [.int .i64 e.First, .int .i64 e.Then]) rfl (by decide) rfl) (Ax Aa.enc_len (Aq he) (o := 0) (m := 2) (by decide) rfl)) rfl rfl ?_
 refine Ao ?_
 obtain ⟨e_2, he_2, hg⟩ := Ad hg
 refine Ao ?_
 refine Cl rfl rfl (D4 Dd (Bh Aa.enc_len (Aq he_2) (o := 0) (m := 2) (cs := [.int .i64 e_2.First, .int .i64 e_2.Then]) rfl (by decide) rfl) (Ax Aa.enc_len (Aq he_2) (o := 0) (m := 2) (by decide) rfl)) rfl rfl ?_
 obtain ⟨y, hy, hg⟩ := Ad hg
 refine Fg (rd := []) (ps := []) (gs := []) false rfl rfl (hf_cmp e e_2 _ hy) rfl rfl (.cons (.agg (.cons .val (.cons .val .nil))) (.cons (.agg (.cons .val (.cons .val .nil))) .nil)) rfl rfl (by intro h; cases h) rfl rfl rfl rfl ?_
 refine Ao ?_
 refine Al fun hU => ?_
 refine D1 rfl hg (fun h3 hg => ?_) fun h3 hg => ?_
 ·refine Aj ?_
  refine Af (Cd _ _ []) 105 153 hU rfl rfl ?_
  refine Ao ?_
  refine Al fun hU => ?_
  refine Bu 153 185 hU ?_
  refine Ao ?_
  refine Al fun hU => ?_
  refine Bv ?_
  obtain rfl := oi_ hg
  exact Bt [(0, 0)] ⟨rfl, rfl⟩
 ·refine Ay ?_
  repeat first | refine Dg ?_ | refine Df ?_
  refine Bu 105 137 hU ?_
  refine Ao ?_
  refine Al fun hU => ?_
  refine Bv ?_
  obtain rfl := oi_ hg
  exact Bt [(0, 0)] ⟨rfl, rfl⟩
theorem F1 (data : (List Aa)) (a : Int) (b : Int) (c : Int) (swaps : Int) (cmp : Aa -> Aa -> Option (Int)) (hf_cmp : ∀ (x0 : Aa) (x1 : Aa) (y : Int), cmp x0 x1 = some y -> Fn Tryz.prog 69 0 [.agg [.val (.int .i64 x0.First), .val (.int .i64 x0.Then)], .agg [.val (.int .i64 x1.First), .val (.int .i64 x1.Then)]] [] (fun d' b' => d' = .val (.int .i64 y) /\ b' = [])) (r : Int × Int) (hg : D2 data a b c swaps cmp = some r) : Fn Tryz.prog 154 1 [.sl 2 (Av Aa.enc data), .val (.int .i64 a), .val (.int .i64 b), .val (.int .i64 c), .ptr 0 0, .clo 69 0 []] [.box [.val (.int .i64 swaps)] 3] (fun d' b' => d' = .val (.int .i64 r.1) /\ b' = [.box [.val (.int .i64 r.2)] 3]) := by
 unfold D2 at hg
 refine Fn.of Tryz.func154 rfl rfl rfl fun w0 I ρ0 => ?_
 show Cy _ ⟨w0, I, ρ0, 1, 1, 41⟩ _ _ _
 refine Bu 1 9 Bg ?_
 refine Ao ?_
 refine Al fun hU => ?_
 refine Bu 9 97 hU ?_
 refine Ao ?_
 obtain ⟨y, hy, hg⟩ := Ad hg
 refine K0 [0] [0] [] false (Et data a b swaps cmp hf_cmp _ hy) ?_
 refine Ao ?_
 refine Al fun hU => ?_
 refine Bu 97 185 hU ?_
 refine Ao ?_
 obtain ⟨y_2, hy_2, hg⟩ := Ad hg
 refine K0 [0] [0] [] false (Et data y.2.1 c y.2.2 cmp hf_cmp _ hy_2) ?_
 refine Ao ?_
 refine Al fun hU => ?_
 refine Bu 185 273 hU ?_
 refine Ao ?_
 obtain ⟨y_3, hy_3, hg⟩ := Ad hg
 refine K0 [0] [0] [] false (Et data y.1 y_2.1 y_2.2.2 cmp hf_cmp _ hy_3) ?_
 refine Ao ?_
 refine Al fun hU => ?_
 refine Bu 273 289 hU ?_
 refine Ao ?_
 refine Al fun hU => ?_
 refine Bv ?_
 obtain rfl := oi_ hg
 exact Bt [(0, 0)] ⟨rfl, rfl⟩
theorem Eb (data : (List Aa)) (a : Int) (swaps : Int) (cmp : Aa -> Aa -> Option (Int)) (hf_cmp : ∀ (x0 : Aa) (x1 : Aa) (y : Int), cmp x0 x1 = some y -> Fn Tryz.prog 69 0 [.agg [.val (.int .i64 x0.First), .val (.int .i64 x0.Then)], .agg [.val (.int .i64 x1.First), .val (.int .i64 x1.Then)]] [] (fun d' b' => d' = .val (.int .i64 y) /\ b' = [])) (r : Int × Int) (hg : Cu data a swaps cmp = some r) : Fn Tryz.prog 153 1 [.sl 2 (Av Aa.enc data), .val (.int .i64 a), .ptr 0 0, .clo 69 0 []] [.box [.val (.int .i64 swaps)] 3] (fun d' b' => d' = .val (.int .i64 r.1) /\ b' = [.box [.val (.int .i64 r.2)] 3]) := by
 unfold Cu at hg
 refine Fn.of Tryz.func153 rfl rfl rfl fun w0 I ρ0 => ?_
 show Cy _ ⟨w0, I, ρ0, 1, 1, 18⟩ _ _ _
 refine Bu 1 9 Bg ?_
 refine Ao ?_
 refine Al fun hU => ?_
 refine Bu 9 89 hU ?_
 refine Ao ?_
 obtain ⟨y, hy, hg⟩ := Ad hg
 refine K0 [0] [0] [] false (F1 data (W (a - 1)) a (W (a + 1)) swaps cmp hf_cmp _ hy) ?_
 refine Ao ?_
 refine Al fun hU => ?_
 refine Bv ?_
 obtain rfl := oi_ hg
 exact Bt [(0, 0)] ⟨rfl, rfl⟩
theorem Hf (data : (List Aa)) (a : Int) (b : Int) (cmp : Aa -> Aa -> Option (Int)) (hf_cmp : ∀ (x0 : Aa) (x1 : Aa) (y : Int), cmp x0 x1 = some y -> Fn Tryz.prog 69 0 [.agg [.val (.int .i64 x0.First), .val (.int .i64 x0.Then)], .agg [.val (.int .i64 x1.First), .val (.int .i64 x1.Then)]] [] (fun d' b' => d' = .val (.int .i64 y) /\ b' = [])) (r : Int × Int) (hg : A8 data a b cmp = some r) : Fn Tryz.prog 128 0 [.sl 2 (Av Aa.enc data), .val (.int .i64 a), .val (.int .i64 b), .clo 69 0 []] [] (fun d' b' => d' = .tup [.val (.int .i64 r.1), .val (.int .i64 r.2)] /\ b' = []) := by
 unfold A8 at hg
 refine Fn.of Tryz.func128 rfl rfl rfl fun w0 I ρ0 => ?_
 show Cy _ ⟨w0, I, ρ0, 0, 0, 63⟩ _ _ _
 refine Bu 0 16 Bg ?_
 refine Ao ?_
 refine Al fun hU => ?_
 refine Bu 16 48 hU ?_
 refine Ao ?_
 refine Al fun hU => ?_
 refine Bu 48 56 hU ?_
 refine Ao ?_
 refine Al fun hU => ?_
 refine Bu 56 104 hU ?_
 refine Ao ?_
 obtain ⟨q, hq, hg⟩ := Ad hg
 refine Cl rfl rfl (Rc hq) rfl rfl ?_
 refine Ao ?_
 refine Al fun hU => ?_
 refine Bu 104 152 hU ?_
 refine Ao ?_
 obtain ⟨q_2, hq_2, hg⟩ := Ad hg
 refine Cl rfl rfl (Rc hq_2) rfl rfl ?_
 refine Ao ?_
 refine Al fun hU => ?_
 refine Bu 152 200 hU ?_
 refine Ao ?_
 obtain ⟨q_3, hq_3, hg⟩ := Ad hg
 refine Cl rfl rfl (Rc hq_3) rfl rfl ?_
 refine Ao ?_
 refine Al fun hU => ?_
 refine B7 (ι := Int × Int) (fun ((j_2, swaps_2) : Int × Int) => mk [(11, .ptr 0 0), (13, .val (.int .i64 j_2))] [(0, .box [.val (.int .i64 swaps_2)] 3)] 1) (fun ((j_2, swaps_2) : Int × Int) => A8.j2 j_2 swaps_2 = some r) ?_ ?_
 ·refine Aj ?_
  refine Af (Cd _ _ []) 200 216 hU rfl rfl ?_
  refine Ao ?_
  refine Al fun hU => ?_
  refine D1 rfl hg (fun h8 hg => ?_) fun h8 hg => ?_
  ·refine B7 (ι := Int × Int × Int × Int) (fun ((i_1, j_1, k_1, swaps_1) : Int × Int × Int × Int) => mk [(0, .sl 2 (Av Aa.enc data)), (3, .clo 69 0 []), (11, .ptr 0 0), (12, .val (.int .i64 i_1)), (13, .val (.int .i64 j_1)), (14, .val (.int .i64 k_1))] [(0, .box [.val (.int .i64 swaps_1)] 3)] 1) (fun ((i_1, j_1, k_1, swaps_1) : Int × Int × Int × Int) => A8.j1 data cmp i_1 j_1 k_1 swaps_1 = some r) ?_ ?_
   ·refine Aj ?_
    refine Af (Cd _ _ []) 216 232 hU rfl rfl ?_
    refine Ao ?_
    refine Al fun hU => ?_
    refine D1 rfl hg (fun h10 hg => ?_) fun h10 hg => ?_
    ·refine Aj ?_
     refine Af (Cd _ _ []) 232 272 hU rfl rfl ?_
     refine Ao ?_
     obtain ⟨y, hy, hg⟩ := Ad hg
     refine K0 [48] [48] [] false (Eb data (W (a + (W (q * 1)))) 0 cmp hf_cmp _ hy) ?_
     refine Ao ?_
     refine Al fun hU => ?_
     refine Bu 272 312 hU ?_
     refine Ao ?_
     obtain ⟨y_2, hy_2, hg⟩ := Ad hg
     refine K0 [48] [48] [] false (Eb data (W (a + (W (q_2 * 2)))) y.2 cmp hf_cmp _ hy_2) ?_
     refine Ao ?_
     refine Al fun hU => ?_
     refine Af (Cd _ _ []) 312 352 hU rfl rfl ?_
     refine Ao ?_
     obtain ⟨y_3, hy_3, hg⟩ := Ad hg
     refine K0 [48] [48] [] false (Eb data (W (a + (W (q_3 * 3)))) y_2.2 cmp hf_cmp _ hy_3) ?_
     refine Ao ?_
     refine Al fun hU => ?_
     exact ⟨(y.1, y_2.1, y_3.1, y_3.2), hg, A9 [(0, 48)]⟩
    ·refine Ay ?_
     repeat first | refine Dg ?_ | refine Df ?_
     exact ⟨(W (a + (W (q * 1))), W (a + (W (q_2 * 2))), W (a + (W (q_3 * 3))), 0), hg, A9 [(0, 48)]⟩
   ·rintro ⟨i_1, j_1, k_1, swaps_1⟩ hg
    replace hg : A8.j1 data cmp i_1 j_1 k_1 swaps_1 = some r := hg
    show Cy _ _ _ _ (mk _ _ _)
    unfold A8.j1 at hg
    refine Af (Cd _ _ []) 1 57 Bg rfl rfl ?_
    refine Ao ?_
    obtain ⟨y_4, hy_4, hg⟩ := Ad hg
    refine K0 [0] [0] [] false (F1 data i_1 j_1 k_1 swaps_1 cmp hf_cmp _ hy_4) ?_
    refine Ao ?_
    refine Al fun hU => ?_
    exact ⟨(y_4.1, y_4.2), hg, A9 [(0, 0)]⟩
  ·refine Ay ?_
   repeat first | refine Dg ?_ | refine Df ?_
   exact ⟨(W (a + (W (q_2 * 2))), 0), hg, A9 [(0, 48)]⟩
 ·rintro ⟨j_2, swaps_2⟩ hg
  replace hg : A8.j2 j_2 swaps_2 = some r := hg
  show Cy _ _ _ _ (mk _ _ _)
  unfold A8.j2 at hg
  refine Bu 1 9 Bg ?_
  refine Ao ?_
  refine Al fun hU => ?_
  refine A3 ?_
  refine Bu 9 25 hU ?_
  refine Ao ?_
  refine Al fun hU => ?_
  refine D1 rfl hg (fun h17 hg => ?_) fun h17 hg => ?_
  ·refine Aj ?_
   refine Af (Cd _ _ []) 25 49 hU rfl rfl ?_
   refine Ao ?_
   refine Al fun hU => ?_
   refine Bv ?_
   obtain rfl := oi_ hg
   exact Bt [] ⟨rfl, rfl⟩
  ·refine Aj ?_
   refine Af (Cd _ _ []) 25 41 hU rfl rfl ?_
   refine Ao ?_
   refine Al fun hU => ?_
   refine D1 rfl hg (fun h20 hg => ?_) fun h20 hg => ?_
   ·refine Aj ?_
    refine Af (Cd _ _ []) 41 65 hU rfl rfl ?_
    refine Ao ?_
    refine Al fun hU => ?_
    refine Bv ?_
    obtain rfl := oi_ hg
    exact Bt [] ⟨rfl, rfl⟩
   ·refine Aj ?_
    refine Af (Cd _ _ []) 41 65 hU rfl rfl ?_
    refine Ao ?_
    refine Al fun hU => ?_
    refine Bv ?_
    obtain rfl := oi_ hg
    exact Bt [] ⟨rfl, rfl⟩
theorem Ha (data : List Aa) (a : Int) (b : Int) (cmp : Aa -> Aa -> Option (Int)) (hf_cmp : ∀ (x0 : Aa) (x1 : Aa) (y : Int), cmp x0 x1 = some y -> Fn Tryz.prog 69 0 [.agg [.val (.int .i64 x0.First), .val (.int .i64 x0.Then)], .agg [.val (.int .i64 x1.First), .val (.int .i64 x1.Then)]] [] (fun d' b' => d' = .val (.int .i64 y) /\ b' = [])) (r : (List Aa)) (hg : Bk data a b cmp = some r) : Fn Tryz.prog 129 1 [.row 0, .val (.int .i64 a), .val (.int .i64 b), .clo 69 0 []] [.row 122 2 (Av Aa.enc data)] (fun d' b' => d' = .tup [] /\ b' = [.row 122 2 (Av Aa.enc r)]) := by
 unfold Bk at hg
 refine Fn.of Tryz.func129 rfl rfl rfl fun w0 I ρ0 => ?_
 show Cy _ ⟨w0, I, ρ0, 1, 1, 34⟩ _ _ _
 refine Bu 1 17 Bg ?_
 refine Ao ?_
 refine Al fun hU => ?_
 refine Bu 17 41 hU ?_
 refine Ao ?_
 refine Al fun hU => ?_
 refine A3 ?_
 refine Ix (fun ((i_1, j_1, data_1) : Int × Int × List Aa) => mk [(0, .row 0), (8, .val (.int .i64 i_1)), (9, .val (.int .i64 j_1))] [(0, .row 122 2 (Av Aa.enc data_1))] 1) hg (A9 [(0, 0)]) ?_
 rintro ⟨i_1, j_1, data_1⟩ m1 o1 hg hn1
 replace hg : Bk.l1 i_1 j_1 data_1 = some o1 := hg
 show Cy _ _ _ _ (mk _ _ _)
 unfold Bk.l1 at hg
 refine Aj ?_
 refine Bu 1 25 Bg ?_
 refine Ao ?_
 refine Al fun hU => ?_
 refine D1 rfl hg (fun h4 hg => ?_) fun h4 hg => ?_
 ·refine Ay ?_
  repeat first | refine Dg ?_ | refine Df ?_
  refine A3 ?_
  refine Aj ?_
  refine Ck (Cd _ _ []) (by kernel_rfl) [0, 0, 0, 0, 0, 0, 48, 112, 0, 0, 768, 1792, 4083, 8179, 16383, 32767] 25 153 hU rfl rfl (by kernel_rfl) ?_
  refine Ao ?_
  obtain ⟨e, he, hg⟩ := Ad hg
  refine Ao ?_
  refine Da (rd := [0]) rfl rfl (Ci Dd (Bh Aa.enc_len (Aq he) (o := 0) (m := 2) (cs := [.int .i64 e.First, .int .i64 e.Then]) rfl (by decide) rfl) (Ax Aa.enc_len (Aq he) (o := 0) (m := 2) (by decide) rfl)) rfl rfl ?_
  refine Ao ?_
  obtain ⟨e_2, he_2, hg⟩ := Ad hg
  refine Ao ?_
  refine Da (rd := [0]) rfl rfl (Ci Dd (Bh Aa.enc_len (Aq he_2) (o := 0) (m := 2) (cs := [.int .i64 e_2.First, .int .i64 e_2.Then]) rfl (by decide) rfl) (Ax Aa.enc_len (Aq he_2) (o := 0) (m := 2) (by decide) rfl)) rfl rfl ?_
  refine Ao ?_
  refine Da (rd := [0]) rfl rfl (D9 Dd rfl (Ax Aa.enc_len (Aq he_2) (o := 0) (m := 2) (by decide) rfl) He (cs' := [.int .i64 e.First, .int .i64 e.Then]) (.cons .int (.cons .int .nil)) (Dm Aa.enc_len (Aq he_2) (o := 0) (x' := e) (Nat.le_of_ble_eq_true rfl) rfl rfl)) rfl rfl ?_
  obtain ⟨e_3, he_3, hg⟩ := Ad hg
  refine Ao ?_
  refine Da (rd := [0]) rfl rfl (D9 Dd rfl (Ax Aa.enc_len (Aq he_3) (o := 0) (m := 2) (by decide) rfl) He (cs' := [.int .i64 e_2.First, .int .i64 e_2.Then]) (.cons .int (.cons .int .nil)) (Dm Aa.enc_len (Aq he_3) (o := 0) (x' := e_2) (Nat.le_of_ble_eq_true rfl) rfl rfl)) rfl rfl ?_
  refine Al fun hU => ?_
  refine Bu 153 177 hU ?_
  refine Ao ?_
  refine Al fun hU => ?_
  refine Af (Cd _ _ []) 177 201 hU rfl rfl ?_
  refine Ao ?_
  refine Al fun hU => ?_
  obtain rfl := oi_ hg
  exact ⟨((W (i_1 + 1), W (j_1 - 1), De (De data_1 ((i_1).toNat) e) ((j_1).toNat) e_2), m1), Nat.lt_succ_self _, hn1, A9 [(0, 0)]⟩
 ·refine B8 ?_
  repeat first | refine Dg ?_ | refine Df ?_
  replace hg := Cr hg hn1
  obtain rfl := oi_ hg
  exact Bt [(0, 0)] ⟨rfl, rfl⟩
end Go.Proofs.YtkpcbnnlefcebaaGreat
