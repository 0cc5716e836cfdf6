import Derived.Test.YtkpcbnnlefcebaaGreatT1
import Derived.Test.YtkpcbnnlefcebaaGreatA1
import Derived.Test.YtkpcbnnlefcebaaGreatA2
set_option linter.unusedVariables false
set_option linter.unusedSimpArgs false
set_option maxRecDepth 100000
set_option maxHeartbeats 1600000
namespace Go.Proofs.YtkpcbnnlefcebaaGreat
open Go.RowKit
theorem Iy (x' : List Aa) (cmp : Aa -> Aa -> Option (Int)) (hf_cmp : ∀ (x0 : Aa) (x1 : Aa) (y : Int), cmp x0 x1 = some y -> Fn Tryz.prog 69 0 [.agg [.val (.int .i64 x0.First), .val (.int .i64 x0.Then)], .agg [.val (.int .i64 x1.First), .val (.int .i64 x1.Then)]] [] (fun d' b' => d' = .val (.int .i64 y) /\ b' = [])) (r : (List Aa)) (hg : Ed x' cmp = some r) : Fn Tryz.prog 68 1 [.row 0, .clo 69 0 []] [.row 122 2 (Av Aa.enc x')] (fun d' b' => d' = .tup [] /\ b' = [.row 122 2 (Av Aa.enc r)]) := by
 unfold Ed at hg
 refine Fn.of Tryz.func68 rfl rfl rfl fun w0 I ρ0 => ?_
 show Cy _ ⟨w0, I, ρ0, 1, 1, 14⟩ _ _ _
 refine Bu 1 25 Bg ?_
 refine Ao ?_
 refine Al fun hU => ?_
 refine Af (Cd _ _ []) 25 81 hU rfl rfl ?_
 refine Ao ?_
 refine Cl rfl rfl (Wi V4 dE) rfl rfl ?_
 obtain ⟨y, hy, hg⟩ := Ad hg
 refine E4 (Qb _ _ hy) ?_
 refine Ao ?_
 obtain ⟨y_2, hy_2, hg⟩ := Ad hg
 refine K0 [0] [0] [] false (Eo x' 0 (x'.length : Int) y cmp hf_cmp _ hy_2) ?_
 refine Al fun hU => ?_
 obtain rfl := oi_ hg
 exact Bt [(0, 0)] ⟨rfl, rfl⟩
theorem Kj (s : List Aa) (r : (List Aa)) (hg : Bf s = some r) : Fn Tryz.prog 70 0 [.row 0] [.row 122 2 (Av Aa.enc s)] (fun d' b' => d' = .row 0 /\ b' = [.row 122 2 (Av Aa.enc r)]) := by
 unfold Bf at hg
 refine Fn.of Tryz.func70 rfl rfl rfl fun w0 I ρ0 => ?_
 show Cy _ ⟨w0, I, ρ0, 0, 1, 61⟩ _ _ _
 refine Bu 1 9 Bg ?_
 refine Ao ?_
 refine Al fun hU => ?_
 refine Aj ?_
 refine Bu 9 33 hU ?_
 refine Ao ?_
 refine Al fun hU => ?_
 refine D1 rfl hg (fun h3 hg => ?_) fun h3 hg => ?_
 ·refine Aj ?_
  refine Af (Cd _ _ []) 33 49 hU rfl rfl ?_
  refine Ao ?_
  refine Al fun hU => ?_
  refine Bv ?_
  obtain rfl := oi_ hg
  exact Bt [(0, 0)] ⟨rfl, rfl⟩
 ·refine Ay ?_
  repeat first | refine Dg ?_ | refine Df ?_
  refine Aj ?_
  refine Bu 33 41 hU ?_
  refine Ao ?_
  refine Al fun hU => ?_
  refine A3 ?_
  refine Ix (fun (k_1 : Int) => mk [(0, .row 0), (3, .val (.int .i64 k_1))] [(0, .row 122 2 (Av Aa.enc s))] 1) hg (A9 [(0, 0)]) ?_
  rintro k_1 m1 o1 hg hn1
  replace hg : Bf.l1 s k_1 = some o1 := hg
  show Cy _ _ _ _ (mk _ _ _)
  unfold Bf.l1 at hg
  refine Aj ?_
  refine Bu 1 33 Bg ?_
  refine Ao ?_
  refine Al fun hU => ?_
  refine D1 rfl hg (fun h7 hg => ?_) fun h7 hg => ?_
  ·refine Ay ?_
   repeat first | refine Dg ?_ | refine Df ?_
   refine Aj ?_
   refine A3 ?_
   refine Aj ?_
   refine Ck (Cd _ _ []) (by kernel_rfl) [0, 0, 3, 7, 0, 0, 32, 112, 240, 511] 33 113 hU rfl rfl (by kernel_rfl) ?_
   refine Ao ?_
   obtain ⟨e, he, hg⟩ := Ad hg
   refine Ao ?_
   refine Da (rd := [0]) rfl rfl (Ci Dd (Bh Aa.enc_len (Aq he) (o := 0) (m := 2) (cs := [.int .i64 e.First, .int .i64 e.Then]) rfl (by decide) rfl) (Ax Aa.enc_len (Aq he) (o := 0) (m := 2) (by decide) rfl)) rfl rfl ?_
   refine Ao ?_
   obtain ⟨e_2, he_2, hg⟩ := Ad hg
   refine Ao ?_
   refine Da (rd := [0]) rfl rfl (Ci Dd (Bh Aa.enc_len (Aq he_2) (o := 0) (m := 2) (cs := [.int .i64 e_2.First, .int .i64 e_2.Then]) rfl (by decide) rfl) (Ax Aa.enc_len (Aq he_2) (o := 0) (m := 2) (by decide) rfl)) rfl rfl ?_
   refine Cl rfl rfl (bL e e_2) rfl rfl ?_
   refine Al fun hU => ?_
   refine D1 rfl hg (fun h9 hg => ?_) fun h9 hg => ?_
   ·refine Aj ?_
    refine Af (Cd _ _ []) 113 145 hU rfl rfl ?_
    refine Ao ?_
    obtain ⟨l, hl, hg⟩ := Ad hg
    refine Da (rd := [0]) rfl rfl (Yl Rf Aa.enc_len hl) rfl rfl ?_
    refine Ao ?_
    refine Al fun hU => ?_
    refine Aj ?_
    refine Bu 145 153 hU ?_
    refine Ao ?_
    refine Al fun hU => ?_
    refine A3 ?_
    refine Ix (fun ((k_2, k2_2, s_2) : Int × Int × List Aa) => mk [(0, .row 0), (3, .val (.int .i64 k_2)), (4, .part 0 (((k_1 : Int).toNat) * 2) (((s.length : Int) : Int).toNat - (k_1 : Int).toNat)), (5, .val (.int .i64 k2_2))] [(0, .row 122 2 (Av Aa.enc s_2))] 1) hg (A9 [(0, 0)]) ?_
    rintro ⟨k_2, k2_2, s_2⟩ m2 o2 hg hn2
    replace hg : Bf.l2 s k_1 k_2 k2_2 s_2 = some o2 := hg
    show Cy _ _ _ _ (mk _ _ _)
    unfold Bf.l2 at hg
    refine Aj ?_
    refine Bu 1 33 Bg ?_
    refine Ao ?_
    refine Cl rfl rfl (.len Rf.elem .part) rfl rfl ?_
    refine Ao ?_
    refine Al fun hU => ?_
    refine D1 rfl hg (fun h13 hg => ?_) fun h13 hg => ?_
    ·refine Ay ?_
     repeat first | refine Dg ?_ | refine Df ?_
     refine B7 (ι := Int × List Aa) (fun ((k_3, s_3) : Int × List Aa) => mk [(0, .row 0), (3, .val (.int .i64 k_3)), (4, .part 0 (((k_1 : Int).toNat) * 2) (((s.length : Int) : Int).toNat - (k_1 : Int).toNat)), (5, .val (.int .i64 k2_2))] [(0, .row 122 2 (Av Aa.enc s_3))] 1) (fun ((k_3, s_3) : Int × List Aa) => Bf.j3 k2_2 k_3 s_3 = some o2) ?_ ?_
     ·refine A3 ?_
      refine Aj ?_
      refine Ck (Cd _ _ []) (by kernel_rfl) [0, 0, 3, 7, 0, 0, 32, 112, 240, 511] 33 113 hU rfl rfl (by kernel_rfl) ?_
      refine Ao ?_
      obtain ⟨e_3, he_3, hg⟩ := Ad hg
      refine Da (rd := [0]) rfl rfl (Zx Rf (P0 he_3) (Aq he_3)) rfl rfl ?_
      refine Da (rd := [0]) rfl rfl (Ci Dd (Bh Aa.enc_len (Pv (a := (k_1 : Int).toNat) (Aq he_3)) (o := 0) (m := 2) (cs := [.int .i64 e_3.First, .int .i64 e_3.Then]) rfl (by decide) rfl) (Ax Aa.enc_len (Pv (a := (k_1 : Int).toNat) (Aq he_3)) (o := 0) (m := 2) (by decide) rfl)) rfl rfl ?_
      refine Ao ?_
      obtain ⟨e_4, he_4, hg⟩ := Ad hg
      refine Da (rd := [0]) rfl rfl (Zx Rf (P0 he_4) (Aq he_4)) rfl rfl ?_
      refine Da (rd := [0]) rfl rfl (Ci Dd (Bh Aa.enc_len (Pv (a := (k_1 : Int).toNat) (Aq he_4)) (o := 0) (m := 2) (cs := [.int .i64 e_4.First, .int .i64 e_4.Then]) rfl (by decide) rfl) (Ax Aa.enc_len (Pv (a := (k_1 : Int).toNat) (Aq he_4)) (o := 0) (m := 2) (by decide) rfl)) rfl rfl ?_
      refine Cl rfl rfl (aX e_3 e_4) rfl rfl ?_
      refine Al fun hU => ?_
      refine D1 rfl hg (fun h15 hg => ?_) fun h15 hg => ?_
      ·refine Aj ?_
       refine Af (Cd _ _ []) 113 177 hU rfl rfl ?_
       refine Ao ?_
       refine Da (rd := [0]) rfl rfl (Zx Rf (P0 he_3) (Aq he_3)) rfl rfl ?_
       refine Da (rd := [0]) rfl rfl (Ci Dd (Bh Aa.enc_len (Pv (a := (k_1 : Int).toNat) (Aq he_3)) (o := 0) (m := 2) (cs := [.int .i64 e_3.First, .int .i64 e_3.Then]) rfl (by decide) rfl) (Ax Aa.enc_len (Pv (a := (k_1 : Int).toNat) (Aq he_3)) (o := 0) (m := 2) (by decide) rfl)) rfl rfl ?_
       obtain ⟨e_5, he_5, hg⟩ := Ad hg
       refine Ao ?_
       refine Da (rd := [0]) rfl rfl (D9 Dd rfl (Ax Aa.enc_len (Aq he_5) (o := 0) (m := 2) (by decide) rfl) He (cs' := [.int .i64 e_3.First, .int .i64 e_3.Then]) (.cons .int (.cons .int .nil)) (Dm Aa.enc_len (Aq he_5) (o := 0) (x' := e_3) (Nat.le_of_ble_eq_true rfl) rfl rfl)) rfl rfl ?_
       refine Al fun hU => ?_
       refine Af (Cd _ _ []) 177 201 hU rfl rfl ?_
       refine Ao ?_
       refine Al fun hU => ?_
       exact ⟨(W (k_2 + 1), De s_2 ((k_2).toNat) e_3), hg, A9 [(0, 0)]⟩
      ·refine Ay ?_
       repeat first | refine Dg ?_ | refine Df ?_
       exact ⟨(k_2, s_2), hg, A9 [(0, 0)]⟩
     ·rintro ⟨k_3, s_3⟩ hg
      replace hg : Bf.j3 k2_2 k_3 s_3 = some o2 := hg
      show Cy _ _ _ _ (mk _ _ _)
      unfold Bf.j3 at hg
      refine Af (Cd _ _ []) 1 25 Bg rfl rfl ?_
      refine Ao ?_
      refine Al fun hU => ?_
      obtain rfl := oi_ hg
      exact ⟨((k_3, W (k2_2 + 1), s_3), m2), Nat.lt_succ_self _, hn2, A9 [(0, 0)]⟩
    ·refine B8 ?_
     repeat first | refine Dg ?_ | refine Df ?_
     replace hg := Cr hg hn2
     refine Bu 33 65 hU ?_
     refine Ao ?_
     obtain ⟨l_2, hl_2, hg⟩ := Ad hg
     refine Da (rd := [0]) rfl rfl (Yl Rf Aa.enc_len hl_2) rfl rfl ?_
     obtain ⟨l_3, hl_3, hg⟩ := Ad hg
     refine Yh (rd := [0]) rfl rfl (nS (f := Aa.enc) (a := (k_2 : Int).toNat) (m := (((s_2.length : Int) : Int).toNat - (k_2 : Int).toNat)) (z0 := (Aa.mk 0 0)) Rf Aa.enc_len (vS (ck := [none, none]) qA (.cons .int (.cons .int .nil))) (.head _) hl_3) rfl rfl (fun _ => ⟨_, rfl⟩) ?_
     rintro _ rfl
     refine Al fun hU => ?_
     refine Bu 65 97 hU ?_
     refine Ao ?_
     obtain ⟨l_4, hl_4, hg⟩ := Ad hg
     refine Da (rd := [0]) rfl rfl (Up Rf Aa.enc_len hl_4) rfl rfl ?_
     refine Ao ?_
     refine Al fun hU => ?_
     refine H6 (σ' := mk [(2, .part 0 (((0 : Int).toNat) * 2) ((k_2 : Int).toNat - (0 : Int).toNat))] [(0, .row 122 2 (Av Aa.enc l_3))] 1) (A9 [(0, 0)]) ?_
     refine H6 (σ' := mk [(2, .row 0)] [(0, .row 122 2 (Av Aa.enc (l_3.take ((k_2 : Int).toNat - (0 : Int).toNat))))] 1) (vE 2 0 Aa.enc_len (Nat.le_trans (Nat.le_add_left _ _) (jQ hl_4)) rfl rfl rfl rfl) ?_
     refine Bv ?_
     replace hg := Cr hg hn1
     obtain rfl := oi_ hg
     exact Bt [(0, 0)] ⟨rfl, rfl⟩
   ·refine Ay ?_
    repeat first | refine Dg ?_ | refine Df ?_
    refine Af (Cd _ _ []) 113 137 hU rfl rfl ?_
    refine Ao ?_
    refine Al fun hU => ?_
    obtain rfl := oi_ hg
    exact ⟨(W (k_1 + 1), m1), Nat.lt_succ_self _, hn1, A9 [(0, 0)]⟩
  ·refine B8 ?_
   repeat first | refine Dg ?_ | refine Df ?_
   replace hg := Cr hg hn1
   refine Bu 33 49 hU ?_
   refine Ao ?_
   refine Al fun hU => ?_
   refine Bv ?_
   obtain rfl := oi_ hg
   exact Bt [(0, 0)] ⟨rfl, rfl⟩
theorem Oe (l : (List Ae)) (r : (List Ae)) (hg : C4 l = some r) : Fn Tryz.prog 43 0 [.sl 2 (Av Ae.enc l)] [] (fun d' b' => d' = .sl 2 (Av Ae.enc r) /\ b' = []) := by
 unfold C4 at hg
 refine Fn.of Tryz.func43 rfl rfl rfl fun w0 I ρ0 => ?_
 show Cy _ ⟨w0, I, ρ0, 0, 0, 35⟩ _ _ _
 refine Bu 0 8 Bg ?_
 refine Ao ?_
 refine Al fun hU => ?_
 refine Bu 8 16 hU ?_
 refine Ao ?_
 refine Al fun hU => ?_
 refine Aj ?_
 refine Bu 16 40 hU ?_
 refine Ao ?_
 refine Al fun hU => ?_
 refine A3 ?_
 refine Ix (fun ((x11_1, rows_1) : Int × List Aa) => mk [(3, .row 0), (9, .sl 2 (Av Ae.enc l)), (10, .val (.int .i64 (l.length : Int))), (11, .val (.int .i64 x11_1))] [(0, .row 122 2 (Av Aa.enc rows_1))] 1) hg (A9 []) ?_
 rintro ⟨x11_1, rows_1⟩ m1 o1 hg hn1
 replace hg : C4.l1 l x11_1 rows_1 = some o1 := hg
 show Cy _ _ _ _ (mk _ _ _)
 unfold C4.l1 at hg
 refine Bu 1 9 Bg ?_
 refine Ao ?_
 refine Al fun hU => ?_
 refine Aj ?_
 refine D1 rfl hg (fun h5 hg => ?_) fun h5 hg => ?_
 ·refine Ay ?_
  repeat first | refine Dg ?_ | refine Df ?_
  refine Aj ?_
  refine A3 ?_
  refine Bu 9 41 hU ?_
  obtain ⟨e, he, hg⟩ := Ad hg
  refine Ao ?_
  refine Cl rfl rfl (D4 bH (Bh Ae.enc_len (Aq he) (o := 0) (m := 2) (cs := [.int .i64 e.First, .int .i64 e.Then]) rfl (by decide) rfl) (Ax Ae.enc_len (Aq he) (o := 0) (m := 2) (by decide) rfl)) rfl rfl ?_
  refine Ao ?_
  refine Al fun hU => ?_
  refine Af (Cd _ _ []) 41 81 hU rfl rfl ?_
  refine Ao ?_
  refine Cl rfl rfl (Bc Rf qA (by decide) rfl rfl rfl rfl He (cs := [.int .i64 e.First, .int .i64 e.Then]) (.cons .int (.cons .int .nil)) rfl (l := ([(Aa.mk e.First e.Then)] : List Aa)) (f := Aa.enc) rfl) rfl rfl ?_
  obtain ⟨l_2, hl_2, hg⟩ := Ad hg
  refine Da (rd := [0, 57]) rfl rfl (E3 Rf Aa.enc_len .row rfl .row rfl hl_2 rfl) rfl rfl ?_
  refine Ao ?_
  refine Al fun hU => ?_
  refine Af (Cd _ _ []) 81 97 hU rfl rfl ?_
  refine Ao ?_
  refine Al fun hU => ?_
  obtain rfl := oi_ hg
  exact ⟨((W (x11_1 + 1), l_2), m1), Nat.lt_succ_self _, hn1, A9 [(0, 65)]⟩
 ·refine B8 ?_
  repeat first | refine Dg ?_ | refine Df ?_
  replace hg := Cr hg hn1
  refine Bu 9 25 hU ?_
  refine Ao ?_
  obtain ⟨y, hy, hg⟩ := Ad hg
  refine K0 [0] [0] [] false (Iy rows_1 (fun x0 x1 => E1 x0 x1) (fun x0 x1 y h => On x0 x1 y h) _ hy) ?_
  refine Al fun hU => ?_
  refine Bu 25 33 hU ?_
  refine Ao ?_
  refine Al fun hU => ?_
  refine Aj ?_
  refine Bu 33 65 hU ?_
  refine Ao ?_
  obtain ⟨y_2, hy_2, hg⟩ := Ad hg
  refine Wj (rd := [0]) (ps := []) (gs := [0]) false rfl (Kj _ _ hy_2) rfl rfl (.cons (.rowK rfl) .nil) ⟨_, _, _, rfl, .head _, rfl, rfl⟩ rfl (by intro h; cases h) rfl (by intro h; first | (cases h; done) | exact ⟨_, _, ⟨rfl, rfl⟩, by simp, by simp⟩) ?_
  rintro _ _ ⟨rfl, rfl⟩
  refine Ao ?_
  refine Al fun hU => ?_
  refine A3 ?_
  refine Ix (fun ((x25_2, out_2) : Int × List Ae) => mk [(6, .row 0), (23, .row 1), (24, .val (.int .i64 (y_2.length : Int))), (25, .val (.int .i64 x25_2))] [(0, .row 53 2 (Av Ae.enc out_2)), (1, .row 122 2 (Av Aa.enc y_2))] 2) hg (A9 [(1, 41)]) ?_
  rintro ⟨x25_2, out_2⟩ m2 o2 hg hn2
  replace hg : C4.l2 y_2 x25_2 out_2 = some o2 := hg
  show Cy _ _ _ _ (mk _ _ _)
  unfold C4.l2 at hg
  refine Bu 2 10 Bg ?_
  refine Ao ?_
  refine Al fun hU => ?_
  refine Aj ?_
  refine D1 rfl hg (fun h13 hg => ?_) fun h13 hg => ?_
  ·refine Ay ?_
   repeat first | refine Dg ?_ | refine Df ?_
   refine Aj ?_
   refine A3 ?_
   refine Bu 10 42 hU ?_
   obtain ⟨e_2, he_2, hg⟩ := Ad hg
   refine Ao ?_
   refine Da (rd := [1]) rfl rfl (Ci Dd (Bh Aa.enc_len (Aq he_2) (o := 0) (m := 2) (cs := [.int .i64 e_2.First, .int .i64 e_2.Then]) rfl (by decide) rfl) (Ax Aa.enc_len (Aq he_2) (o := 0) (m := 2) (by decide) rfl)) rfl rfl ?_
   refine Ao ?_
   refine Al fun hU => ?_
   refine Af (Cd _ _ []) 42 82 hU rfl rfl ?_
   refine Ao ?_
   refine Cl rfl rfl (Bc Zc fZ (by decide) rfl rfl rfl rfl nZ (cs := [.int .i64 e_2.First, .int .i64 e_2.Then]) (.cons .int (.cons .int .nil)) rfl (l := ([(Ae.mk e_2.First e_2.Then)] : List Ae)) (f := Ae.enc) rfl) rfl rfl ?_
   obtain ⟨l_3, hl_3, hg⟩ := Ad hg
   refine Da (rd := [0, 58]) rfl rfl (E3 Zc Ae.enc_len .row rfl .row rfl hl_3 rfl) rfl rfl ?_
   refine Ao ?_
   refine Al fun hU => ?_
   refine Af (Cd _ _ []) 82 98 hU rfl rfl ?_
   refine Ao ?_
   refine Al fun hU => ?_
   obtain rfl := oi_ hg
   exact ⟨((W (x25_2 + 1), l_3), m2), Nat.lt_succ_self _, hn2, A9 [(0, 66), (1, 1)]⟩
  ·refine B8 ?_
   repeat first | refine Dg ?_ | refine Df ?_
   replace hg := Cr hg hn2
   refine Bu 10 26 hU ?_
   refine Ao ?_
   refine Al fun hU => ?_
   refine Bv ?_
   obtain rfl := oi_ hg
   exact Bt [] ⟨rfl, rfl⟩
theorem Zk (l : (List Int)) (r : (List Ae)) (hg : Gc l = some r) : Fn Tryz.prog 31 0 [.sl 1 (Av eI l)] [] (fun d' b' => d' = .sl 2 (Av Ae.enc r) /\ b' = []) := by
 unfold Gc at hg
 refine Fn.of Tryz.func31 rfl rfl rfl fun w0 I ρ0 => ?_
 show Cy _ ⟨w0, I, ρ0, 0, 0, 26⟩ _ _ _
 refine Bu 0 8 Bg ?_
 refine Ao ?_
 refine Al fun hU => ?_
 refine Bu 8 16 hU ?_
 refine Ao ?_
 refine Al fun hU => ?_
 refine Aj ?_
 refine Bu 16 24 hU ?_
 refine Ao ?_
 refine Al fun hU => ?_
 refine A3 ?_
 refine Ix (fun ((i_1, out_1) : Int × List Ae) => mk [(0, .sl 1 (Av eI l)), (3, .row 0), (4, .val (.int .i64 i_1))] [(0, .row 53 2 (Av Ae.enc out_1))] 1) hg (A9 []) ?_
 rintro ⟨i_1, out_1⟩ m1 o1 hg hn1
 replace hg : Gc.l1 l i_1 out_1 = some o1 := hg
 show Cy _ _ _ _ (mk _ _ _)
 unfold Gc.l1 at hg
 refine Aj ?_
 refine Bu 1 33 Bg ?_
 refine Ao ?_
 refine Al fun hU => ?_
 refine D1 rfl hg (fun h5 hg => ?_) fun h5 hg => ?_
 ·refine Ay ?_
  repeat first | refine Dg ?_ | refine Df ?_
  refine Aj ?_
  refine A3 ?_
  refine Ck (Cd _ _ []) (by kernel_rfl) [0, 0, 0, 4, 14, 30, 0, 0, 192, 448, 1022, 2046, 4095, 8191] 33 145 hU rfl rfl (by kernel_rfl) ?_
  refine Ao ?_
  obtain ⟨e, he, hg⟩ := Ad hg
  refine Ao ?_
  refine Cl rfl rfl (Cz Nw (Do Hu (Aq he) (o := 0) (c := .int .i64 e) rfl rfl)) rfl rfl ?_
  refine Ao ?_
  obtain ⟨e_2, he_2, hg⟩ := Ad hg
  refine Ao ?_
  refine Cl rfl rfl (Cz Nw (Do Hu (Aq he_2) (o := 0) (c := .int .i64 e_2) rfl rfl)) rfl rfl ?_
  refine Cl rfl rfl (.build (r := [.val (.int .i64 e), .val (.int .i64 e_2)]) Sh bX fZ (by kernel_rfl) rfl) rfl rfl ?_
  refine Cl rfl rfl (Bc Zc fZ (by decide) rfl rfl rfl rfl nZ (cs := [.int .i64 e, .int .i64 e_2]) (.cons .int (.cons .int .nil)) rfl (l := ([(Ae.mk e e_2)] : List Ae)) (f := Ae.enc) rfl) rfl rfl ?_
  obtain ⟨l_2, hl_2, hg⟩ := Ad hg
  refine Da (rd := [0, 121]) rfl rfl (E3 Zc Ae.enc_len .row rfl .row rfl hl_2 rfl) rfl rfl ?_
  refine Ao ?_
  refine Al fun hU => ?_
  refine Af (Cd _ _ []) 145 169 hU rfl rfl ?_
  refine Ao ?_
  refine Al fun hU => ?_
  obtain rfl := oi_ hg
  exact ⟨((W (i_1 + 1), l_2), m1), Nat.lt_succ_self _, hn1, A9 [(0, 129)]⟩
 ·refine B8 ?_
  repeat first | refine Dg ?_ | refine Df ?_
  replace hg := Cr hg hn1
  refine Aj ?_
  refine H6 (σ' := mk [(3, .sl 2 (Av Ae.enc out_1))] [] 0) (A9 []) ?_
  refine Af (Cd _ _ []) 0 24 Bg rfl rfl ?_
  refine Ao ?_
  obtain ⟨y, hy, hg⟩ := Ad hg
  refine E4 (Oe _ _ hy) ?_
  refine Ao ?_
  refine Al fun hU => ?_
  refine Bv ?_
  obtain rfl := oi_ hg
  exact Bt [] ⟨rfl, rfl⟩
theorem Sc  (r : Bool) (hg : I3 = some r) : Fn Tryz.prog 7 0 [] [] (fun d' b' => d' = .val (.bool r) /\ b' = []) := by
 unfold I3 at hg
 refine Fn.of Tryz.func7 rfl rfl rfl fun w0 I ρ0 => ?_
 show Cy _ ⟨w0, I, ρ0, 0, 0, 17⟩ _ _ _
 refine Bu 0 8 Bg ?_
 refine Ao ?_
 refine Al fun hU => ?_
 refine Aj ?_
 refine Af (Cd _ _ [96]) 8 144 hU rfl rfl ?_
 refine Cl rfl rfl (.build (r := [.val (.string (⟨#[]⟩ : ByteArray)), .val (.int .i64 0), .val (.int .i64 0), .val (.slice none 0 0), .val (.bool false), .val (.slice none 0 0), .val (.slice none 0 0), .val (.slice none 0 0), .val (.bool false)]) Se rT uM (by kernel_rfl) rfl) rfl rfl ?_
 refine Cl rfl rfl (.build (r := [.val (.int .i64 0), .val (.int .i64 5), .val (.int .i64 0), .val (.int .i64 0), .val (.int .i64 0), .val (.int .i64 0), .val (.int .i64 0), .val (.slice none 0 0)]) Q7 aU eZ (by kernel_rfl) rfl) rfl rfl ?_
 obtain ⟨y, hy, hg⟩ := Ad hg
 refine E4 (Ks _ _ _ hy) ?_
 refine Ao ?_
 rcases E8 hg with ⟨h2, hg⟩ | ⟨h2, hg⟩
 ·refine Cl (Cj rfl rfl h2) rfl (.build (r := [.val (.string (⟨#[]⟩ : ByteArray)), .val (.int .i64 0), .val (.int .i64 0), .val (.slice none 0 0), .val (.bool false), .val (.slice none 0 0), .val (.slice none 0 0), .val (.slice none 0 0), .val (.bool false)]) Se rT uM (by kernel_rfl) rfl) rfl rfl ?_
  refine Cl (Cj rfl rfl h2) rfl (.build (r := [.val (.int .i64 0), .val (.int .i64 2), .val (.int .i64 0), .val (.int .i64 0), .val (.int .i64 0), .val (.int .i64 0), .val (.int .i64 0), .val (.slice none 0 0)]) Q7 aU eZ (by kernel_rfl) rfl) rfl rfl ?_
  obtain ⟨y_2, hy_2, hg⟩ := Ad hg
  refine E4 (Ks _ _ _ hy_2) ?_
  refine Ao ?_
  rcases E8 hg with ⟨h3, hg⟩ | ⟨h3, hg⟩
  ·refine Wn (rd := []) (Cj rfl rfl h3) rfl (Bc G1 z3 (by decide) rfl rfl rfl rfl Mn (cs := [.int .i64 2, .int .i64 0, .int .i64 1]) (.cons .int (.cons .int (.cons .int .nil))) rfl (l := ([2, 0, 1] : List Int)) (f := eI) rfl) rfl rfl rfl ?_
   obtain ⟨y_3, hy_3, hg⟩ := Ad hg
   refine E4 (Zk _ _ hy_3) ?_
   refine Ao ?_
   refine Al fun hU => ?_
   refine Bv ?_
   obtain rfl := oi_ hg
   exact Bt [] ⟨rfl, rfl⟩
  ·refine Ao ?_
   refine Al fun hU => ?_
   refine Bv ?_
   obtain rfl := oi_ hg
   exact Bt [] ⟨rfl, rfl⟩
 ·refine Ao ?_
  refine Al fun hU => ?_
  refine Bv ?_
  obtain rfl := oi_ hg
  exact Bt [] ⟨rfl, rfl⟩
theorem bF (l : (List Int)) (r : Ac) (hg : N4 l = some r) : Fn Tryz.prog 9 0 [.sl 1 (Av eI l)] [] (fun d' b' => d' = .ptr 0 0 /\ b' = [.box [.sl 1 (Av eI r.L), .val (.int .i64 r.At)] 81]) := by
 unfold N4 at hg
 refine Fn.of Tryz.func9 rfl rfl rfl fun w0 I ρ0 => ?_
 show Cy _ ⟨w0, I, ρ0, 0, 0, 6⟩ _ _ _
 refine Bu 0 8 Bg ?_
 refine Ao ?_
 refine Al fun hU => ?_
 refine Bu 8 40 hU ?_
 refine Ao ?_
 refine Cl rfl rfl (.build (r := [.sl 1 (Av eI l), .val (.int .i64 0)]) jM yO zO (by kernel_rfl) rfl) rfl rfl ?_
 refine Ao ?_
 refine Al fun hU => ?_
 refine Bv ?_
 obtain rfl := oi_ hg
 exact Bt [(0, 24)] ⟨rfl, rfl⟩
theorem dH (n : Int) (k : Int) (r : Int) (hg : Ng n k = some r) : Fn Tryz.prog 23 0 [.val (.int .i64 n), .val (.int .i64 k)] [] (fun d' b' => d' = .val (.int .i64 r) /\ b' = []) := by
 unfold Ng at hg
 refine Fn.of Tryz.func23 rfl rfl rfl fun w0 I ρ0 => ?_
 show Cy _ ⟨w0, I, ρ0, 0, 0, 14⟩ _ _ _
 refine Bu 0 8 Bg ?_
 refine Ao ?_
 refine Al fun hU => ?_
 refine Aj ?_
 refine Bu 8 24 hU ?_
 refine Ao ?_
 refine Al fun hU => ?_
 refine D1 rfl hg (fun h3 hg => ?_) fun h3 hg => ?_
 ·refine Aj ?_
  refine Af (Cd _ _ []) 24 32 hU rfl rfl ?_
  refine Ao ?_
  refine Al fun hU => ?_
  refine Bv ?_
  obtain rfl := oi_ hg
  exact Bt [] ⟨rfl, rfl⟩
 ·refine Ay ?_
  repeat first | refine Dg ?_ | refine Df ?_
  refine Bu 24 88 hU ?_
  refine Ao ?_
  obtain ⟨q, hq, hg⟩ := Ad hg
  refine Cl rfl rfl (aW hq) rfl rfl ?_
  refine Ao ?_
  obtain ⟨q_2, hq_2, hg⟩ := Ad hg
  refine Cl rfl rfl (aW hq_2) rfl rfl ?_
  refine Ao ?_
  refine Al fun hU => ?_
  refine Bv ?_
  obtain rfl := oi_ hg
  exact Bt [] ⟨rfl, rfl⟩
theorem Dl (d : Ac) (n : Int) (r : Int × Ac) (hg : Ct d n = some r) : Fn Tryz.prog 32 1 [.ptr 0 0, .val (.int .i64 n)] [.box [.sl 1 (Av eI d.L), .val (.int .i64 d.At)] 81] (fun d' b' => d' = .val (.int .i64 r.1) /\ b' = [.box [.sl 1 (Av eI r.2.L), .val (.int .i64 r.2.At)] 81]) := by
 unfold Ct at hg
 refine Fn.of Tryz.func32 rfl rfl rfl fun w0 I ρ0 => ?_
 show Cy _ ⟨w0, I, ρ0, 1, 1, 35⟩ _ _ _
 refine Bu 1 9 Bg ?_
 refine Ao ?_
 refine Al fun hU => ?_
 refine Aj ?_
 refine Aj ?_
 refine Ck (Cd _ _ []) (by kernel_rfl) [0, 1, 3, 7, 0, 16, 48, 112, 240, 511] 9 89 hU rfl rfl (by kernel_rfl) ?_
 refine Ao ?_
 refine Al fun hU => ?_
 refine D1 rfl hg (fun h3 hg => ?_) fun h3 hg => ?_
 ·refine Aj ?_
  refine Af (Cd _ _ []) 89 97 hU rfl rfl ?_
  refine Ao ?_
  refine Al fun hU => ?_
  refine Bv ?_
  obtain rfl := oi_ hg
  exact Bt [(0, 0)] ⟨rfl, rfl⟩
 ·refine Ay ?_
  repeat first | refine Dg ?_ | refine Df ?_
  refine Bu 89 153 hU ?_
  refine Ao ?_
  refine Al fun hU => ?_
  refine Aj ?_
  refine Ck (Cd _ _ []) (by kernel_rfl) [0, 1, 3, 7, 0, 16, 48, 112, 240, 511, 1023, 0, 4095, 8191] 153 265 hU rfl rfl (by kernel_rfl) ?_
  refine Ao ?_
  obtain ⟨e, he, hg⟩ := Ad hg
  refine Ao ?_
  refine Cl rfl rfl (Cz Nw (Do Hu (Aq he) (o := 0) (c := .int .i64 e) rfl rfl)) rfl rfl ?_
  refine Ao ?_
  obtain ⟨y, hy, hg⟩ := Ad hg
  refine E4 (dH _ _ _ hy) ?_
  refine Ao ?_
  refine Al fun hU => ?_
  refine Bv ?_
  obtain rfl := oi_ hg
  exact Bt [(0, 0)] ⟨rfl, rfl⟩
theorem K2 (d : Ac) (l : (List Int)) (r : Int × Ac) (hg : Gy d l = some r) : Fn Tryz.prog 33 1 [.ptr 0 0, .sl 1 (Av eI l)] [.box [.sl 1 (Av eI d.L), .val (.int .i64 d.At)] 81] (fun d' b' => d' = .val (.int .i64 r.1) /\ b' = [.box [.sl 1 (Av eI r.2.L), .val (.int .i64 r.2.At)] 81]) := by
 unfold Gy at hg
 refine Fn.of Tryz.func33 rfl rfl rfl fun w0 I ρ0 => ?_
 show Cy _ ⟨w0, I, ρ0, 1, 1, 12⟩ _ _ _
 refine Bu 1 9 Bg ?_
 refine Ao ?_
 refine Al fun hU => ?_
 refine Bu 9 73 hU ?_
 refine Ao ?_
 obtain ⟨y, hy, hg⟩ := Ad hg
 refine K0 [0] [0] [] false (Dl _ _ _ hy) ?_
 obtain ⟨e, he, hg⟩ := Ad hg
 refine Ao ?_
 refine Cl rfl rfl (Cz Nw (Do Hu (Aq he) (o := 0) (c := .int .i64 e) rfl rfl)) rfl rfl ?_
 refine Ao ?_
 refine Al fun hU => ?_
 refine Bv ?_
 obtain rfl := oi_ hg
 exact Bt [(0, 0)] ⟨rfl, rfl⟩
theorem Qa (d : Ac) (n : Int) (r : Bool × Ac) (hg : Hx d n = some r) : Fn Tryz.prog 17 1 [.ptr 0 0, .val (.int .i64 n)] [.box [.sl 1 (Av eI d.L), .val (.int .i64 d.At)] 81] (fun d' b' => d' = .val (.bool r.1) /\ b' = [.box [.sl 1 (Av eI r.2.L), .val (.int .i64 r.2.At)] 81]) := by
 unfold Hx at hg
 refine Fn.of Tryz.func17 rfl rfl rfl fun w0 I ρ0 => ?_
 show Cy _ ⟨w0, I, ρ0, 1, 1, 11⟩ _ _ _
 refine Bu 1 9 Bg ?_
 refine Ao ?_
 refine Al fun hU => ?_
 refine Bu 9 65 hU ?_
 refine Ao ?_
 obtain ⟨y, hy, hg⟩ := Ad hg
 refine K0 [0] [0] [] false (Dl _ _ _ hy) ?_
 refine Ao ?_
 refine Al fun hU => ?_
 refine Bv ?_
 obtain rfl := oi_ hg
 exact Bt [(0, 0)] ⟨rfl, rfl⟩
theorem dB  (r : Az) (hg : Po = some r) : Fn Tryz.prog 34 0 [] [] (fun d' b' => d' = .agg [.val (.int .i64 r.Alg), .val (.int .i64 r.Bits)] /\ b' = []) := by
 unfold Po at hg
 refine Fn.of Tryz.func34 rfl rfl rfl fun w0 I ρ0 => ?_
 show Cy _ ⟨w0, I, ρ0, 0, 0, 2⟩ _ _ _
 refine Bu 0 8 Bg ?_
 refine Ao ?_
 refine Al fun hU => ?_
 refine Bu 8 24 hU ?_
 refine Cl rfl rfl (.build (r := [.val (.int .i64 5), .val (.int .i64 2048)]) O7 Xn gY (by kernel_rfl) rfl) rfl rfl ?_
 refine Ao ?_
 refine Al fun hU => ?_
 refine Bv ?_
 obtain rfl := oi_ hg
 exact Bt [] ⟨rfl, rfl⟩
theorem Zu (c : Am) (r : Am) (hg : Lg c = some r) : Fn Tryz.prog 57 0 [.agg (Am.dv c)] [] (fun d' b' => d' = .agg (Am.dv r) /\ b' = []) := by
 unfold Lg at hg
 refine Fn.of Tryz.func57 rfl rfl rfl fun w0 I ρ0 => ?_
 show Cy _ ⟨w0, I, ρ0, 0, 0, 9⟩ _ _ _
 refine Bu 0 16 Bg ?_
 refine Ao ?_
 refine Al fun hU => ?_
 refine Bu 16 64 hU ?_
 refine Cl rfl rfl (Bc Xd z9 (by decide) rfl rfl rfl rfl xK (cs := []) .nil rfl (l := ([] : List ByteArray)) (f := eS) rfl) rfl rfl ?_
 refine Ao ?_
 obtain ⟨l, hl, hg⟩ := Ad hg
 refine Da (rd := [16]) rfl rfl (E3 Xd Nt .row rfl .sl rfl hl rfl) rfl rfl ?_
 refine Ao ?_
 refine Al fun hU => ?_
 refine Bu 64 80 hU ?_
 refine Ao ?_
 refine Al fun hU => ?_
 refine Bv ?_
 obtain rfl := oi_ hg
 exact Bt [] ⟨rfl, rfl⟩
theorem Pl (s : ByteArray) (r : Bool) (hg : C9 s = some r) : Fn Tryz.prog 79 0 [.val (.string s)] [] (fun d' b' => d' = .val (.bool r) /\ b' = []) := by
 unfold C9 at hg
 refine Fn.of Tryz.func79 rfl rfl rfl fun w0 I ρ0 => ?_
 show Cy _ ⟨w0, I, ρ0, 0, 0, 28⟩ _ _ _
 refine Bu 0 8 Bg ?_
 refine Ao ?_
 refine Al fun hU => ?_
 refine Aj ?_
 refine B7 (ι := Bool) (fun (x11_1 : Bool) => mk [(0, .val (.string s)), (11, .val (.bool x11_1))] [] 0) (fun (x11_1 : Bool) => C9.j1 s x11_1 = some r) ?_ ?_
 ·refine Af (Cd _ _ []) 8 72 hU rfl rfl ?_
  refine Ao ?_
  refine Cl rfl rfl (Sx U1) rfl rfl ?_
  refine Ao ?_
  rcases E8 hg with ⟨h2, hg⟩ | ⟨h2, hg⟩
  ·refine Ao ?_
   refine Al fun hU => ?_
   exact ⟨true, hg, A9 []⟩
  ·refine Ao ?_
   refine Cl (Cj rfl rfl h2) rfl (Sx U1) rfl rfl ?_
   refine Ao ?_
   refine Al fun hU => ?_
   exact ⟨decide (32 < (s.size : Int)), hg, A9 []⟩
 ·rintro x11_1 hg
  replace hg : C9.j1 s x11_1 = some r := hg
  show Cy _ _ _ _ (mk _ _ _)
  unfold C9.j1 at hg
  refine D1 rfl hg (fun h5 hg => ?_) fun h5 hg => ?_
  ·refine Aj ?_
   refine Af (Cd _ _ []) 0 8 Bg rfl rfl ?_
   refine Ao ?_
   refine Al fun hU => ?_
   refine Bv ?_
   obtain rfl := oi_ hg
   exact Bt [] ⟨rfl, rfl⟩
  ·refine Ay ?_
   repeat first | refine Dg ?_ | refine Df ?_
   refine Aj ?_
   refine Bu 0 8 Bg ?_
   refine Ao ?_
   refine Al fun hU => ?_
   refine A3 ?_
   refine Ix (fun (i_2 : Int) => mk [(0, .val (.string s)), (3, .val (.int .i64 i_2))] [] 0) hg (A9 []) ?_
   rintro i_2 m2 o2 hg hn2
   replace hg : C9.l2 s i_2 = some o2 := hg
   show Cy _ _ _ _ (mk _ _ _)
   unfold C9.l2 at hg
   refine Aj ?_
   refine Bu 0 32 Bg ?_
   refine Ao ?_
   refine Cl rfl rfl (Sx U1) rfl rfl ?_
   refine Ao ?_
   refine Al fun hU => ?_
   refine D1 rfl hg (fun h9 hg => ?_) fun h9 hg => ?_
   ·refine Ay ?_
    repeat first | refine Dg ?_ | refine Df ?_
    refine Aj ?_
    refine A3 ?_
    refine B7 (ι := Bool) (fun (x27_3 : Bool) => mk [(0, .val (.string s)), (3, .val (.int .i64 i_2)), (27, .val (.bool x27_3))] [] 0) (fun (x27_3 : Bool) => C9.j3 i_2 x27_3 = some o2) ?_ ?_
    ·refine Af (Cd _ _ []) 32 112 hU rfl rfl ?_
     refine Ao ?_
     obtain ⟨c, hc, hg⟩ := Ad hg
     refine Cl rfl rfl (cI U1 hc) rfl rfl ?_
     refine Ao ?_
     rcases E8 hg with ⟨h10, hg⟩ | ⟨h10, hg⟩
     ·refine Ao ?_
      refine Al fun hU => ?_
      exact ⟨true, hg, A9 []⟩
     ·refine Ao ?_
      obtain ⟨c_2, hc_2, hg⟩ := Ad hg
      refine Cl (Cj rfl rfl h10) rfl (cI U1 hc_2) rfl rfl ?_
      refine Ao ?_
      refine Al fun hU => ?_
      exact ⟨decide (126 < (c_2.toNat : Int)), hg, A9 []⟩
    ·rintro x27_3 hg
     replace hg : C9.j3 i_2 x27_3 = some o2 := hg
     show Cy _ _ _ _ (mk _ _ _)
     unfold C9.j3 at hg
     refine D1 rfl hg (fun h13 hg => ?_) fun h13 hg => ?_
     ·refine Aj ?_
      refine Af (Cd _ _ []) 0 8 Bg rfl rfl ?_
      refine Ao ?_
      refine Al fun hU => ?_
      refine Bv ?_
      replace hg := Cr hg hn2
      obtain rfl := oi_ hg
      exact Bt [] ⟨rfl, rfl⟩
     ·refine Ay ?_
      repeat first | refine Dg ?_ | refine Df ?_
      refine Af (Cd _ _ []) 0 24 Bg rfl rfl ?_
      refine Ao ?_
      refine Al fun hU => ?_
      obtain rfl := oi_ hg
      exact ⟨(W (i_2 + 1), m2), Nat.lt_succ_self _, hn2, A9 []⟩
   ·refine B8 ?_
    repeat first | refine Dg ?_ | refine Df ?_
    replace hg := Cr hg hn2
    refine Bu 32 40 hU ?_
    refine Ao ?_
    refine Al fun hU => ?_
    refine Bv ?_
    obtain rfl := oi_ hg
    exact Bt [] ⟨rfl, rfl⟩
theorem Vu (b : Int) (r : Int) (hg : Ek b = some r) : Fn Tryz.prog 138 0 [.val (.int .i64 b)] [] (fun d' b' => d' = .val (.int .i64 r) /\ b' = []) := by
 unfold Ek at hg
 refine Fn.of Tryz.func138 rfl rfl rfl fun w0 I ρ0 => ?_
 show Cy _ ⟨w0, I, ρ0, 0, 0, 25⟩ _ _ _
 refine Bu 0 8 Bg ?_
 refine Ao ?_
 refine Al fun hU => ?_
 refine Aj ?_
 refine A3 ?_
 refine B7 (ι := Bool) (fun (x3_1 : Bool) => mk [(0, .val (.int .i64 b)), (3, .val (.bool x3_1))] [] 0) (fun (x3_1 : Bool) => Ek.j1 b x3_1 = some r) ?_ ?_
 ·refine Af (Cd _ _ []) 8 64 hU rfl rfl ?_
  refine Ao ?_
  rcases E8 hg with ⟨h2, hg⟩ | ⟨h2, hg⟩
  ·refine Ao ?_
   refine Al fun hU => ?_
   exact ⟨true, hg, A9 []⟩
  ·refine Ao ?_
   refine Al fun hU => ?_
   exact ⟨decide (16384 < b), hg, A9 []⟩
 ·rintro x3_1 hg
  replace hg : Ek.j1 b x3_1 = some r := hg
  show Cy _ _ _ _ (mk _ _ _)
  unfold Ek.j1 at hg
  refine D1 rfl hg (fun h5 hg => ?_) fun h5 hg => ?_
  ·refine Aj ?_
   refine Af (Cd _ _ []) 0 8 Bg rfl rfl ?_
   refine Ao ?_
   refine Al fun hU => ?_
   refine Bv ?_
   obtain rfl := oi_ hg
   exact Bt [] ⟨rfl, rfl⟩
  ·refine Aj ?_
   refine Af (Cd _ _ []) 0 24 Bg rfl rfl ?_
   refine Ao ?_
   refine Al fun hU => ?_
   refine D1 rfl hg (fun h8 hg => ?_) fun h8 hg => ?_
   ·refine Aj ?_
    refine Af (Cd _ _ []) 24 32 hU rfl rfl ?_
    refine Ao ?_
    refine Al fun hU => ?_
    refine Bv ?_
    obtain rfl := oi_ hg
    exact Bt [] ⟨rfl, rfl⟩
   ·refine Aj ?_
    refine Af (Cd _ _ []) 24 48 hU rfl rfl ?_
    refine Ao ?_
    refine Al fun hU => ?_
    refine D1 rfl hg (fun h11 hg => ?_) fun h11 hg => ?_
    ·refine Aj ?_
     refine Af (Cd _ _ []) 48 56 hU rfl rfl ?_
     refine Ao ?_
     refine Al fun hU => ?_
     refine Bv ?_
     obtain rfl := oi_ hg
     exact Bt [] ⟨rfl, rfl⟩
    ·refine Aj ?_
     refine Af (Cd _ _ []) 48 72 hU rfl rfl ?_
     refine Ao ?_
     refine Al fun hU => ?_
     refine D1 rfl hg (fun h14 hg => ?_) fun h14 hg => ?_
     ·refine Aj ?_
      refine Af (Cd _ _ []) 72 80 hU rfl rfl ?_
      refine Ao ?_
      refine Al fun hU => ?_
      refine Bv ?_
      obtain rfl := oi_ hg
      exact Bt [] ⟨rfl, rfl⟩
     ·refine Aj ?_
      refine Af (Cd _ _ []) 72 96 hU rfl rfl ?_
      refine Ao ?_
      refine Al fun hU => ?_
      refine D1 rfl hg (fun h17 hg => ?_) fun h17 hg => ?_
      ·refine Aj ?_
       refine Af (Cd _ _ []) 96 104 hU rfl rfl ?_
       refine Ao ?_
       refine Al fun hU => ?_
       refine Bv ?_
       obtain rfl := oi_ hg
       exact Bt [] ⟨rfl, rfl⟩
      ·refine Aj ?_
       refine Af (Cd _ _ []) 96 120 hU rfl rfl ?_
       refine Ao ?_
       refine Al fun hU => ?_
       refine D1 rfl hg (fun h20 hg => ?_) fun h20 hg => ?_
       ·refine Aj ?_
        refine Af (Cd _ _ []) 120 128 hU rfl rfl ?_
        refine Ao ?_
        refine Al fun hU => ?_
        refine Bv ?_
        obtain rfl := oi_ hg
        exact Bt [] ⟨rfl, rfl⟩
       ·refine Ay ?_
        repeat first | refine Dg ?_ | refine Df ?_
        refine Bu 120 128 hU ?_
        refine Ao ?_
        refine Al fun hU => ?_
        refine Bv ?_
        obtain rfl := oi_ hg
        exact Bt [] ⟨rfl, rfl⟩
theorem I2 (b : Int) (sizes : (List Int)) (strengths : (List Int)) (r : Int) (hg : Eh b sizes strengths = some r) : Fn Tryz.prog 139 0 [.val (.int .i64 b), .sl 1 (Av eI sizes), .sl 1 (Av eI strengths)] [] (fun d' b' => d' = .val (.int .i64 r) /\ b' = []) := by
 unfold Eh at hg
 refine Fn.of Tryz.func139 rfl rfl rfl fun w0 I ρ0 => ?_
 show Cy _ ⟨w0, I, ρ0, 0, 0, 24⟩ _ _ _
 refine Bu 0 8 Bg ?_
 refine Ao ?_
 refine Al fun hU => ?_
 refine Aj ?_
 refine Bu 8 16 hU ?_
 refine Ao ?_
 refine Al fun hU => ?_
 refine A3 ?_
 refine Ix (fun (i_1 : Int) => mk [(0, .val (.int .i64 b)), (1, .sl 1 (Av eI sizes)), (2, .sl 1 (Av eI strengths)), (7, .val (.int .i64 i_1))] [] 0) hg (A9 []) ?_
 rintro i_1 m1 o1 hg hn1
 replace hg : Eh.l1 b sizes strengths i_1 = some o1 := hg
 show Cy _ _ _ _ (mk _ _ _)
 unfold Eh.l1 at hg
 refine Aj ?_
 refine Bu 0 32 Bg ?_
 refine Ao ?_
 refine Al fun hU => ?_
 refine D1 rfl hg (fun h4 hg => ?_) fun h4 hg => ?_
 ·refine Ay ?_
  repeat first | refine Dg ?_ | refine Df ?_
  refine Aj ?_
  refine A3 ?_
  refine Bu 32 80 hU ?_
  refine Ao ?_
  obtain ⟨e, he, hg⟩ := Ad hg
  refine Ao ?_
  refine Cl rfl rfl (Cz Nw (Do Hu (Aq he) (o := 0) (c := .int .i64 e) rfl rfl)) rfl rfl ?_
  refine Ao ?_
  refine Al fun hU => ?_
  refine D1 rfl hg (fun h6 hg => ?_) fun h6 hg => ?_
  ·refine Aj ?_
   refine Af (Cd _ _ []) 80 120 hU rfl rfl ?_
   refine Ao ?_
   obtain ⟨e_2, he_2, hg⟩ := Ad hg
   refine Ao ?_
   refine Cl rfl rfl (Cz Nw (Do Hu (Aq he_2) (o := 0) (c := .int .i64 e_2) rfl rfl)) rfl rfl ?_
   refine Ao ?_
   refine Al fun hU => ?_
   refine Bv ?_
   replace hg := Cr hg hn1
   obtain rfl := oi_ hg
   exact Bt [] ⟨rfl, rfl⟩
  ·refine Ay ?_
   repeat first | refine Dg ?_ | refine Df ?_
   refine Af (Cd _ _ []) 80 104 hU rfl rfl ?_
   refine Ao ?_
   refine Al fun hU => ?_
   obtain rfl := oi_ hg
   exact ⟨(W (i_1 + 1), m1), Nat.lt_succ_self _, hn1, A9 []⟩
 ·refine B8 ?_
  repeat first | refine Dg ?_ | refine Df ?_
  replace hg := Cr hg hn1
  refine Bu 32 40 hU ?_
  refine Ao ?_
  refine Al fun hU => ?_
  refine Bv ?_
  obtain rfl := oi_ hg
  exact Bt [] ⟨rfl, rfl⟩
theorem Xg (alg : Int) (r : Int) (hg : Dp alg = some r) : Fn Tryz.prog 140 0 [.val (.int .i64 alg)] [] (fun d' b' => d' = .val (.int .i64 r) /\ b' = []) := by
 unfold Dp at hg
 refine Fn.of Tryz.func140 rfl rfl rfl fun w0 I ρ0 => ?_
 show Cy _ ⟨w0, I, ρ0, 0, 0, 21⟩ _ _ _
 refine Bu 0 8 Bg ?_
 refine Ao ?_
 refine Al fun hU => ?_
 refine Aj ?_
 refine Bu 8 16 hU ?_
 refine Ao ?_
 refine Al fun hU => ?_
 refine A3 ?_
 refine Bu 16 32 hU ?_
 refine Ao ?_
 refine Al fun hU => ?_
 refine D1 rfl hg (fun h4 hg => ?_) fun h4 hg => ?_
 ·refine Aj ?_
  refine Af (Cd _ _ []) 32 40 hU rfl rfl ?_
  refine Ao ?_
  refine Al fun hU => ?_
  refine Bv ?_
  obtain rfl := oi_ hg
  exact Bt [] ⟨rfl, rfl⟩
 ·refine Aj ?_
  refine Af (Cd _ _ []) 32 48 hU rfl rfl ?_
  refine Ao ?_
  refine Al fun hU => ?_
  refine D1 rfl hg (fun h7 hg => ?_) fun h7 hg => ?_
  ·refine Aj ?_
   refine Af (Cd _ _ []) 48 56 hU rfl rfl ?_
   refine Ao ?_
   refine Al fun hU => ?_
   refine Bv ?_
   obtain rfl := oi_ hg
   exact Bt [] ⟨rfl, rfl⟩
  ·refine B7 (ι := Bool) (fun (x8_1 : Bool) => mk [(3, .val (.int .i64 alg)), (8, .val (.bool x8_1))] [] 0) (fun (x8_1 : Bool) => Dp.j1 alg x8_1 = some r) ?_ ?_
   ·refine Aj ?_
    refine Af (Cd _ _ []) 48 64 hU rfl rfl ?_
    refine Ao ?_
    refine Al fun hU => ?_
    refine D1 rfl hg (fun h10 hg => ?_) fun h10 hg => ?_
    ·refine Ay ?_
     repeat first | refine Dg ?_ | refine Df ?_
     exact ⟨decide (alg = 3), hg, A9 []⟩
    ·refine Aj ?_
     refine Af (Cd _ _ []) 64 80 hU rfl rfl ?_
     refine Ao ?_
     refine Al fun hU => ?_
     refine D1 rfl hg (fun h12 hg => ?_) fun h12 hg => ?_
     ·refine Ay ?_
      repeat first | refine Dg ?_ | refine Df ?_
      exact ⟨decide (alg = 8), hg, A9 []⟩
     ·refine Af (Cd _ _ []) 80 96 hU rfl rfl ?_
      refine Ao ?_
      refine Al fun hU => ?_
      exact ⟨decide (alg = 21), hg, A9 []⟩
   ·rintro x8_1 hg
    replace hg : Dp.j1 alg x8_1 = some r := hg
    show Cy _ _ _ _ (mk _ _ _)
    unfold Dp.j1 at hg
    refine D1 rfl hg (fun h14 hg => ?_) fun h14 hg => ?_
    ·refine Aj ?_
     refine Af (Cd _ _ []) 0 8 Bg rfl rfl ?_
     refine Ao ?_
     refine Al fun hU => ?_
     refine Bv ?_
     obtain rfl := oi_ hg
     exact Bt [] ⟨rfl, rfl⟩
    ·refine Aj ?_
     refine Af (Cd _ _ []) 0 16 Bg rfl rfl ?_
     refine Ao ?_
     refine Al fun hU => ?_
     refine D1 rfl hg (fun h17 hg => ?_) fun h17 hg => ?_
     ·refine Aj ?_
      refine Af (Cd _ _ []) 16 24 hU rfl rfl ?_
      refine Ao ?_
      refine Al fun hU => ?_
      refine Bv ?_
      obtain rfl := oi_ hg
      exact Bt [] ⟨rfl, rfl⟩
     ·refine B7 (ι := Bool) (fun (x14_2 : Bool) => mk [(3, .val (.int .i64 alg)), (14, .val (.bool x14_2))] [] 0) (fun (x14_2 : Bool) => Dp.j2 alg x14_2 = some r) ?_ ?_
      ·refine Aj ?_
       refine Af (Cd _ _ []) 16 32 hU rfl rfl ?_
       refine Ao ?_
       refine Al fun hU => ?_
       refine D1 rfl hg (fun h20 hg => ?_) fun h20 hg => ?_
       ·refine Ay ?_
        repeat first | refine Dg ?_ | refine Df ?_
        exact ⟨decide (alg = 18), hg, A9 []⟩
       ·refine Af (Cd _ _ []) 32 48 hU rfl rfl ?_
        refine Ao ?_
        refine Al fun hU => ?_
        exact ⟨decide (alg = 22), hg, A9 []⟩
      ·rintro x14_2 hg
       replace hg : Dp.j2 alg x14_2 = some r := hg
       show Cy _ _ _ _ (mk _ _ _)
       unfold Dp.j2 at hg
       refine D1 rfl hg (fun h22 hg => ?_) fun h22 hg => ?_
       ·refine Aj ?_
        refine Af (Cd _ _ []) 0 8 Bg rfl rfl ?_
        refine Ao ?_
        refine Al fun hU => ?_
        refine Bv ?_
        obtain rfl := oi_ hg
        exact Bt [] ⟨rfl, rfl⟩
       ·refine Aj ?_
        refine Af (Cd _ _ []) 0 16 Bg rfl rfl ?_
        refine Ao ?_
        refine Al fun hU => ?_
        refine D1 rfl hg (fun h25 hg => ?_) fun h25 hg => ?_
        ·refine Aj ?_
         refine Af (Cd _ _ []) 16 24 hU rfl rfl ?_
         refine Ao ?_
         refine Al fun hU => ?_
         refine Bv ?_
         obtain rfl := oi_ hg
         exact Bt [] ⟨rfl, rfl⟩
        ·refine Aj ?_
         refine Af (Cd _ _ []) 16 32 hU rfl rfl ?_
         refine Ao ?_
         refine Al fun hU => ?_
         refine D1 rfl hg (fun h28 hg => ?_) fun h28 hg => ?_
         ·refine Aj ?_
          refine Af (Cd _ _ []) 32 40 hU rfl rfl ?_
          refine Ao ?_
          refine Al fun hU => ?_
          refine Bv ?_
          obtain rfl := oi_ hg
          exact Bt [] ⟨rfl, rfl⟩
         ·refine Ay ?_
          repeat first | refine Dg ?_ | refine Df ?_
          refine Bu 32 40 hU ?_
          refine Ao ?_
          refine Al fun hU => ?_
          refine Bv ?_
          obtain rfl := oi_ hg
          exact Bt [] ⟨rfl, rfl⟩
theorem Uj (u : Az) (r : Int) (hg : Br u = some r) : Fn Tryz.prog 108 0 [.agg [.val (.int .i64 u.Alg), .val (.int .i64 u.Bits)]] [] (fun d' b' => d' = .val (.int .i64 r) /\ b' = []) := by
 unfold Br at hg
 refine Fn.of Tryz.func108 rfl rfl rfl fun w0 I ρ0 => ?_
 show Cy _ ⟨w0, I, ρ0, 0, 0, 76⟩ _ _ _
 refine Bu 0 16 Bg ?_
 refine Ao ?_
 refine Al fun hU => ?_
 refine Bu 16 40 hU ?_
 refine Ao ?_
 refine Al fun hU => ?_
 refine Aj ?_
 refine Bu 40 56 hU ?_
 refine Ao ?_
 refine Al fun hU => ?_
 refine A3 ?_
 refine B7 (ι := Bool) (fun (x8_1 : Bool) => mk [(1, .ptr 0 0), (3, .val (.int .i64 u.Bits)), (7, .val (.int .i64 u.Alg)), (8, .val (.bool x8_1))] [(0, .box [.val (.int .i64 u.Alg), .val (.int .i64 u.Bits)] 39)] 1) (fun (x8_1 : Bool) => Br.j1 u x8_1 = some r) ?_ ?_
 ·refine Aj ?_
  refine Af (Cd _ _ []) 56 72 hU rfl rfl ?_
  refine Ao ?_
  refine Al fun hU => ?_
  refine D1 rfl hg (fun h5 hg => ?_) fun h5 hg => ?_
  ·refine Ay ?_
   repeat first | refine Dg ?_ | refine Df ?_
   exact ⟨decide (u.Alg = 5), hg, A9 [(0, 0)]⟩
  ·refine Aj ?_
   refine Af (Cd _ _ []) 72 88 hU rfl rfl ?_
   refine Ao ?_
   refine Al fun hU => ?_
   refine D1 rfl hg (fun h7 hg => ?_) fun h7 hg => ?_
   ·refine Ay ?_
    repeat first | refine Dg ?_ | refine Df ?_
    exact ⟨decide (u.Alg = 6), hg, A9 [(0, 0)]⟩
   ·refine Aj ?_
    refine Af (Cd _ _ []) 88 104 hU rfl rfl ?_
    refine Ao ?_
    refine Al fun hU => ?_
    refine D1 rfl hg (fun h9 hg => ?_) fun h9 hg => ?_
    ·refine Ay ?_
     repeat first | refine Dg ?_ | refine Df ?_
     exact ⟨decide (u.Alg = 10), hg, A9 [(0, 0)]⟩
    ·refine Af (Cd _ _ []) 104 120 hU rfl rfl ?_
     refine Ao ?_
     refine Al fun hU => ?_
     exact ⟨decide (u.Alg = 11), hg, A9 [(0, 0)]⟩
 ·rintro x8_1 hg
  replace hg : Br.j1 u x8_1 = some r := hg
  show Cy _ _ _ _ (mk _ _ _)
  unfold Br.j1 at hg
  refine D1 rfl hg (fun h11 hg => ?_) fun h11 hg => ?_
  ·refine Aj ?_
   refine Af (Cd _ _ []) 1 25 Bg rfl rfl ?_
   refine Ao ?_
   obtain ⟨y, hy, hg⟩ := Ad hg
   refine E4 (Vu _ _ hy) ?_
   refine Ao ?_
   refine Al fun hU => ?_
   refine Bv ?_
   obtain rfl := oi_ hg
   exact Bt [] ⟨rfl, rfl⟩
  ·refine B7 (ι := Bool) (fun (x15_2 : Bool) => mk [(1, .ptr 0 0), (3, .val (.int .i64 u.Bits)), (7, .val (.int .i64 u.Alg)), (15, .val (.bool x15_2))] [(0, .box [.val (.int .i64 u.Alg), .val (.int .i64 u.Bits)] 39)] 1) (fun (x15_2 : Bool) => Br.j2 u x15_2 = some r) ?_ ?_
   ·refine Aj ?_
    refine Af (Cd _ _ []) 1 17 Bg rfl rfl ?_
    refine Ao ?_
    refine Al fun hU => ?_
    refine D1 rfl hg (fun h14 hg => ?_) fun h14 hg => ?_
    ·refine Ay ?_
     repeat first | refine Dg ?_ | refine Df ?_
     exact ⟨decide (u.Alg = 7), hg, A9 [(0, 0)]⟩
    ·refine Af (Cd _ _ []) 17 33 hU rfl rfl ?_
     refine Ao ?_
     refine Al fun hU => ?_
     exact ⟨decide (u.Alg = 12), hg, A9 [(0, 0)]⟩
   ·rintro x15_2 hg
    replace hg : Br.j2 u x15_2 = some r := hg
    show Cy _ _ _ _ (mk _ _ _)
    unfold Br.j2 at hg
    refine D1 rfl hg (fun h16 hg => ?_) fun h16 hg => ?_
    ·refine Aj ?_
     refine B7 (ι := Bool) (fun (x35_3 : Bool) => mk [(3, .val (.int .i64 u.Bits)), (35, .val (.bool x35_3))] [] 0) (fun (x35_3 : Bool) => Br.j3 u x35_3 = some r) ?_ ?_
     ·refine Af (Cd _ _ []) 1 145 Bg rfl rfl ?_
      refine Ao ?_
      rcases E8 hg with ⟨h17, hg⟩ | ⟨h17, hg⟩
      ·refine Ao ?_
       refine Al fun hU => ?_
       exact ⟨true, hg, A9 []⟩
      ·refine Ao ?_
       rcases E8 hg with ⟨h19, hg⟩ | ⟨h19, hg⟩
       ·refine Ao ?_
        refine Al fun hU => ?_
        exact ⟨true, hg, A9 []⟩
       ·refine Ao ?_
        rcases E8 hg with ⟨h21, hg⟩ | ⟨h21, hg⟩
        ·refine Ao ?_
         refine Al fun hU => ?_
         exact ⟨true, hg, A9 []⟩
        ·refine Ao ?_
         rcases E8 hg with ⟨h23, hg⟩ | ⟨h23, hg⟩
         ·refine Ao ?_
          refine Al fun hU => ?_
          exact ⟨true, hg, A9 []⟩
         ·refine Ao ?_
          refine Al fun hU => ?_
          exact ⟨decide (u.Bits = 521), hg, A9 []⟩
     ·rintro x35_3 hg
      replace hg : Br.j3 u x35_3 = some r := hg
      show Cy _ _ _ _ (mk _ _ _)
      unfold Br.j3 at hg
      refine D1 rfl hg (fun h26 hg => ?_) fun h26 hg => ?_
      ·refine Aj ?_
       refine Af (Cd _ _ []) 0 24 Bg rfl rfl ?_
       refine Ao ?_
       obtain ⟨q, hq, hg⟩ := Ad hg
       refine Cl rfl rfl (Rc hq) rfl rfl ?_
       refine Ao ?_
       refine Al fun hU => ?_
       refine Bv ?_
       obtain rfl := oi_ hg
       exact Bt [] ⟨rfl, rfl⟩
      ·refine Ay ?_
       repeat first | refine Dg ?_ | refine Df ?_
       refine Bu 0 8 Bg ?_
       refine Ao ?_
       refine Al fun hU => ?_
       refine Bv ?_
       obtain rfl := oi_ hg
       exact Bt [] ⟨rfl, rfl⟩
    ·refine Aj ?_
     refine Af (Cd _ _ []) 1 17 Bg rfl rfl ?_
     refine Ao ?_
     refine Al fun hU => ?_
     refine D1 rfl hg (fun h30 hg => ?_) fun h30 hg => ?_
     ·refine Aj ?_
      refine Af (Cd _ _ []) 17 57 hU rfl rfl ?_
      refine Ao ?_
      refine Cl rfl rfl (Bc G1 z3 (by decide) rfl rfl rfl rfl Mn (cs := [.int .i64 44, .int .i64 65, .int .i64 87]) (.cons .int (.cons .int (.cons .int .nil))) rfl (l := ([44, 65, 87] : List Int)) (f := eI) rfl) rfl rfl ?_
      refine Cl rfl rfl (Bc G1 z3 (by decide) rfl rfl rfl rfl Mn (cs := [.int .i64 128, .int .i64 192, .int .i64 256]) (.cons .int (.cons .int (.cons .int .nil))) rfl (l := ([128, 192, 256] : List Int)) (f := eI) rfl) rfl rfl ?_
      obtain ⟨y_2, hy_2, hg⟩ := Ad hg
      refine K0 [25, 33] [] [] true (I2 _ _ _ _ hy_2) ?_
      refine Ao ?_
      refine Al fun hU => ?_
      refine Bv ?_
      obtain rfl := oi_ hg
      exact Bt [] ⟨rfl, rfl⟩
     ·refine Aj ?_
      refine Af (Cd _ _ []) 17 33 hU rfl rfl ?_
      refine Ao ?_
      refine Al fun hU => ?_
      refine D1 rfl hg (fun h33 hg => ?_) fun h33 hg => ?_
      ·refine Aj ?_
       refine Af (Cd _ _ []) 33 73 hU rfl rfl ?_
       refine Ao ?_
       refine Cl rfl rfl (Bc G1 z3 (by decide) rfl rfl rfl rfl Mn (cs := [.int .i64 512, .int .i64 768, .int .i64 1024]) (.cons .int (.cons .int (.cons .int .nil))) rfl (l := ([512, 768, 1024] : List Int)) (f := eI) rfl) rfl rfl ?_
       refine Cl rfl rfl (Bc G1 z3 (by decide) rfl rfl rfl rfl Mn (cs := [.int .i64 128, .int .i64 192, .int .i64 256]) (.cons .int (.cons .int (.cons .int .nil))) rfl (l := ([128, 192, 256] : List Int)) (f := eI) rfl) rfl rfl ?_
       obtain ⟨y_3, hy_3, hg⟩ := Ad hg
       refine K0 [41, 49] [] [] true (I2 _ _ _ _ hy_3) ?_
       refine Ao ?_
       refine Al fun hU => ?_
       refine Bv ?_
       obtain rfl := oi_ hg
       exact Bt [] ⟨rfl, rfl⟩
      ·refine Aj ?_
       refine Af (Cd _ _ []) 33 49 hU rfl rfl ?_
       refine Ao ?_
       refine Al fun hU => ?_
       refine D1 rfl hg (fun h36 hg => ?_) fun h36 hg => ?_
       ·refine Aj ?_
        refine Af (Cd _ _ []) 49 89 hU rfl rfl ?_
        refine Ao ?_
        refine Cl rfl rfl (Bc G1 z3 (by decide) rfl rfl rfl rfl Mn (cs := [.int .i64 40, .int .i64 128]) (.cons .int (.cons .int .nil)) rfl (l := ([40, 128] : List Int)) (f := eI) rfl) rfl rfl ?_
        refine Cl rfl rfl (Bc G1 z3 (by decide) rfl rfl rfl rfl Mn (cs := [.int .i64 40, .int .i64 60]) (.cons .int (.cons .int .nil)) rfl (l := ([40, 60] : List Int)) (f := eI) rfl) rfl rfl ?_
        obtain ⟨y_4, hy_4, hg⟩ := Ad hg
        refine K0 [57, 65] [] [] true (I2 _ _ _ _ hy_4) ?_
        refine Ao ?_
        refine Al fun hU => ?_
        refine Bv ?_
        obtain rfl := oi_ hg
        exact Bt [] ⟨rfl, rfl⟩
       ·refine Aj ?_
        refine Af (Cd _ _ []) 49 65 hU rfl rfl ?_
        refine Ao ?_
        refine Al fun hU => ?_
        refine D1 rfl hg (fun h39 hg => ?_) fun h39 hg => ?_
        ·refine Aj ?_
         refine Af (Cd _ _ []) 65 105 hU rfl rfl ?_
         refine Ao ?_
         refine Cl rfl rfl (Bc G1 z3 (by decide) rfl rfl rfl rfl Mn (cs := [.int .i64 112, .int .i64 168]) (.cons .int (.cons .int .nil)) rfl (l := ([112, 168] : List Int)) (f := eI) rfl) rfl rfl ?_
         refine Cl rfl rfl (Bc G1 z3 (by decide) rfl rfl rfl rfl Mn (cs := [.int .i64 80, .int .i64 112]) (.cons .int (.cons .int .nil)) rfl (l := ([80, 112] : List Int)) (f := eI) rfl) rfl rfl ?_
         obtain ⟨y_5, hy_5, hg⟩ := Ad hg
         refine K0 [73, 81] [] [] true (I2 _ _ _ _ hy_5) ?_
         refine Ao ?_
         refine Al fun hU => ?_
         refine Bv ?_
         obtain rfl := oi_ hg
         exact Bt [] ⟨rfl, rfl⟩
        ·refine B7 (ι := Bool) (fun (x62_4 : Bool) => mk [(1, .ptr 0 0), (3, .val (.int .i64 u.Bits)), (62, .val (.bool x62_4))] [(0, .box [.val (.int .i64 u.Alg), .val (.int .i64 u.Bits)] 39)] 1) (fun (x62_4 : Bool) => Br.j4 u x62_4 = some r) ?_ ?_
         ·refine Aj ?_
          refine Af (Cd _ _ []) 65 81 hU rfl rfl ?_
          refine Ao ?_
          refine Al fun hU => ?_
          refine D1 rfl hg (fun h42 hg => ?_) fun h42 hg => ?_
          ·refine Ay ?_
           repeat first | refine Dg ?_ | refine Df ?_
           exact ⟨decide (u.Alg = 16), hg, A9 [(0, 0)]⟩
          ·refine Af (Cd _ _ []) 81 97 hU rfl rfl ?_
           refine Ao ?_
           refine Al fun hU => ?_
           exact ⟨decide (u.Alg = 17), hg, A9 [(0, 0)]⟩
         ·rintro x62_4 hg
          replace hg : Br.j4 u x62_4 = some r := hg
          show Cy _ _ _ _ (mk _ _ _)
          unfold Br.j4 at hg
          refine D1 rfl hg (fun h44 hg => ?_) fun h44 hg => ?_
          ·refine Aj ?_
           refine Af (Cd _ _ []) 1 41 Bg rfl rfl ?_
           refine Ao ?_
           refine Cl rfl rfl (Bc G1 z3 (by decide) rfl rfl rfl rfl Mn (cs := [.int .i64 128, .int .i64 256]) (.cons .int (.cons .int .nil)) rfl (l := ([128, 256] : List Int)) (f := eI) rfl) rfl rfl ?_
           refine Cl rfl rfl (Bc G1 z3 (by decide) rfl rfl rfl rfl Mn (cs := [.int .i64 128, .int .i64 256]) (.cons .int (.cons .int .nil)) rfl (l := ([128, 256] : List Int)) (f := eI) rfl) rfl rfl ?_
           obtain ⟨y_6, hy_6, hg⟩ := Ad hg
           refine K0 [9, 17] [] [] true (I2 _ _ _ _ hy_6) ?_
           refine Ao ?_
           refine Al fun hU => ?_
           refine Bv ?_
           obtain rfl := oi_ hg
           exact Bt [] ⟨rfl, rfl⟩
          ·refine Ay ?_
           repeat first | refine Dg ?_ | refine Df ?_
           refine Bu 1 65 Bg ?_
           refine Ao ?_
           refine Cl rfl rfl (Bc G1 z3 (by decide) rfl rfl rfl rfl Mn (cs := [.int .i64 0]) (.cons .int .nil) rfl (l := ([0] : List Int)) (f := eI) rfl) rfl rfl ?_
           refine Ao ?_
           obtain ⟨y_7, hy_7, hg⟩ := Ad hg
           refine E4 (Xg _ _ hy_7) ?_
           refine Cl rfl rfl (Bc G1 z3 (by decide) rfl rfl rfl rfl Mn (cs := [.int .i64 y_7]) (.cons .int .nil) rfl (l := ([y_7] : List Int)) (f := eI) rfl) rfl rfl ?_
           obtain ⟨y_8, hy_8, hg⟩ := Ad hg
           refine K0 [9, 41] [] [] true (I2 _ _ _ _ hy_8) ?_
           refine Ao ?_
           refine Al fun hU => ?_
           refine Bv ?_
           obtain rfl := oi_ hg
           exact Bt [] ⟨rfl, rfl⟩
theorem Sd (u : Az) (r : Bool) (hg : I0 u = some r) : Fn Tryz.prog 81 0 [.agg [.val (.int .i64 u.Alg), .val (.int .i64 u.Bits)]] [] (fun d' b' => d' = .val (.bool r) /\ b' = []) := by
 unfold I0 at hg
 refine Fn.of Tryz.func81 rfl rfl rfl fun w0 I ρ0 => ?_
 show Cy _ ⟨w0, I, ρ0, 0, 0, 6⟩ _ _ _
 refine Bu 0 16 Bg ?_
 refine Ao ?_
 refine Al fun hU => ?_
 refine Bu 16 48 hU ?_
 refine Ao ?_
 obtain ⟨y, hy, hg⟩ := Ad hg
 refine E4 (Uj _ _ hy) ?_
 refine Ao ?_
 refine Al fun hU => ?_
 refine Bv ?_
 obtain rfl := oi_ hg
 exact Bt [] ⟨rfl, rfl⟩
theorem Zn  (r : (List Ar)) (hg : La = some r) : Fn Tryz.prog 109 0 [] [] (fun d' b' => d' = .sl 2 (Av Ar.enc r) /\ b' = []) := by
 unfold La at hg
 refine Fn.of Tryz.func109 rfl rfl rfl fun w0 I ρ0 => ?_
 show Cy _ ⟨w0, I, ρ0, 0, 0, 25⟩ _ _ _
 refine Bu 0 8 Bg ?_
 refine Ao ?_
 refine Al fun hU => ?_
 refine Bu 8 208 hU ?_
 refine Cl rfl rfl (.build (r := [.val (.string (⟨#[]⟩ : ByteArray)), .val (.int .i64 0)]) Hb Jo Mk (by kernel_rfl) rfl) rfl rfl ?_
 refine Cl rfl rfl (.build (r := [.val (.string (⟨#[109, 100, 53]⟩ : ByteArray)), .val (.int .i64 1)]) Hb Jo Mk (by kernel_rfl) rfl) rfl rfl ?_
 refine Cl rfl rfl (.build (r := [.val (.string (⟨#[115, 104, 97, 49]⟩ : ByteArray)), .val (.int .i64 1)]) Hb Jo Mk (by kernel_rfl) rfl) rfl rfl ?_
 refine Cl rfl rfl (.build (r := [.val (.string (⟨#[115, 104, 97, 50, 53, 54]⟩ : ByteArray)), .val (.int .i64 1)]) Hb Jo Mk (by kernel_rfl) rfl) rfl rfl ?_
 refine Cl rfl rfl (.build (r := [.val (.string (⟨#[115, 104, 97, 51, 56, 52]⟩ : ByteArray)), .val (.int .i64 1)]) Hb Jo Mk (by kernel_rfl) rfl) rfl rfl ?_
 refine Cl rfl rfl (.build (r := [.val (.string (⟨#[114, 115, 97]⟩ : ByteArray)), .val (.int .i64 2)]) Hb Jo Mk (by kernel_rfl) rfl) rfl rfl ?_
 refine Cl rfl rfl (.build (r := [.val (.string (⟨#[100, 115, 97]⟩ : ByteArray)), .val (.int .i64 2)]) Hb Jo Mk (by kernel_rfl) rfl) rfl rfl ?_
 refine Cl rfl rfl (.build (r := [.val (.string (⟨#[101, 99, 100, 115, 97]⟩ : ByteArray)), .val (.int .i64 2)]) Hb Jo Mk (by kernel_rfl) rfl) rfl rfl ?_
 refine Cl rfl rfl (.build (r := [.val (.string (⟨#[101, 100, 50, 53, 53, 49, 57]⟩ : ByteArray)), .val (.int .i64 2)]) Hb Jo Mk (by kernel_rfl) rfl) rfl rfl ?_
 refine Cl rfl rfl (.build (r := [.val (.string (⟨#[109, 108, 100, 115, 97]⟩ : ByteArray)), .val (.int .i64 2)]) Hb Jo Mk (by kernel_rfl) rfl) rfl rfl ?_
 refine Cl rfl rfl (.build (r := [.val (.string (⟨#[114, 115, 97, 107, 120]⟩ : ByteArray)), .val (.int .i64 3)]) Hb Jo Mk (by kernel_rfl) rfl) rfl rfl ?_
 refine Cl rfl rfl (.build (r := [.val (.string (⟨#[100, 104, 101]⟩ : ByteArray)), .val (.int .i64 3)]) Hb Jo Mk (by kernel_rfl) rfl) rfl rfl ?_
 refine Cl rfl rfl (.build (r := [.val (.string (⟨#[101, 99, 100, 104, 101]⟩ : ByteArray)), .val (.int .i64 3)]) Hb Jo Mk (by kernel_rfl) rfl) rfl rfl ?_
 refine Cl rfl rfl (.build (r := [.val (.string (⟨#[109, 108, 107, 101, 109]⟩ : ByteArray)), .val (.int .i64 3)]) Hb Jo Mk (by kernel_rfl) rfl) rfl rfl ?_
 refine Cl rfl rfl (.build (r := [.val (.string (⟨#[114, 99, 52]⟩ : ByteArray)), .val (.int .i64 4)]) Hb Jo Mk (by kernel_rfl) rfl) rfl rfl ?_
 refine Cl rfl rfl (.build (r := [.val (.string (⟨#[100, 101, 115, 51]⟩ : ByteArray)), .val (.int .i64 4)]) Hb Jo Mk (by kernel_rfl) rfl) rfl rfl ?_
 refine Cl rfl rfl (.build (r := [.val (.string (⟨#[97, 101, 115, 99, 98, 99]⟩ : ByteArray)), .val (.int .i64 4)]) Hb Jo Mk (by kernel_rfl) rfl) rfl rfl ?_
 refine Cl rfl rfl (.build (r := [.val (.string (⟨#[97, 101, 115, 103, 99, 109]⟩ : ByteArray)), .val (.int .i64 4)]) Hb Jo Mk (by kernel_rfl) rfl) rfl rfl ?_
 refine Cl rfl rfl (.build (r := [.val (.string (⟨#[99, 104, 97, 99, 104, 97]⟩ : ByteArray)), .val (.int .i64 4)]) Hb Jo Mk (by kernel_rfl) rfl) rfl rfl ?_
 refine Cl rfl rfl (.build (r := [.val (.string (⟨#[104, 109, 97, 99, 109, 100, 53]⟩ : ByteArray)), .val (.int .i64 5)]) Hb Jo Mk (by kernel_rfl) rfl) rfl rfl ?_
 refine Cl rfl rfl (.build (r := [.val (.string (⟨#[104, 109, 97, 99, 115, 104, 97, 49]⟩ : ByteArray)), .val (.int .i64 5)]) Hb Jo Mk (by kernel_rfl) rfl) rfl rfl ?_
 refine Cl rfl rfl (.build (r := [.val (.string (⟨#[104, 109, 97, 99, 115, 104, 97, 50, 53, 54]⟩ : ByteArray)), .val (.int .i64 5)]) Hb Jo Mk (by kernel_rfl) rfl) rfl rfl ?_
 refine Cl rfl rfl (.build (r := [.val (.string (⟨#[97, 101, 97, 100]⟩ : ByteArray)), .val (.int .i64 5)]) Hb Jo Mk (by kernel_rfl) rfl) rfl rfl ?_
 refine Cl rfl rfl (Bc pL Mk (by decide) rfl rfl rfl rfl uZ (cs := [.str (⟨#[]⟩ : ByteArray), .int .i64 0, .str (⟨#[109, 100, 53]⟩ : ByteArray), .int .i64 1, .str (⟨#[115, 104, 97, 49]⟩ : ByteArray), .int .i64 1, .str (⟨#[115, 104, 97, 50, 53, 54]⟩ : ByteArray), .int .i64 1, .str (⟨#[115, 104, 97, 51, 56, 52]⟩ : ByteArray), .int .i64 1, .str (⟨#[114, 115, 97]⟩ : ByteArray), .int .i64 2, .str (⟨#[100, 115, 97]⟩ : ByteArray), .int .i64 2, .str (⟨#[101, 99, 100, 115, 97]⟩ : ByteArray), .int .i64 2, .str (⟨#[101, 100, 50, 53, 53, 49, 57]⟩ : ByteArray), .int .i64 2, .str (⟨#[109, 108, 100, 115, 97]⟩ : ByteArray), .int .i64 2, .str (⟨#[114, 115, 97, 107, 120]⟩ : ByteArray), .int .i64 3, .str (⟨#[100, 104, 101]⟩ : ByteArray), .int .i64 3, .str (⟨#[101, 99, 100, 104, 101]⟩ : ByteArray), .int .i64 3, .str (⟨#[109, 108, 107, 101, 109]⟩ : ByteArray), .int .i64 3, .str (⟨#[114, 99, 52]⟩ : ByteArray), .int .i64 4, .str (⟨#[100, 101, 115, 51]⟩ : ByteArray), .int .i64 4, .str (⟨#[97, 101, 115, 99, 98, 99]⟩ : ByteArray), .int .i64 4, .str (⟨#[97, 101, 115, 103, 99, 109]⟩ : ByteArray), .int .i64 4, .str (⟨#[99, 104, 97, 99, 104, 97]⟩ : ByteArray), .int .i64 4, .str (⟨#[104, 109, 97, 99, 109, 100, 53]⟩ : ByteArray), .int .i64 5, .str (⟨#[104, 109, 97, 99, 115, 104, 97, 49]⟩ : ByteArray), .int .i64 5, .str (⟨#[104, 109, 97, 99, 115, 104, 97, 50, 53, 54]⟩ : ByteArray), .int .i64 5, .str (⟨#[97, 101, 97, 100]⟩ : ByteArray), .int .i64 5]) (.cons .str (.cons .int (.cons .str (.cons .int (.cons .str (.cons .int (.cons .str (.cons .int (.cons .str (.cons .int (.cons .str (.cons .int (.cons .str (.cons .int (.cons .str (.cons .int (.cons .str (.cons .int (.cons .str (.cons .int (.cons .str (.cons .int (.cons .str (.cons .int (.cons .str (.cons .int (.cons .str (.cons .int (.cons .str (.cons .int (.cons .str (.cons .int (.cons .str (.cons .int (.cons .str (.cons .int (.cons .str (.cons .int (.cons .str (.cons .int (.cons .str (.cons .int (.cons .str (.cons .int (.cons .str (.cons .int .nil)))))))))))))))))))))))))))))))))))))))))))))) rfl (l := ([(Ar.mk (⟨#[]⟩ : ByteArray) 0), (Ar.mk (⟨#[109, 100, 53]⟩ : ByteArray) 1), (Ar.mk (⟨#[115, 104, 97, 49]⟩ : ByteArray) 1), (Ar.mk (⟨#[115, 104, 97, 50, 53, 54]⟩ : ByteArray) 1), (Ar.mk (⟨#[115, 104, 97, 51, 56, 52]⟩ : ByteArray) 1), (Ar.mk (⟨#[114, 115, 97]⟩ : ByteArray) 2), (Ar.mk (⟨#[100, 115, 97]⟩ : ByteArray) 2), (Ar.mk (⟨#[101, 99, 100, 115, 97]⟩ : ByteArray) 2), (Ar.mk (⟨#[101, 100, 50, 53, 53, 49, 57]⟩ : ByteArray) 2), (Ar.mk (⟨#[109, 108, 100, 115, 97]⟩ : ByteArray) 2), (Ar.mk (⟨#[114, 115, 97, 107, 120]⟩ : ByteArray) 3), (Ar.mk (⟨#[100, 104, 101]⟩ : ByteArray) 3), (Ar.mk (⟨#[101, 99, 100, 104, 101]⟩ : ByteArray) 3), (Ar.mk (⟨#[109, 108, 107, 101, 109]⟩ : ByteArray) 3), (Ar.mk (⟨#[114, 99, 52]⟩ : ByteArray) 4), (Ar.mk (⟨#[100, 101, 115, 51]⟩ : ByteArray) 4), (Ar.mk (⟨#[97, 101, 115, 99, 98, 99]⟩ : ByteArray) 4), (Ar.mk (⟨#[97, 101, 115, 103, 99, 109]⟩ : ByteArray) 4), (Ar.mk (⟨#[99, 104, 97, 99, 104, 97]⟩ : ByteArray) 4), (Ar.mk (⟨#[104, 109, 97, 99, 109, 100, 53]⟩ : ByteArray) 5), (Ar.mk (⟨#[104, 109, 97, 99, 115, 104, 97, 49]⟩ : ByteArray) 5), (Ar.mk (⟨#[104, 109, 97, 99, 115, 104, 97, 50, 53, 54]⟩ : ByteArray) 5), (Ar.mk (⟨#[97, 101, 97, 100]⟩ : ByteArray) 5)] : List Ar)) (f := Ar.enc) rfl) rfl rfl ?_
 refine Ao ?_
 refine Al fun hU => ?_
 refine Bv ?_
 obtain rfl := oi_ hg
 exact Bt [] ⟨rfl, rfl⟩
end Go.Proofs.YtkpcbnnlefcebaaGreat
