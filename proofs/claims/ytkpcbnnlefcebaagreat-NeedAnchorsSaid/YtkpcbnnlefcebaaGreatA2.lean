/- The program computes the plain functions. -/
import Derived.Test.YtkpcbnnlefcebaaGreatT1
import Derived.Test.YtkpcbnnlefcebaaGreatA1
set_option linter.unusedVariables false
set_option linter.unusedSimpArgs false
set_option maxRecDepth 100000
set_option maxHeartbeats 1600000
namespace Go.Proofs.YtkpcbnnlefcebaaGreat
open Go.RowKit
theorem w_ref02_among (b : Int) (sizes : (List Int)) (strengths : (List Int)) (r : Int) (hg : g_ref02_among b sizes strengths = some r) : Fn Tryz.prog 139 0 [.val (.int .i64 b), .sl 1 (encL eI sizes), .sl 1 (encL eI strengths)] [] (fun d' b' => d' = .val (.int .i64 r) ∧ b' = []) := by
 unfold g_ref02_among at hg
 refine Fn.of Tryz.func139 rfl rfl rfl fun w0 I ρ0 => ?_
 show awp _ ⟨w0, I, ρ0, 0, 0, 24⟩ _ _ _
 refine sr_ 0 8 mk_U ?_
 refine go_ ?_
 refine ch_n fun hU => ?_
 refine awp_seq ?_
 refine sr_ 8 16 hU ?_
 refine go_ ?_
 refine ch_n fun hU => ?_
 refine awp_block ?_
 refine lp_ (fun (i_1 : Int) => mk [(0, .val (.int .i64 b)), (1, .sl 1 (encL eI sizes)), (2, .sl 1 (encL eI strengths)), (7, .val (.int .i64 i_1))] [] 0) hg (sub_ []) ?_
 rintro i_1 m1 o1 hg hn1
 replace hg : g_ref02_among.l1 b sizes strengths i_1 = some o1 := hg
 show awp _ _ _ _ (mk _ _ _)
 unfold g_ref02_among.l1 at hg
 refine awp_seq ?_
 refine sr_ 0 32 mk_U ?_
 refine go_ ?_
 refine ch_n fun hU => ?_
 refine cg_ rfl hg (fun h4 hg => ?_) fun h4 hg => ?_
 ·refine awp_skip ?_
  repeat first | refine st_ ?_ | refine sn_ ?_
  refine awp_seq ?_
  refine awp_block ?_
  refine sr_ 32 80 hU ?_
  refine go_ ?_
  obtain ⟨e, he, hg⟩ := bind_some hg
  refine go_ ?_
  refine c0_ rfl rfl (r_loadE1 ty3 (enc_cell eI_len (getI_at he) (o := 0) (c := .int .i64 e) rfl rfl)) rfl rfl ?_
  refine go_ ?_
  refine ch_n fun hU => ?_
  refine cg_ rfl hg (fun h6 hg => ?_) fun h6 hg => ?_
  ·refine awp_seq ?_
   refine awp_region (sys _ _ []) 80 120 hU rfl rfl ?_
   refine go_ ?_
   obtain ⟨e_2, he_2, hg⟩ := bind_some hg
   refine go_ ?_
   refine c0_ rfl rfl (r_loadE1 ty3 (enc_cell eI_len (getI_at he_2) (o := 0) (c := .int .i64 e_2) rfl rfl)) rfl rfl ?_
   refine go_ ?_
   refine ch_n fun hU => ?_
   refine aw_r ?_
   replace hg := leave hg hn1
   obtain rfl := Option.some.inj hg
   exact fin_ [] ⟨rfl, rfl⟩
  ·refine awp_skip ?_
   repeat first | refine st_ ?_ | refine sn_ ?_
   refine awp_region (sys _ _ []) 80 104 hU rfl rfl ?_
   refine go_ ?_
   refine ch_n fun hU => ?_
   obtain rfl := Option.some.inj hg
   exact ⟨(W (i_1 + 1), m1), Nat.lt_succ_self _, hn1, sub_ []⟩
 ·refine awp_exit ?_
  repeat first | refine st_ ?_ | refine sn_ ?_
  replace hg := leave hg hn1
  refine sr_ 32 40 hU ?_
  refine go_ ?_
  refine ch_n fun hU => ?_
  refine aw_r ?_
  obtain rfl := Option.some.inj hg
  exact fin_ [] ⟨rfl, rfl⟩
theorem w_ref02_single (alg : Int) (r : Int) (hg : g_ref02_single alg = some r) : Fn Tryz.prog 140 0 [.val (.int .i64 alg)] [] (fun d' b' => d' = .val (.int .i64 r) ∧ b' = []) := by
 unfold g_ref02_single at hg
 refine Fn.of Tryz.func140 rfl rfl rfl fun w0 I ρ0 => ?_
 show awp _ ⟨w0, I, ρ0, 0, 0, 21⟩ _ _ _
 refine sr_ 0 8 mk_U ?_
 refine go_ ?_
 refine ch_n fun hU => ?_
 refine awp_seq ?_
 refine sr_ 8 16 hU ?_
 refine go_ ?_
 refine ch_n fun hU => ?_
 refine awp_block ?_
 refine sr_ 16 32 hU ?_
 refine go_ ?_
 refine ch_n fun hU => ?_
 refine cg_ rfl hg (fun h4 hg => ?_) fun h4 hg => ?_
 ·refine awp_seq ?_
  refine awp_region (sys _ _ []) 32 40 hU rfl rfl ?_
  refine go_ ?_
  refine ch_n fun hU => ?_
  refine aw_r ?_
  obtain rfl := Option.some.inj hg
  exact fin_ [] ⟨rfl, rfl⟩
 ·refine awp_seq ?_
  refine awp_region (sys _ _ []) 32 48 hU rfl rfl ?_
  refine go_ ?_
  refine ch_n fun hU => ?_
  refine cg_ rfl hg (fun h7 hg => ?_) fun h7 hg => ?_
  ·refine awp_seq ?_
   refine awp_region (sys _ _ []) 48 56 hU rfl rfl ?_
   refine go_ ?_
   refine ch_n fun hU => ?_
   refine aw_r ?_
   obtain rfl := Option.some.inj hg
   exact fin_ [] ⟨rfl, rfl⟩
  ·refine awp_cut (ι := Bool) (fun (x8_1 : Bool) => mk [(3, .val (.int .i64 alg)), (8, .val (.bool x8_1))] [] 0) (fun (x8_1 : Bool) => g_ref02_single.j1 alg x8_1 = some r) ?_ ?_
   ·refine awp_seq ?_
    refine awp_region (sys _ _ []) 48 64 hU rfl rfl ?_
    refine go_ ?_
    refine ch_n fun hU => ?_
    refine cg_ rfl hg (fun h10 hg => ?_) fun h10 hg => ?_
    ·refine awp_skip ?_
     repeat first | refine st_ ?_ | refine sn_ ?_
     exact ⟨decide (alg = 3), hg, sub_ []⟩
    ·refine awp_seq ?_
     refine awp_region (sys _ _ []) 64 80 hU rfl rfl ?_
     refine go_ ?_
     refine ch_n fun hU => ?_
     refine cg_ rfl hg (fun h12 hg => ?_) fun h12 hg => ?_
     ·refine awp_skip ?_
      repeat first | refine st_ ?_ | refine sn_ ?_
      exact ⟨decide (alg = 8), hg, sub_ []⟩
     ·refine awp_region (sys _ _ []) 80 96 hU rfl rfl ?_
      refine go_ ?_
      refine ch_n fun hU => ?_
      exact ⟨decide (alg = 21), hg, sub_ []⟩
   ·rintro x8_1 hg
    replace hg : g_ref02_single.j1 alg x8_1 = some r := hg
    show awp _ _ _ _ (mk _ _ _)
    unfold g_ref02_single.j1 at hg
    refine cg_ rfl hg (fun h14 hg => ?_) fun h14 hg => ?_
    ·refine awp_seq ?_
     refine awp_region (sys _ _ []) 0 8 mk_U rfl rfl ?_
     refine go_ ?_
     refine ch_n fun hU => ?_
     refine aw_r ?_
     obtain rfl := Option.some.inj hg
     exact fin_ [] ⟨rfl, rfl⟩
    ·refine awp_seq ?_
     refine awp_region (sys _ _ []) 0 16 mk_U rfl rfl ?_
     refine go_ ?_
     refine ch_n fun hU => ?_
     refine cg_ rfl hg (fun h17 hg => ?_) fun h17 hg => ?_
     ·refine awp_seq ?_
      refine awp_region (sys _ _ []) 16 24 hU rfl rfl ?_
      refine go_ ?_
      refine ch_n fun hU => ?_
      refine aw_r ?_
      obtain rfl := Option.some.inj hg
      exact fin_ [] ⟨rfl, rfl⟩
     ·refine awp_cut (ι := Bool) (fun (x14_2 : Bool) => mk [(3, .val (.int .i64 alg)), (14, .val (.bool x14_2))] [] 0) (fun (x14_2 : Bool) => g_ref02_single.j2 alg x14_2 = some r) ?_ ?_
      ·refine awp_seq ?_
       refine awp_region (sys _ _ []) 16 32 hU rfl rfl ?_
       refine go_ ?_
       refine ch_n fun hU => ?_
       refine cg_ rfl hg (fun h20 hg => ?_) fun h20 hg => ?_
       ·refine awp_skip ?_
        repeat first | refine st_ ?_ | refine sn_ ?_
        exact ⟨decide (alg = 18), hg, sub_ []⟩
       ·refine awp_region (sys _ _ []) 32 48 hU rfl rfl ?_
        refine go_ ?_
        refine ch_n fun hU => ?_
        exact ⟨decide (alg = 22), hg, sub_ []⟩
      ·rintro x14_2 hg
       replace hg : g_ref02_single.j2 alg x14_2 = some r := hg
       show awp _ _ _ _ (mk _ _ _)
       unfold g_ref02_single.j2 at hg
       refine cg_ rfl hg (fun h22 hg => ?_) fun h22 hg => ?_
       ·refine awp_seq ?_
        refine awp_region (sys _ _ []) 0 8 mk_U rfl rfl ?_
        refine go_ ?_
        refine ch_n fun hU => ?_
        refine aw_r ?_
        obtain rfl := Option.some.inj hg
        exact fin_ [] ⟨rfl, rfl⟩
       ·refine awp_seq ?_
        refine awp_region (sys _ _ []) 0 16 mk_U rfl rfl ?_
        refine go_ ?_
        refine ch_n fun hU => ?_
        refine cg_ rfl hg (fun h25 hg => ?_) fun h25 hg => ?_
        ·refine awp_seq ?_
         refine awp_region (sys _ _ []) 16 24 hU rfl rfl ?_
         refine go_ ?_
         refine ch_n fun hU => ?_
         refine aw_r ?_
         obtain rfl := Option.some.inj hg
         exact fin_ [] ⟨rfl, rfl⟩
        ·refine awp_seq ?_
         refine awp_region (sys _ _ []) 16 32 hU rfl rfl ?_
         refine go_ ?_
         refine ch_n fun hU => ?_
         refine cg_ rfl hg (fun h28 hg => ?_) fun h28 hg => ?_
         ·refine awp_seq ?_
          refine awp_region (sys _ _ []) 32 40 hU rfl rfl ?_
          refine go_ ?_
          refine ch_n fun hU => ?_
          refine aw_r ?_
          obtain rfl := Option.some.inj hg
          exact fin_ [] ⟨rfl, rfl⟩
         ·refine awp_skip ?_
          repeat first | refine st_ ?_ | refine sn_ ?_
          refine sr_ 32 40 hU ?_
          refine go_ ?_
          refine ch_n fun hU => ?_
          refine aw_r ?_
          obtain rfl := Option.some.inj hg
          exact fin_ [] ⟨rfl, rfl⟩
theorem w_ref02_Strength (u : api_Use) (r : Int) (hg : g_ref02_Strength u = some r) : Fn Tryz.prog 108 0 [.agg [.val (.int .i64 u.Alg), .val (.int .i64 u.Bits)]] [] (fun d' b' => d' = .val (.int .i64 r) ∧ b' = []) := by
 unfold g_ref02_Strength at hg
 refine Fn.of Tryz.func108 rfl rfl rfl fun w0 I ρ0 => ?_
 show awp _ ⟨w0, I, ρ0, 0, 0, 76⟩ _ _ _
 refine sr_ 0 16 mk_U ?_
 refine go_ ?_
 refine ch_n fun hU => ?_
 refine sr_ 16 40 hU ?_
 refine go_ ?_
 refine ch_n fun hU => ?_
 refine awp_seq ?_
 refine sr_ 40 56 hU ?_
 refine go_ ?_
 refine ch_n fun hU => ?_
 refine awp_block ?_
 refine awp_cut (ι := Bool) (fun (x8_1 : Bool) => mk [(1, .ptr 0 0), (3, .val (.int .i64 u.Bits)), (7, .val (.int .i64 u.Alg)), (8, .val (.bool x8_1))] [(0, .box [.val (.int .i64 u.Alg), .val (.int .i64 u.Bits)] 39)] 1) (fun (x8_1 : Bool) => g_ref02_Strength.j1 u x8_1 = some r) ?_ ?_
 ·refine awp_seq ?_
  refine awp_region (sys _ _ []) 56 72 hU rfl rfl ?_
  refine go_ ?_
  refine ch_n fun hU => ?_
  refine cg_ rfl hg (fun h5 hg => ?_) fun h5 hg => ?_
  ·refine awp_skip ?_
   repeat first | refine st_ ?_ | refine sn_ ?_
   exact ⟨decide (u.Alg = 5), hg, sub_ [(0, 0)]⟩
  ·refine awp_seq ?_
   refine awp_region (sys _ _ []) 72 88 hU rfl rfl ?_
   refine go_ ?_
   refine ch_n fun hU => ?_
   refine cg_ rfl hg (fun h7 hg => ?_) fun h7 hg => ?_
   ·refine awp_skip ?_
    repeat first | refine st_ ?_ | refine sn_ ?_
    exact ⟨decide (u.Alg = 6), hg, sub_ [(0, 0)]⟩
   ·refine awp_seq ?_
    refine awp_region (sys _ _ []) 88 104 hU rfl rfl ?_
    refine go_ ?_
    refine ch_n fun hU => ?_
    refine cg_ rfl hg (fun h9 hg => ?_) fun h9 hg => ?_
    ·refine awp_skip ?_
     repeat first | refine st_ ?_ | refine sn_ ?_
     exact ⟨decide (u.Alg = 10), hg, sub_ [(0, 0)]⟩
    ·refine awp_region (sys _ _ []) 104 120 hU rfl rfl ?_
     refine go_ ?_
     refine ch_n fun hU => ?_
     exact ⟨decide (u.Alg = 11), hg, sub_ [(0, 0)]⟩
 ·rintro x8_1 hg
  replace hg : g_ref02_Strength.j1 u x8_1 = some r := hg
  show awp _ _ _ _ (mk _ _ _)
  unfold g_ref02_Strength.j1 at hg
  refine cg_ rfl hg (fun h11 hg => ?_) fun h11 hg => ?_
  ·refine awp_seq ?_
   refine awp_region (sys _ _ []) 1 25 mk_U rfl rfl ?_
   refine go_ ?_
   obtain ⟨y, hy, hg⟩ := bind_some hg
   refine ca_ (w_ref02_modulus _ _ hy) ?_
   refine go_ ?_
   refine ch_n fun hU => ?_
   refine aw_r ?_
   obtain rfl := Option.some.inj hg
   exact fin_ [] ⟨rfl, rfl⟩
  ·refine awp_cut (ι := Bool) (fun (x15_2 : Bool) => mk [(1, .ptr 0 0), (3, .val (.int .i64 u.Bits)), (7, .val (.int .i64 u.Alg)), (15, .val (.bool x15_2))] [(0, .box [.val (.int .i64 u.Alg), .val (.int .i64 u.Bits)] 39)] 1) (fun (x15_2 : Bool) => g_ref02_Strength.j2 u x15_2 = some r) ?_ ?_
   ·refine awp_seq ?_
    refine awp_region (sys _ _ []) 1 17 mk_U rfl rfl ?_
    refine go_ ?_
    refine ch_n fun hU => ?_
    refine cg_ rfl hg (fun h14 hg => ?_) fun h14 hg => ?_
    ·refine awp_skip ?_
     repeat first | refine st_ ?_ | refine sn_ ?_
     exact ⟨decide (u.Alg = 7), hg, sub_ [(0, 0)]⟩
    ·refine awp_region (sys _ _ []) 17 33 hU rfl rfl ?_
     refine go_ ?_
     refine ch_n fun hU => ?_
     exact ⟨decide (u.Alg = 12), hg, sub_ [(0, 0)]⟩
   ·rintro x15_2 hg
    replace hg : g_ref02_Strength.j2 u x15_2 = some r := hg
    show awp _ _ _ _ (mk _ _ _)
    unfold g_ref02_Strength.j2 at hg
    refine cg_ rfl hg (fun h16 hg => ?_) fun h16 hg => ?_
    ·refine awp_seq ?_
     refine awp_cut (ι := Bool) (fun (x35_3 : Bool) => mk [(3, .val (.int .i64 u.Bits)), (35, .val (.bool x35_3))] [] 0) (fun (x35_3 : Bool) => g_ref02_Strength.j3 u x35_3 = some r) ?_ ?_
     ·refine awp_region (sys _ _ []) 1 145 mk_U rfl rfl ?_
      refine go_ ?_
      rcases bc_ hg with ⟨h17, hg⟩ | ⟨h17, hg⟩
      ·refine go_ ?_
       refine ch_n fun hU => ?_
       exact ⟨true, hg, sub_ []⟩
      ·refine go_ ?_
       rcases bc_ hg with ⟨h19, hg⟩ | ⟨h19, hg⟩
       ·refine go_ ?_
        refine ch_n fun hU => ?_
        exact ⟨true, hg, sub_ []⟩
       ·refine go_ ?_
        rcases bc_ hg with ⟨h21, hg⟩ | ⟨h21, hg⟩
        ·refine go_ ?_
         refine ch_n fun hU => ?_
         exact ⟨true, hg, sub_ []⟩
        ·refine go_ ?_
         rcases bc_ hg with ⟨h23, hg⟩ | ⟨h23, hg⟩
         ·refine go_ ?_
          refine ch_n fun hU => ?_
          exact ⟨true, hg, sub_ []⟩
         ·refine go_ ?_
          refine ch_n fun hU => ?_
          exact ⟨decide (u.Bits = 521), hg, sub_ []⟩
     ·rintro x35_3 hg
      replace hg : g_ref02_Strength.j3 u x35_3 = some r := hg
      show awp _ _ _ _ (mk _ _ _)
      unfold g_ref02_Strength.j3 at hg
      refine cg_ rfl hg (fun h26 hg => ?_) fun h26 hg => ?_
      ·refine awp_seq ?_
       refine awp_region (sys _ _ []) 0 24 mk_U rfl rfl ?_
       refine go_ ?_
       obtain ⟨q, hq, hg⟩ := bind_some hg
       refine c0_ rfl rfl (r_quo hq) rfl rfl ?_
       refine go_ ?_
       refine ch_n fun hU => ?_
       refine aw_r ?_
       obtain rfl := Option.some.inj hg
       exact fin_ [] ⟨rfl, rfl⟩
      ·refine awp_skip ?_
       repeat first | refine st_ ?_ | refine sn_ ?_
       refine sr_ 0 8 mk_U ?_
       refine go_ ?_
       refine ch_n fun hU => ?_
       refine aw_r ?_
       obtain rfl := Option.some.inj hg
       exact fin_ [] ⟨rfl, rfl⟩
    ·refine awp_seq ?_
     refine awp_region (sys _ _ []) 1 17 mk_U rfl rfl ?_
     refine go_ ?_
     refine ch_n fun hU => ?_
     refine cg_ rfl hg (fun h30 hg => ?_) fun h30 hg => ?_
     ·refine awp_seq ?_
      refine awp_region (sys _ _ []) 17 57 hU rfl rfl ?_
      refine go_ ?_
      refine c0_ rfl rfl (r_buildFull sl22 z3 (by decide) rfl rfl rfl rfl ck3 (cs := [.int .i64 44, .int .i64 65, .int .i64 87]) (.cons .int (.cons .int (.cons .int .nil))) rfl (l := ([44, 65, 87] : List Int)) (f := eI) rfl) rfl rfl ?_
      refine c0_ rfl rfl (r_buildFull sl22 z3 (by decide) rfl rfl rfl rfl ck3 (cs := [.int .i64 128, .int .i64 192, .int .i64 256]) (.cons .int (.cons .int (.cons .int .nil))) rfl (l := ([128, 192, 256] : List Int)) (f := eI) rfl) rfl rfl ?_
      obtain ⟨y_2, hy_2, hg⟩ := bind_some hg
      refine cb_ [25, 33] [] [] true (w_ref02_among _ _ _ _ hy_2) ?_
      refine go_ ?_
      refine ch_n fun hU => ?_
      refine aw_r ?_
      obtain rfl := Option.some.inj hg
      exact fin_ [] ⟨rfl, rfl⟩
     ·refine awp_seq ?_
      refine awp_region (sys _ _ []) 17 33 hU rfl rfl ?_
      refine go_ ?_
      refine ch_n fun hU => ?_
      refine cg_ rfl hg (fun h33 hg => ?_) fun h33 hg => ?_
      ·refine awp_seq ?_
       refine awp_region (sys _ _ []) 33 73 hU rfl rfl ?_
       refine go_ ?_
       refine c0_ rfl rfl (r_buildFull sl22 z3 (by decide) rfl rfl rfl rfl ck3 (cs := [.int .i64 512, .int .i64 768, .int .i64 1024]) (.cons .int (.cons .int (.cons .int .nil))) rfl (l := ([512, 768, 1024] : List Int)) (f := eI) rfl) rfl rfl ?_
       refine c0_ rfl rfl (r_buildFull sl22 z3 (by decide) rfl rfl rfl rfl ck3 (cs := [.int .i64 128, .int .i64 192, .int .i64 256]) (.cons .int (.cons .int (.cons .int .nil))) rfl (l := ([128, 192, 256] : List Int)) (f := eI) rfl) rfl rfl ?_
       obtain ⟨y_3, hy_3, hg⟩ := bind_some hg
       refine cb_ [41, 49] [] [] true (w_ref02_among _ _ _ _ hy_3) ?_
       refine go_ ?_
       refine ch_n fun hU => ?_
       refine aw_r ?_
       obtain rfl := Option.some.inj hg
       exact fin_ [] ⟨rfl, rfl⟩
      ·refine awp_seq ?_
       refine awp_region (sys _ _ []) 33 49 hU rfl rfl ?_
       refine go_ ?_
       refine ch_n fun hU => ?_
       refine cg_ rfl hg (fun h36 hg => ?_) fun h36 hg => ?_
       ·refine awp_seq ?_
        refine awp_region (sys _ _ []) 49 89 hU rfl rfl ?_
        refine go_ ?_
        refine c0_ rfl rfl (r_buildFull sl22 z3 (by decide) rfl rfl rfl rfl ck3 (cs := [.int .i64 40, .int .i64 128]) (.cons .int (.cons .int .nil)) rfl (l := ([40, 128] : List Int)) (f := eI) rfl) rfl rfl ?_
        refine c0_ rfl rfl (r_buildFull sl22 z3 (by decide) rfl rfl rfl rfl ck3 (cs := [.int .i64 40, .int .i64 60]) (.cons .int (.cons .int .nil)) rfl (l := ([40, 60] : List Int)) (f := eI) rfl) rfl rfl ?_
        obtain ⟨y_4, hy_4, hg⟩ := bind_some hg
        refine cb_ [57, 65] [] [] true (w_ref02_among _ _ _ _ hy_4) ?_
        refine go_ ?_
        refine ch_n fun hU => ?_
        refine aw_r ?_
        obtain rfl := Option.some.inj hg
        exact fin_ [] ⟨rfl, rfl⟩
       ·refine awp_seq ?_
        refine awp_region (sys _ _ []) 49 65 hU rfl rfl ?_
        refine go_ ?_
        refine ch_n fun hU => ?_
        refine cg_ rfl hg (fun h39 hg => ?_) fun h39 hg => ?_
        ·refine awp_seq ?_
         refine awp_region (sys _ _ []) 65 105 hU rfl rfl ?_
         refine go_ ?_
         refine c0_ rfl rfl (r_buildFull sl22 z3 (by decide) rfl rfl rfl rfl ck3 (cs := [.int .i64 112, .int .i64 168]) (.cons .int (.cons .int .nil)) rfl (l := ([112, 168] : List Int)) (f := eI) rfl) rfl rfl ?_
         refine c0_ rfl rfl (r_buildFull sl22 z3 (by decide) rfl rfl rfl rfl ck3 (cs := [.int .i64 80, .int .i64 112]) (.cons .int (.cons .int .nil)) rfl (l := ([80, 112] : List Int)) (f := eI) rfl) rfl rfl ?_
         obtain ⟨y_5, hy_5, hg⟩ := bind_some hg
         refine cb_ [73, 81] [] [] true (w_ref02_among _ _ _ _ hy_5) ?_
         refine go_ ?_
         refine ch_n fun hU => ?_
         refine aw_r ?_
         obtain rfl := Option.some.inj hg
         exact fin_ [] ⟨rfl, rfl⟩
        ·refine awp_cut (ι := Bool) (fun (x62_4 : Bool) => mk [(1, .ptr 0 0), (3, .val (.int .i64 u.Bits)), (62, .val (.bool x62_4))] [(0, .box [.val (.int .i64 u.Alg), .val (.int .i64 u.Bits)] 39)] 1) (fun (x62_4 : Bool) => g_ref02_Strength.j4 u x62_4 = some r) ?_ ?_
         ·refine awp_seq ?_
          refine awp_region (sys _ _ []) 65 81 hU rfl rfl ?_
          refine go_ ?_
          refine ch_n fun hU => ?_
          refine cg_ rfl hg (fun h42 hg => ?_) fun h42 hg => ?_
          ·refine awp_skip ?_
           repeat first | refine st_ ?_ | refine sn_ ?_
           exact ⟨decide (u.Alg = 16), hg, sub_ [(0, 0)]⟩
          ·refine awp_region (sys _ _ []) 81 97 hU rfl rfl ?_
           refine go_ ?_
           refine ch_n fun hU => ?_
           exact ⟨decide (u.Alg = 17), hg, sub_ [(0, 0)]⟩
         ·rintro x62_4 hg
          replace hg : g_ref02_Strength.j4 u x62_4 = some r := hg
          show awp _ _ _ _ (mk _ _ _)
          unfold g_ref02_Strength.j4 at hg
          refine cg_ rfl hg (fun h44 hg => ?_) fun h44 hg => ?_
          ·refine awp_seq ?_
           refine awp_region (sys _ _ []) 1 41 mk_U rfl rfl ?_
           refine go_ ?_
           refine c0_ rfl rfl (r_buildFull sl22 z3 (by decide) rfl rfl rfl rfl ck3 (cs := [.int .i64 128, .int .i64 256]) (.cons .int (.cons .int .nil)) rfl (l := ([128, 256] : List Int)) (f := eI) rfl) rfl rfl ?_
           refine c0_ rfl rfl (r_buildFull sl22 z3 (by decide) rfl rfl rfl rfl ck3 (cs := [.int .i64 128, .int .i64 256]) (.cons .int (.cons .int .nil)) rfl (l := ([128, 256] : List Int)) (f := eI) rfl) rfl rfl ?_
           obtain ⟨y_6, hy_6, hg⟩ := bind_some hg
           refine cb_ [9, 17] [] [] true (w_ref02_among _ _ _ _ hy_6) ?_
           refine go_ ?_
           refine ch_n fun hU => ?_
           refine aw_r ?_
           obtain rfl := Option.some.inj hg
           exact fin_ [] ⟨rfl, rfl⟩
          ·refine awp_skip ?_
           repeat first | refine st_ ?_ | refine sn_ ?_
           refine sr_ 1 65 mk_U ?_
           refine go_ ?_
           refine c0_ rfl rfl (r_buildFull sl22 z3 (by decide) rfl rfl rfl rfl ck3 (cs := [.int .i64 0]) (.cons .int .nil) rfl (l := ([0] : List Int)) (f := eI) rfl) rfl rfl ?_
           refine go_ ?_
           obtain ⟨y_7, hy_7, hg⟩ := bind_some hg
           refine ca_ (w_ref02_single _ _ hy_7) ?_
           refine c0_ rfl rfl (r_buildFull sl22 z3 (by decide) rfl rfl rfl rfl ck3 (cs := [.int .i64 y_7]) (.cons .int .nil) rfl (l := ([y_7] : List Int)) (f := eI) rfl) rfl rfl ?_
           obtain ⟨y_8, hy_8, hg⟩ := bind_some hg
           refine cb_ [9, 41] [] [] true (w_ref02_among _ _ _ _ hy_8) ?_
           refine go_ ?_
           refine ch_n fun hU => ?_
           refine aw_r ?_
           obtain rfl := Option.some.inj hg
           exact fin_ [] ⟨rfl, rfl⟩
theorem w_ref02_Valid (u : api_Use) (r : Bool) (hg : g_ref02_Valid u = some r) : Fn Tryz.prog 81 0 [.agg [.val (.int .i64 u.Alg), .val (.int .i64 u.Bits)]] [] (fun d' b' => d' = .val (.bool r) ∧ b' = []) := by
 unfold g_ref02_Valid at hg
 refine Fn.of Tryz.func81 rfl rfl rfl fun w0 I ρ0 => ?_
 show awp _ ⟨w0, I, ρ0, 0, 0, 6⟩ _ _ _
 refine sr_ 0 16 mk_U ?_
 refine go_ ?_
 refine ch_n fun hU => ?_
 refine sr_ 16 48 hU ?_
 refine go_ ?_
 obtain ⟨y, hy, hg⟩ := bind_some hg
 refine ca_ (w_ref02_Strength _ _ hy) ?_
 refine go_ ?_
 refine ch_n fun hU => ?_
 refine aw_r ?_
 obtain rfl := Option.some.inj hg
 exact fin_ [] ⟨rfl, rfl⟩
theorem w_ref02_rows  (r : (List cipherplanref02_row)) (hg : g_ref02_rows = some r) : Fn Tryz.prog 109 0 [] [] (fun d' b' => d' = .sl 2 (encL cipherplanref02_row.enc r) ∧ b' = []) := by
 unfold g_ref02_rows at hg
 refine Fn.of Tryz.func109 rfl rfl rfl fun w0 I ρ0 => ?_
 show awp _ ⟨w0, I, ρ0, 0, 0, 25⟩ _ _ _
 refine sr_ 0 8 mk_U ?_
 refine go_ ?_
 refine ch_n fun hU => ?_
 refine sr_ 8 208 hU ?_
 refine c0_ rfl rfl (.build (r := [.val (.string (⟨#[]⟩ : ByteArray)), .val (.int .i64 0)]) und157 pl157 z157 (by kernel_rfl) rfl) rfl rfl ?_
 refine c0_ rfl rfl (.build (r := [.val (.string (⟨#[109, 100, 53]⟩ : ByteArray)), .val (.int .i64 1)]) und157 pl157 z157 (by kernel_rfl) rfl) rfl rfl ?_
 refine c0_ rfl rfl (.build (r := [.val (.string (⟨#[115, 104, 97, 49]⟩ : ByteArray)), .val (.int .i64 1)]) und157 pl157 z157 (by kernel_rfl) rfl) rfl rfl ?_
 refine c0_ rfl rfl (.build (r := [.val (.string (⟨#[115, 104, 97, 50, 53, 54]⟩ : ByteArray)), .val (.int .i64 1)]) und157 pl157 z157 (by kernel_rfl) rfl) rfl rfl ?_
 refine c0_ rfl rfl (.build (r := [.val (.string (⟨#[115, 104, 97, 51, 56, 52]⟩ : ByteArray)), .val (.int .i64 1)]) und157 pl157 z157 (by kernel_rfl) rfl) rfl rfl ?_
 refine c0_ rfl rfl (.build (r := [.val (.string (⟨#[114, 115, 97]⟩ : ByteArray)), .val (.int .i64 2)]) und157 pl157 z157 (by kernel_rfl) rfl) rfl rfl ?_
 refine c0_ rfl rfl (.build (r := [.val (.string (⟨#[100, 115, 97]⟩ : ByteArray)), .val (.int .i64 2)]) und157 pl157 z157 (by kernel_rfl) rfl) rfl rfl ?_
 refine c0_ rfl rfl (.build (r := [.val (.string (⟨#[101, 99, 100, 115, 97]⟩ : ByteArray)), .val (.int .i64 2)]) und157 pl157 z157 (by kernel_rfl) rfl) rfl rfl ?_
 refine c0_ rfl rfl (.build (r := [.val (.string (⟨#[101, 100, 50, 53, 53, 49, 57]⟩ : ByteArray)), .val (.int .i64 2)]) und157 pl157 z157 (by kernel_rfl) rfl) rfl rfl ?_
 refine c0_ rfl rfl (.build (r := [.val (.string (⟨#[109, 108, 100, 115, 97]⟩ : ByteArray)), .val (.int .i64 2)]) und157 pl157 z157 (by kernel_rfl) rfl) rfl rfl ?_
 refine c0_ rfl rfl (.build (r := [.val (.string (⟨#[114, 115, 97, 107, 120]⟩ : ByteArray)), .val (.int .i64 3)]) und157 pl157 z157 (by kernel_rfl) rfl) rfl rfl ?_
 refine c0_ rfl rfl (.build (r := [.val (.string (⟨#[100, 104, 101]⟩ : ByteArray)), .val (.int .i64 3)]) und157 pl157 z157 (by kernel_rfl) rfl) rfl rfl ?_
 refine c0_ rfl rfl (.build (r := [.val (.string (⟨#[101, 99, 100, 104, 101]⟩ : ByteArray)), .val (.int .i64 3)]) und157 pl157 z157 (by kernel_rfl) rfl) rfl rfl ?_
 refine c0_ rfl rfl (.build (r := [.val (.string (⟨#[109, 108, 107, 101, 109]⟩ : ByteArray)), .val (.int .i64 3)]) und157 pl157 z157 (by kernel_rfl) rfl) rfl rfl ?_
 refine c0_ rfl rfl (.build (r := [.val (.string (⟨#[114, 99, 52]⟩ : ByteArray)), .val (.int .i64 4)]) und157 pl157 z157 (by kernel_rfl) rfl) rfl rfl ?_
 refine c0_ rfl rfl (.build (r := [.val (.string (⟨#[100, 101, 115, 51]⟩ : ByteArray)), .val (.int .i64 4)]) und157 pl157 z157 (by kernel_rfl) rfl) rfl rfl ?_
 refine c0_ rfl rfl (.build (r := [.val (.string (⟨#[97, 101, 115, 99, 98, 99]⟩ : ByteArray)), .val (.int .i64 4)]) und157 pl157 z157 (by kernel_rfl) rfl) rfl rfl ?_
 refine c0_ rfl rfl (.build (r := [.val (.string (⟨#[97, 101, 115, 103, 99, 109]⟩ : ByteArray)), .val (.int .i64 4)]) und157 pl157 z157 (by kernel_rfl) rfl) rfl rfl ?_
 refine c0_ rfl rfl (.build (r := [.val (.string (⟨#[99, 104, 97, 99, 104, 97]⟩ : ByteArray)), .val (.int .i64 4)]) und157 pl157 z157 (by kernel_rfl) rfl) rfl rfl ?_
 refine c0_ rfl rfl (.build (r := [.val (.string (⟨#[104, 109, 97, 99, 109, 100, 53]⟩ : ByteArray)), .val (.int .i64 5)]) und157 pl157 z157 (by kernel_rfl) rfl) rfl rfl ?_
 refine c0_ rfl rfl (.build (r := [.val (.string (⟨#[104, 109, 97, 99, 115, 104, 97, 49]⟩ : ByteArray)), .val (.int .i64 5)]) und157 pl157 z157 (by kernel_rfl) rfl) rfl rfl ?_
 refine c0_ rfl rfl (.build (r := [.val (.string (⟨#[104, 109, 97, 99, 115, 104, 97, 50, 53, 54]⟩ : ByteArray)), .val (.int .i64 5)]) und157 pl157 z157 (by kernel_rfl) rfl) rfl rfl ?_
 refine c0_ rfl rfl (.build (r := [.val (.string (⟨#[97, 101, 97, 100]⟩ : ByteArray)), .val (.int .i64 5)]) und157 pl157 z157 (by kernel_rfl) rfl) rfl rfl ?_
 refine c0_ rfl rfl (r_buildFull sl158 z157 (by decide) rfl rfl rfl rfl ck157 (cs := [.str (⟨#[]⟩ : ByteArray), .int .i64 0, .str (⟨#[109, 100, 53]⟩ : ByteArray), .int .i64 1, .str (⟨#[115, 104, 97, 49]⟩ : ByteArray), .int .i64 1, .str (⟨#[115, 104, 97, 50, 53, 54]⟩ : ByteArray), .int .i64 1, .str (⟨#[115, 104, 97, 51, 56, 52]⟩ : ByteArray), .int .i64 1, .str (⟨#[114, 115, 97]⟩ : ByteArray), .int .i64 2, .str (⟨#[100, 115, 97]⟩ : ByteArray), .int .i64 2, .str (⟨#[101, 99, 100, 115, 97]⟩ : ByteArray), .int .i64 2, .str (⟨#[101, 100, 50, 53, 53, 49, 57]⟩ : ByteArray), .int .i64 2, .str (⟨#[109, 108, 100, 115, 97]⟩ : ByteArray), .int .i64 2, .str (⟨#[114, 115, 97, 107, 120]⟩ : ByteArray), .int .i64 3, .str (⟨#[100, 104, 101]⟩ : ByteArray), .int .i64 3, .str (⟨#[101, 99, 100, 104, 101]⟩ : ByteArray), .int .i64 3, .str (⟨#[109, 108, 107, 101, 109]⟩ : ByteArray), .int .i64 3, .str (⟨#[114, 99, 52]⟩ : ByteArray), .int .i64 4, .str (⟨#[100, 101, 115, 51]⟩ : ByteArray), .int .i64 4, .str (⟨#[97, 101, 115, 99, 98, 99]⟩ : ByteArray), .int .i64 4, .str (⟨#[97, 101, 115, 103, 99, 109]⟩ : ByteArray), .int .i64 4, .str (⟨#[99, 104, 97, 99, 104, 97]⟩ : ByteArray), .int .i64 4, .str (⟨#[104, 109, 97, 99, 109, 100, 53]⟩ : ByteArray), .int .i64 5, .str (⟨#[104, 109, 97, 99, 115, 104, 97, 49]⟩ : ByteArray), .int .i64 5, .str (⟨#[104, 109, 97, 99, 115, 104, 97, 50, 53, 54]⟩ : ByteArray), .int .i64 5, .str (⟨#[97, 101, 97, 100]⟩ : ByteArray), .int .i64 5]) (.cons .str (.cons .int (.cons .str (.cons .int (.cons .str (.cons .int (.cons .str (.cons .int (.cons .str (.cons .int (.cons .str (.cons .int (.cons .str (.cons .int (.cons .str (.cons .int (.cons .str (.cons .int (.cons .str (.cons .int (.cons .str (.cons .int (.cons .str (.cons .int (.cons .str (.cons .int (.cons .str (.cons .int (.cons .str (.cons .int (.cons .str (.cons .int (.cons .str (.cons .int (.cons .str (.cons .int (.cons .str (.cons .int (.cons .str (.cons .int (.cons .str (.cons .int (.cons .str (.cons .int (.cons .str (.cons .int .nil)))))))))))))))))))))))))))))))))))))))))))))) rfl (l := ([(cipherplanref02_row.mk (⟨#[]⟩ : ByteArray) 0), (cipherplanref02_row.mk (⟨#[109, 100, 53]⟩ : ByteArray) 1), (cipherplanref02_row.mk (⟨#[115, 104, 97, 49]⟩ : ByteArray) 1), (cipherplanref02_row.mk (⟨#[115, 104, 97, 50, 53, 54]⟩ : ByteArray) 1), (cipherplanref02_row.mk (⟨#[115, 104, 97, 51, 56, 52]⟩ : ByteArray) 1), (cipherplanref02_row.mk (⟨#[114, 115, 97]⟩ : ByteArray) 2), (cipherplanref02_row.mk (⟨#[100, 115, 97]⟩ : ByteArray) 2), (cipherplanref02_row.mk (⟨#[101, 99, 100, 115, 97]⟩ : ByteArray) 2), (cipherplanref02_row.mk (⟨#[101, 100, 50, 53, 53, 49, 57]⟩ : ByteArray) 2), (cipherplanref02_row.mk (⟨#[109, 108, 100, 115, 97]⟩ : ByteArray) 2), (cipherplanref02_row.mk (⟨#[114, 115, 97, 107, 120]⟩ : ByteArray) 3), (cipherplanref02_row.mk (⟨#[100, 104, 101]⟩ : ByteArray) 3), (cipherplanref02_row.mk (⟨#[101, 99, 100, 104, 101]⟩ : ByteArray) 3), (cipherplanref02_row.mk (⟨#[109, 108, 107, 101, 109]⟩ : ByteArray) 3), (cipherplanref02_row.mk (⟨#[114, 99, 52]⟩ : ByteArray) 4), (cipherplanref02_row.mk (⟨#[100, 101, 115, 51]⟩ : ByteArray) 4), (cipherplanref02_row.mk (⟨#[97, 101, 115, 99, 98, 99]⟩ : ByteArray) 4), (cipherplanref02_row.mk (⟨#[97, 101, 115, 103, 99, 109]⟩ : ByteArray) 4), (cipherplanref02_row.mk (⟨#[99, 104, 97, 99, 104, 97]⟩ : ByteArray) 4), (cipherplanref02_row.mk (⟨#[104, 109, 97, 99, 109, 100, 53]⟩ : ByteArray) 5), (cipherplanref02_row.mk (⟨#[104, 109, 97, 99, 115, 104, 97, 49]⟩ : ByteArray) 5), (cipherplanref02_row.mk (⟨#[104, 109, 97, 99, 115, 104, 97, 50, 53, 54]⟩ : ByteArray) 5), (cipherplanref02_row.mk (⟨#[97, 101, 97, 100]⟩ : ByteArray) 5)] : List cipherplanref02_row)) (f := cipherplanref02_row.enc) rfl) rfl rfl ?_
 refine go_ ?_
 refine ch_n fun hU => ?_
 refine aw_r ?_
 obtain rfl := Option.some.inj hg
 exact fin_ [] ⟨rfl, rfl⟩
theorem w_ref02_Kind (alg : Int) (r : Int) (hg : g_ref02_Kind alg = some r) : Fn Tryz.prog 82 0 [.val (.int .i64 alg)] [] (fun d' b' => d' = .val (.int .i64 r) ∧ b' = []) := by
 unfold g_ref02_Kind at hg
 refine Fn.of Tryz.func82 rfl rfl rfl fun w0 I ρ0 => ?_
 show awp _ ⟨w0, I, ρ0, 0, 0, 14⟩ _ _ _
 refine sr_ 0 8 mk_U ?_
 refine go_ ?_
 refine ch_n fun hU => ?_
 refine awp_seq ?_
 refine awp_cut (ι := Bool) (fun (x8_1 : Bool) => mk [(0, .val (.int .i64 alg)), (8, .val (.bool x8_1))] [] 0) (fun (x8_1 : Bool) => g_ref02_Kind.j1 alg x8_1 = some r) ?_ ?_
 ·refine awp_region (sys _ _ []) 8 56 hU rfl rfl ?_
  refine go_ ?_
  rcases bc_ hg with ⟨h2, hg⟩ | ⟨h2, hg⟩
  ·refine go_ ?_
   refine ch_n fun hU => ?_
   exact ⟨true, hg, sub_ []⟩
  ·refine go_ ?_
   refine ch_n fun hU => ?_
   exact ⟨decide (22 < alg), hg, sub_ []⟩
 ·rintro x8_1 hg
  replace hg : g_ref02_Kind.j1 alg x8_1 = some r := hg
  show awp _ _ _ _ (mk _ _ _)
  unfold g_ref02_Kind.j1 at hg
  refine cg_ rfl hg (fun h5 hg => ?_) fun h5 hg => ?_
  ·refine awp_seq ?_
   refine awp_region (sys _ _ []) 0 8 mk_U rfl rfl ?_
   refine go_ ?_
   refine ch_n fun hU => ?_
   refine aw_r ?_
   obtain rfl := Option.some.inj hg
   exact fin_ [] ⟨rfl, rfl⟩
  ·refine awp_skip ?_
   repeat first | refine st_ ?_ | refine sn_ ?_
   refine sr_ 0 48 mk_U ?_
   obtain ⟨y, hy, hg⟩ := bind_some hg
   refine ca_ (w_ref02_rows _ hy) ?_
   refine go_ ?_
   obtain ⟨e, he, hg⟩ := bind_some hg
   refine go_ ?_
   refine c0_ rfl rfl (r_fieldE fd157_1 ty3 (by decide) (enc_lt cipherplanref02_row.enc_len (getI_at he) (o := 1) (by decide) rfl)) rfl rfl ?_
   refine c0_ rfl rfl (r_loadE1 ty3 (enc_cell cipherplanref02_row.enc_len (getI_at he) (o := 1) (c := .int .i64 e.kind) rfl rfl)) rfl rfl ?_
   refine go_ ?_
   refine ch_n fun hU => ?_
   refine aw_r ?_
   obtain rfl := Option.some.inj hg
   exact fin_ [] ⟨rfl, rfl⟩
theorem w_ref03_Signature (u : api_Use) (r : Bool) (hg : g_ref03_Signature u = some r) : Fn Tryz.prog 80 0 [.agg [.val (.int .i64 u.Alg), .val (.int .i64 u.Bits)]] [] (fun d' b' => d' = .val (.bool r) ∧ b' = []) := by
 unfold g_ref03_Signature at hg
 refine Fn.of Tryz.func80 rfl rfl rfl fun w0 I ρ0 => ?_
 show awp _ ⟨w0, I, ρ0, 0, 0, 11⟩ _ _ _
 refine sr_ 0 16 mk_U ?_
 refine go_ ?_
 refine ch_n fun hU => ?_
 refine sr_ 16 88 hU ?_
 refine go_ ?_
 obtain ⟨y, hy, hg⟩ := bind_some hg
 refine ca_ (w_ref02_Valid _ _ hy) ?_
 refine go_ ?_
 rcases bc_ hg with ⟨h2, hg⟩ | ⟨h2, hg⟩
 ·refine go_ ?_
  obtain ⟨y_2, hy_2, hg⟩ := bind_some hg
  refine ca_ (w_ref02_Kind _ _ hy_2) ?_
  refine go_ ?_
  refine ch_n fun hU => ?_
  refine aw_r ?_
  obtain rfl := Option.some.inj hg
  exact fin_ [] ⟨rfl, rfl⟩
 ·refine go_ ?_
  refine ch_n fun hU => ?_
  refine aw_r ?_
  obtain rfl := Option.some.inj hg
  exact fin_ [] ⟨rfl, rfl⟩
theorem w_ref03_Check (c : api_Certificate) (r : Int) (hg : g_ref03_Check c = some r) : Fn Tryz.prog 58 0 [.agg (api_Certificate.dv c)] [] (fun d' b' => d' = .val (.int .i64 r) ∧ b' = []) := by
 unfold g_ref03_Check at hg
 refine Fn.of Tryz.func58 rfl rfl rfl fun w0 I ρ0 => ?_
 show awp _ ⟨w0, I, ρ0, 0, 0, 146⟩ _ _ _
 refine sr_ 0 16 mk_U ?_
 refine go_ ?_
 refine ch_n fun hU => ?_
 refine awp_seq ?_
 refine awp_cut (ι := Bool) (fun (x39_1 : Bool) => mk [(1, .ptr 0 0), (39, .val (.bool x39_1))] [(0, .box (api_Certificate.dv c) 85)] 1) (fun (x39_1 : Bool) => g_ref03_Check.j1 c x39_1 = some r) ?_ ?_
 ·refine awp_region (sys _ _ []) 16 304 hU rfl rfl ?_
  refine go_ ?_
  rcases bc_ hg with ⟨h2, hg⟩ | ⟨h2, hg⟩
  ·refine go_ ?_
   refine ch_n fun hU => ?_
   exact ⟨true, hg, sub_ [(0, 0)]⟩
  ·refine go_ ?_
   rcases bc_ hg with ⟨h4, hg⟩ | ⟨h4, hg⟩
   ·refine go_ ?_
    refine ch_n fun hU => ?_
    exact ⟨true, hg, sub_ [(0, 0)]⟩
   ·refine go_ ?_
    obtain ⟨y, hy, hg⟩ := bind_some hg
    refine ca_ (w_ref03_Name _ _ hy) ?_
    refine go_ ?_
    rcases bc_ hg with ⟨h6, hg⟩ | ⟨h6, hg⟩
    ·refine go_ ?_
     refine ch_n fun hU => ?_
     exact ⟨true, hg, sub_ [(0, 0)]⟩
    ·refine go_ ?_
     obtain ⟨y_2, hy_2, hg⟩ := bind_some hg
     refine ca_ (w_ref03_Name _ _ hy_2) ?_
     refine go_ ?_
     rcases bc_ hg with ⟨h8, hg⟩ | ⟨h8, hg⟩
     ·refine go_ ?_
      refine ch_n fun hU => ?_
      exact ⟨true, hg, sub_ [(0, 0)]⟩
     ·refine go_ ?_
      obtain ⟨y_3, hy_3, hg⟩ := bind_some hg
      refine ca_ (w_ref03_Signature _ _ hy_3) ?_
      refine go_ ?_
      rcases bc_ hg with ⟨h10, hg⟩ | ⟨h10, hg⟩
      ·refine go_ ?_
       refine ch_n fun hU => ?_
       exact ⟨true, hg, sub_ [(0, 0)]⟩
      ·refine go_ ?_
       rcases bc_ hg with ⟨h12, hg⟩ | ⟨h12, hg⟩
       ·refine go_ ?_
        refine ch_n fun hU => ?_
        exact ⟨true, hg, sub_ [(0, 0)]⟩
       ·refine go_ ?_
        refine ch_n fun hU => ?_
        exact ⟨decide (2147483648 < c.KeyId), hg, sub_ [(0, 0)]⟩
 ·rintro x39_1 hg
  replace hg : g_ref03_Check.j1 c x39_1 = some r := hg
  show awp _ _ _ _ (mk _ _ _)
  unfold g_ref03_Check.j1 at hg
  refine cg_ rfl hg (fun h15 hg => ?_) fun h15 hg => ?_
  ·refine awp_seq ?_
   refine awp_region (sys _ _ []) 1 9 mk_U rfl rfl ?_
   refine go_ ?_
   refine ch_n fun hU => ?_
   refine aw_r ?_
   obtain rfl := Option.some.inj hg
   exact fin_ [] ⟨rfl, rfl⟩
  ·refine awp_skip ?_
   repeat first | refine st_ ?_ | refine sn_ ?_
   refine awp_seq ?_
   refine awp_cut (ι := Bool) (fun (x67_2 : Bool) => mk [(1, .ptr 0 0), (67, .val (.bool x67_2))] [(0, .box (api_Certificate.dv c) 85)] 1) (fun (x67_2 : Bool) => g_ref03_Check.j2 c x67_2 = some r) ?_ ?_
   ·refine awp_region (sys _ _ []) 1 225 mk_U rfl rfl ?_
    refine go_ ?_
    obtain ⟨y_4, hy_4, hg⟩ := bind_some hg
    refine ca_ (w_ref02_Valid _ _ hy_4) ?_
    refine go_ ?_
    rcases bc_ hg with ⟨h17, hg⟩ | ⟨h17, hg⟩
    ·refine go_ ?_
     refine ch_n fun hU => ?_
     exact ⟨true, hg, sub_ [(0, 0)]⟩
    ·refine go_ ?_
     obtain ⟨y_5, hy_5, hg⟩ := bind_some hg
     refine ca_ (w_ref02_Kind _ _ hy_5) ?_
     refine go_ ?_
     rcases bc_ hg with ⟨h19, hg⟩ | ⟨h19, hg⟩
     ·refine go_ ?_
      refine ch_n fun hU => ?_
      exact ⟨true, hg, sub_ [(0, 0)]⟩
     ·refine go_ ?_
      rcases bc_ hg with ⟨h21, hg⟩ | ⟨h21, hg⟩
      ·refine go_ ?_
       refine ch_n fun hU => ?_
       exact ⟨true, hg, sub_ [(0, 0)]⟩
      ·refine go_ ?_
       rcases bc_ hg with ⟨h23, hg⟩ | ⟨h23, hg⟩
       ·refine go_ ?_
        refine ch_n fun hU => ?_
        exact ⟨true, hg, sub_ [(0, 0)]⟩
       ·refine go_ ?_
        refine ch_n fun hU => ?_
        exact ⟨decide (40000 < c.To), hg, sub_ [(0, 0)]⟩
   ·rintro x67_2 hg
    replace hg : g_ref03_Check.j2 c x67_2 = some r := hg
    show awp _ _ _ _ (mk _ _ _)
    unfold g_ref03_Check.j2 at hg
    refine cg_ rfl hg (fun h26 hg => ?_) fun h26 hg => ?_
    ·refine awp_seq ?_
     refine awp_region (sys _ _ []) 1 9 mk_U rfl rfl ?_
     refine go_ ?_
     refine ch_n fun hU => ?_
     refine aw_r ?_
     obtain rfl := Option.some.inj hg
     exact fin_ [] ⟨rfl, rfl⟩
    ·refine awp_skip ?_
     repeat first | refine st_ ?_ | refine sn_ ?_
     refine awp_seq ?_
     refine awp_cut (ι := Bool) (fun (x91_3 : Bool) => mk [(1, .ptr 0 0), (91, .val (.bool x91_3))] [(0, .box (api_Certificate.dv c) 85)] 1) (fun (x91_3 : Bool) => g_ref03_Check.j3 c x91_3 = some r) ?_ ?_
     ·refine awp_region (sys _ _ []) 1 193 mk_U rfl rfl ?_
      refine go_ ?_
      rcases bc_ hg with ⟨h28, hg⟩ | ⟨h28, hg⟩
      ·refine go_ ?_
       refine ch_n fun hU => ?_
       exact ⟨true, hg, sub_ [(0, 0)]⟩
      ·refine go_ ?_
       rcases bc_ hg with ⟨h30, hg⟩ | ⟨h30, hg⟩
       ·refine go_ ?_
        refine ch_n fun hU => ?_
        exact ⟨true, hg, sub_ [(0, 0)]⟩
       ·refine go_ ?_
        rcases bc_ hg with ⟨h32, hg⟩ | ⟨h32, hg⟩
        ·refine go_ ?_
         rcases bc_ hg with ⟨h33, hg⟩ | ⟨h33, hg⟩
         ·refine go_ ?_
          refine ch_n fun hU => ?_
          exact ⟨true, hg, sub_ [(0, 0)]⟩
         ·refine go_ ?_
          refine ch_n fun hU => ?_
          exact ⟨decide (8 < (c.Names.length : Int)), hg, sub_ [(0, 0)]⟩
        ·refine go_ ?_
         refine ch_n fun hU => ?_
         exact ⟨decide (8 < (c.Names.length : Int)), hg, sub_ [(0, 0)]⟩
     ·rintro x91_3 hg
      replace hg : g_ref03_Check.j3 c x91_3 = some r := hg
      show awp _ _ _ _ (mk _ _ _)
      unfold g_ref03_Check.j3 at hg
      refine cg_ rfl hg (fun h37 hg => ?_) fun h37 hg => ?_
      ·refine awp_seq ?_
       refine awp_region (sys _ _ []) 1 9 mk_U rfl rfl ?_
       refine go_ ?_
       refine ch_n fun hU => ?_
       refine aw_r ?_
       obtain rfl := Option.some.inj hg
       exact fin_ [] ⟨rfl, rfl⟩
      ·refine awp_skip ?_
       repeat first | refine st_ ?_ | refine sn_ ?_
       refine awp_seq ?_
       refine sr_ 1 9 mk_U ?_
       refine go_ ?_
       refine ch_n fun hU => ?_
       refine awp_block ?_
       refine lp_ (fun (i_4 : Int) => mk [(1, .ptr 0 0), (3, .val (.int .i64 i_4))] [(0, .box (api_Certificate.dv c) 85)] 1) hg (sub_ [(0, 0)]) ?_
       rintro i_4 m4 o4 hg hn4
       replace hg : g_ref03_Check.l4 c i_4 = some o4 := hg
       show awp _ _ _ _ (mk _ _ _)
       unfold g_ref03_Check.l4 at hg
       refine awp_seq ?_
       refine sr_ 1 41 mk_U ?_
       refine go_ ?_
       refine ch_n fun hU => ?_
       refine cg_ rfl hg (fun h41 hg => ?_) fun h41 hg => ?_
       ·refine awp_skip ?_
        repeat first | refine st_ ?_ | refine sn_ ?_
        refine awp_seq ?_
        refine awp_block ?_
        refine awp_cut (ι := Bool) (fun (x123_5 : Bool) => mk [(1, .ptr 0 0), (3, .val (.int .i64 i_4)), (123, .val (.bool x123_5))] [(0, .box (api_Certificate.dv c) 85)] 1) (fun (x123_5 : Bool) => g_ref03_Check.j5 i_4 x123_5 = some o4) ?_ ?_
        ·refine awp_draw (sys _ _ []) (by kernel_rfl) [0, 1, 0, 7, 15, 31, 63, 127, 255, 511, 1023, 2047, 4095, 2047, 10239, 32767, 65535, 2047, 133119, 2047, 919551, 1968127, 4194303, 8388607, 16777215] 41 241 hU rfl rfl (by kernel_rfl) ?_
         refine go_ ?_
         obtain ⟨e, he, hg⟩ := bind_some hg
         refine go_ ?_
         refine c0_ rfl rfl (r_loadE1 ty9 (enc_cell eS_len (getI_at he) (o := 0) (c := .str e) rfl rfl)) rfl rfl ?_
         obtain ⟨y_6, hy_6, hg⟩ := bind_some hg
         refine ca_ (w_ref03_Name _ _ hy_6) ?_
         refine go_ ?_
         rcases bc_ hg with ⟨h42, hg⟩ | ⟨h42, hg⟩
         ·refine go_ ?_
          refine ch_n fun hU => ?_
          exact ⟨true, hg, sub_ [(0, 0)]⟩
         ·refine go_ ?_
          rcases bc_ hg with ⟨h44, hg⟩ | ⟨h44, hg⟩
          ·refine go_ ?_
           obtain ⟨e_2, he_2, hg⟩ := bind_some hg
           refine go_ ?_
           refine c0_ (gdv_t rfl rfl h44) rfl (r_loadE1 ty9 (enc_cell eS_len (getI_at he_2) (o := 0) (c := .str e_2) rfl rfl)) rfl rfl ?_
           refine go_ ?_
           refine c0_ (gdv_t rfl rfl h44) rfl (r_loadE1 ty9 (enc_cell eS_len (getI_at he) (o := 0) (c := .str e) rfl rfl)) rfl rfl ?_
           refine c0_ (gdv_t rfl rfl h44) rfl r_sgeq rfl rfl ?_
           refine go_ ?_
           refine ch_n fun hU => ?_
           exact ⟨!ltT (toB e_2) (toB e), hg, sub_ [(0, 0)]⟩
          ·refine go_ ?_
           refine ch_n fun hU => ?_
           exact ⟨false, hg, sub_ [(0, 0)]⟩
        ·rintro x123_5 hg
         replace hg : g_ref03_Check.j5 i_4 x123_5 = some o4 := hg
         show awp _ _ _ _ (mk _ _ _)
         unfold g_ref03_Check.j5 at hg
         refine cg_ rfl hg (fun h47 hg => ?_) fun h47 hg => ?_
         ·refine awp_seq ?_
          refine awp_region (sys _ _ []) 1 9 mk_U rfl rfl ?_
          refine go_ ?_
          refine ch_n fun hU => ?_
          refine aw_r ?_
          replace hg := leave hg hn4
          obtain rfl := Option.some.inj hg
          exact fin_ [] ⟨rfl, rfl⟩
         ·refine awp_skip ?_
          repeat first | refine st_ ?_ | refine sn_ ?_
          refine awp_region (sys _ _ []) 1 25 mk_U rfl rfl ?_
          refine go_ ?_
          refine ch_n fun hU => ?_
          obtain rfl := Option.some.inj hg
          exact ⟨(W (i_4 + 1), m4), Nat.lt_succ_self _, hn4, sub_ [(0, 0)]⟩
       ·refine awp_exit ?_
        repeat first | refine st_ ?_ | refine sn_ ?_
        replace hg := leave hg hn4
        refine awp_seq ?_
        refine awp_cut (ι := Bool) (fun (x145_6 : Bool) => mk [(145, .val (.bool x145_6))] [] 0) (fun (x145_6 : Bool) => g_ref03_Check.j6 x145_6 = some r) ?_ ?_
        ·refine awp_region (sys _ _ []) 41 217 hU rfl rfl ?_
         refine go_ ?_
         rcases bc_ hg with ⟨h50, hg⟩ | ⟨h50, hg⟩
         ·refine go_ ?_
          refine ch_n fun hU => ?_
          exact ⟨true, hg, sub_ []⟩
         ·refine go_ ?_
          rcases bc_ hg with ⟨h52, hg⟩ | ⟨h52, hg⟩
          ·refine go_ ?_
           refine ch_n fun hU => ?_
           exact ⟨true, hg, sub_ []⟩
          ·refine go_ ?_
           rcases bc_ hg with ⟨h54, hg⟩ | ⟨h54, hg⟩
           ·refine go_ ?_
            refine ch_n fun hU => ?_
            exact ⟨true, hg, sub_ []⟩
           ·refine go_ ?_
            refine ch_n fun hU => ?_
            exact ⟨decide (4294967296 ≤ c.Seal.Sum), hg, sub_ []⟩
        ·rintro x145_6 hg
         replace hg : g_ref03_Check.j6 x145_6 = some r := hg
         show awp _ _ _ _ (mk _ _ _)
         unfold g_ref03_Check.j6 at hg
         refine cg_ rfl hg (fun h57 hg => ?_) fun h57 hg => ?_
         ·refine awp_seq ?_
          refine awp_region (sys _ _ []) 0 8 mk_U rfl rfl ?_
          refine go_ ?_
          refine ch_n fun hU => ?_
          refine aw_r ?_
          obtain rfl := Option.some.inj hg
          exact fin_ [] ⟨rfl, rfl⟩
         ·refine awp_skip ?_
          repeat first | refine st_ ?_ | refine sn_ ?_
          refine sr_ 0 8 mk_U ?_
          refine go_ ?_
          refine ch_n fun hU => ?_
          refine aw_r ?_
          obtain rfl := Option.some.inj hg
          exact fin_ [] ⟨rfl, rfl⟩
theorem w_ref01_Text (s : ByteArray) (r : api_Value) (hg : g_ref01_Text s = some r) : Fn Tryz.prog 113 0 [.val (.string s)] [] (fun d' b' => d' = .agg (api_Value.dv r) ∧ b' = []) := by
 unfold g_ref01_Text at hg
 refine Fn.of Tryz.func113 rfl rfl rfl fun w0 I ρ0 => ?_
 show awp _ ⟨w0, I, ρ0, 0, 0, 6⟩ _ _ _
 refine sr_ 0 8 mk_U ?_
 refine go_ ?_
 refine ch_n fun hU => ?_
 refine sr_ 8 40 hU ?_
 refine go_ ?_
 refine c0_ rfl rfl (r_convB und9 und110 und5) rfl rfl ?_
 refine c0_ rfl rfl (.build (r := [.val (.int .i64 12), .sl 1 (encL e8 (toB s)), .val (.bool false), .val (.slice none 0 0)]) und138 pl138 z138 (by kernel_rfl) rfl) rfl rfl ?_
 refine go_ ?_
 refine ch_n fun hU => ?_
 refine aw_r ?_
 obtain rfl := Option.some.inj hg
 exact fin_ [] ⟨rfl, rfl⟩
theorem w_ref01_Int (n : Int) (r : api_Value) (hg : g_ref01_Int n = some r) : Fn Tryz.prog 115 0 [.val (.int .i64 n)] [] (fun d' b' => d' = .agg (api_Value.dv r) ∧ b' = []) := by
 unfold g_ref01_Int at hg
 refine Fn.of Tryz.func115 rfl rfl rfl fun w0 I ρ0 => ?_
 show awp _ ⟨w0, I, ρ0, 0, 0, 45⟩ _ _ _
 refine sr_ 0 8 mk_U ?_
 refine go_ ?_
 refine ch_n fun hU => ?_
 refine sr_ 8 40 hU ?_
 refine go_ ?_
 refine c0_ rfl rfl (r_conv_u8 und3 und5) rfl rfl ?_
 refine c0_ rfl rfl (r_buildFull sl110 z5 (by decide) rfl rfl rfl rfl ck5 (cs := [.int .u8 ((u8 n).toNat : Int)]) (.cons .int .nil) rfl (l := ([(u8 n)] : List UInt8)) (f := e8) rfl) rfl rfl ?_
 refine go_ ?_
 refine ch_n fun hU => ?_
 refine awp_seq ?_
 refine sr_ 40 64 hU ?_
 refine go_ ?_
 obtain ⟨q, hq, hg⟩ := bind_some hg
 refine c0_ rfl rfl (r_shrK hq) rfl rfl ?_
 refine go_ ?_
 refine ch_n fun hU => ?_
 refine awp_block ?_
 refine lp_ (fun ((x_1, b_1) : Int × List UInt8) => mk [(2, .ptr 0 0), (3, .row 1), (4, .val (.int .i64 x_1))] [(0, .box [.val (.int .i64 0), .val (.slice none 0 0), .val (.bool false), .val (.slice none 0 0)] 138), (1, .row 5 1 (encL e8 b_1))] 2) hg (sub_ [(0, 0), (1, 24)]) ?_
 rintro ⟨x_1, b_1⟩ m1 o1 hg hn1
 replace hg : g_ref01_Int.l1 x_1 b_1 = some o1 := hg
 show awp _ _ _ _ (mk _ _ _)
 unfold g_ref01_Int.l1 at hg
 refine awp_seq ?_
 refine awp_cut (ι := Bool) (fun (x35_2 : Bool) => mk [(2, .ptr 0 0), (3, .row 1), (4, .val (.int .i64 x_1)), (35, .val (.bool x35_2))] [(0, .box [.val (.int .i64 0), .val (.slice none 0 0), .val (.bool false), .val (.slice none 0 0)] 138), (1, .row 5 1 (encL e8 b_1))] 2) (fun (x35_2 : Bool) => g_ref01_Int.j2 x_1 b_1 x35_2 = some o1) ?_ ?_
 ·refine awp_region (sys _ _ []) 2 210 mk_U rfl rfl ?_
  refine go_ ?_
  rcases bc_ hg with ⟨h4, hg⟩ | ⟨h4, hg⟩
  ·refine go_ ?_
   rcases bc_ hg with ⟨h5, hg⟩ | ⟨h5, hg⟩
   ·refine go_ ?_
    refine ch_n fun hU => ?_
    exact ⟨true, hg, sub_ [(0, 0), (1, 1)]⟩
   ·refine go_ ?_
    rcases bc_ hg with ⟨h7, hg⟩ | ⟨h7, hg⟩
    ·refine go_ ?_
     obtain ⟨e, he, hg⟩ := bind_some hg
     refine go_ ?_
     refine ch_s (rd := [1]) (gdv_t rfl rfl h7) rfl (.loadR1 ty5 (enc_cell e8_len (getI_at he) (o := 0) (c := .int .u8 (e.toNat : Int)) rfl rfl)) rfl rfl ?_
     refine go_ ?_
     rcases bc_ hg with ⟨h8, hg⟩ | ⟨h8, hg⟩
     ·refine go_ ?_
      refine ch_n fun hU => ?_
      exact ⟨true, hg, sub_ [(0, 0), (1, 1)]⟩
     ·refine go_ ?_
      rcases bc_ hg with ⟨h10, hg⟩ | ⟨h10, hg⟩
      ·refine go_ ?_
       refine ch_s (rd := [1]) (gdv_t rfl rfl h10) rfl (.loadR1 ty5 (enc_cell e8_len (getI_at he) (o := 0) (c := .int .u8 (e.toNat : Int)) rfl rfl)) rfl rfl ?_
       refine go_ ?_
       refine ch_n fun hU => ?_
       exact ⟨decide ((e.toNat : Int) < 128), hg, sub_ [(0, 0), (1, 1)]⟩
      ·refine go_ ?_
       refine ch_n fun hU => ?_
       exact ⟨false, hg, sub_ [(0, 0), (1, 1)]⟩
    ·refine go_ ?_
     rcases bc_ hg with ⟨h13, hg⟩ | ⟨h13, hg⟩
     ·refine go_ ?_
      obtain ⟨e_2, he_2, hg⟩ := bind_some hg
      refine go_ ?_
      refine ch_s (rd := [1]) (gdv_t rfl rfl h13) rfl (.loadR1 ty5 (enc_cell e8_len (getI_at he_2) (o := 0) (c := .int .u8 (e_2.toNat : Int)) rfl rfl)) rfl rfl ?_
      refine go_ ?_
      refine ch_n fun hU => ?_
      exact ⟨decide ((e_2.toNat : Int) < 128), hg, sub_ [(0, 0), (1, 1)]⟩
     ·refine go_ ?_
      refine ch_n fun hU => ?_
      exact ⟨false, hg, sub_ [(0, 0), (1, 1)]⟩
  ·refine go_ ?_
   rcases bc_ hg with ⟨h16, hg⟩ | ⟨h16, hg⟩
   ·refine go_ ?_
    obtain ⟨e_3, he_3, hg⟩ := bind_some hg
    refine go_ ?_
    refine ch_s (rd := [1]) (gdv_t rfl rfl h16) rfl (.loadR1 ty5 (enc_cell e8_len (getI_at he_3) (o := 0) (c := .int .u8 (e_3.toNat : Int)) rfl rfl)) rfl rfl ?_
    refine go_ ?_
    rcases bc_ hg with ⟨h17, hg⟩ | ⟨h17, hg⟩
    ·refine go_ ?_
     refine ch_n fun hU => ?_
     exact ⟨true, hg, sub_ [(0, 0), (1, 1)]⟩
    ·refine go_ ?_
     rcases bc_ hg with ⟨h19, hg⟩ | ⟨h19, hg⟩
     ·refine go_ ?_
      refine ch_s (rd := [1]) (gdv_t rfl rfl h19) rfl (.loadR1 ty5 (enc_cell e8_len (getI_at he_3) (o := 0) (c := .int .u8 (e_3.toNat : Int)) rfl rfl)) rfl rfl ?_
      refine go_ ?_
      refine ch_n fun hU => ?_
      exact ⟨decide ((e_3.toNat : Int) < 128), hg, sub_ [(0, 0), (1, 1)]⟩
     ·refine go_ ?_
      refine ch_n fun hU => ?_
      exact ⟨false, hg, sub_ [(0, 0), (1, 1)]⟩
   ·refine go_ ?_
    rcases bc_ hg with ⟨h22, hg⟩ | ⟨h22, hg⟩
    ·refine go_ ?_
     obtain ⟨e_4, he_4, hg⟩ := bind_some hg
     refine go_ ?_
     refine ch_s (rd := [1]) (gdv_t rfl rfl h22) rfl (.loadR1 ty5 (enc_cell e8_len (getI_at he_4) (o := 0) (c := .int .u8 (e_4.toNat : Int)) rfl rfl)) rfl rfl ?_
     refine go_ ?_
     refine ch_n fun hU => ?_
     exact ⟨decide ((e_4.toNat : Int) < 128), hg, sub_ [(0, 0), (1, 1)]⟩
    ·refine go_ ?_
     refine ch_n fun hU => ?_
     exact ⟨false, hg, sub_ [(0, 0), (1, 1)]⟩
 ·rintro x35_2 hg
  replace hg : g_ref01_Int.j2 x_1 b_1 x35_2 = some o1 := hg
  show awp _ _ _ _ (mk _ _ _)
  unfold g_ref01_Int.j2 at hg
  refine cg_ rfl hg (fun h25 hg => ?_) fun h25 hg => ?_
  ·refine awp_skip ?_
   repeat first | refine st_ ?_ | refine sn_ ?_
   refine awp_seq ?_
   refine awp_block ?_
   refine awp_region (sys _ _ []) 2 50 mk_U rfl rfl ?_
   refine go_ ?_
   refine c0_ rfl rfl (r_conv_u8 und3 und5) rfl rfl ?_
   refine c0_ rfl rfl (r_buildFull sl110 z5 (by decide) rfl rfl rfl rfl ck5 (cs := [.int .u8 ((u8 x_1).toNat : Int)]) (.cons .int .nil) rfl (l := ([(u8 x_1)] : List UInt8)) (f := e8) rfl) rfl rfl ?_
   refine go_ ?_
   obtain ⟨l, hl, hg⟩ := bind_some hg
   refine ch_s (rd := [18, 1]) rfl rfl (r_append sl110 e8_len .row rfl .row rfl hl rfl) rfl rfl ?_
   refine go_ ?_
   refine ch_n fun hU => ?_
   refine awp_region (sys _ _ []) 50 74 hU rfl rfl ?_
   refine go_ ?_
   obtain ⟨q_2, hq_2, hg⟩ := bind_some hg
   refine c0_ rfl rfl (r_shrK hq_2) rfl rfl ?_
   refine go_ ?_
   refine ch_n fun hU => ?_
   obtain rfl := Option.some.inj hg
   exact ⟨((q_2, l), m1), Nat.lt_succ_self _, hn1, sub_ [(0, 0), (1, 34)]⟩
  ·refine awp_exit ?_
   repeat first | refine st_ ?_ | refine sn_ ?_
   replace hg := leave hg hn1
   refine sr_ 2 26 mk_U ?_
   refine go_ ?_
   refine c0_ rfl rfl (.build (r := [.val (.int .i64 2), .row 1, .val (.bool false), .val (.slice none 0 0)]) und138 pl138 z138 (by kernel_rfl) rfl) rfl rfl ?_
   refine go_ ?_
   refine ch_n fun hU => ?_
   refine aw_r ?_
   obtain rfl := Option.some.inj hg
   exact fin_ [] ⟨rfl, rfl⟩
end Go.Proofs.YtkpcbnnlefcebaaGreat
