/- The program computes the plain functions. -/
import Derived.Test.YtkpcbnnlefcebaaGreatT1
set_option linter.unusedVariables false
set_option linter.unusedSimpArgs false
set_option maxRecDepth 100000
set_option maxHeartbeats 1600000
namespace Go.Proofs.YtkpcbnnlefcebaaGreat
open Go.RowKit
theorem w_make_Light (l : (List Int)) (r : Bool) (hg : g_make_Light l = some r) : Fn Tryz.prog 6 0 [.sl 1 (encL eI l)] [] (fun d' b' => d' = .val (.bool r) ∧ b' = []) := by
 unfold g_make_Light at hg
 refine Fn.of Tryz.func6 rfl rfl rfl fun w0 I ρ0 => ?_
 show awp _ ⟨w0, I, ρ0, 0, 0, 6⟩ _ _ _
 refine sr_ 0 8 mk_U ?_
 refine go_ ?_
 refine ch_n fun hU => ?_
 refine sr_ 8 40 hU ?_
 refine go_ ?_
 refine ch_n fun hU => ?_
 refine aw_r ?_
 obtain rfl := Option.some.inj hg
 exact fin_ [] ⟨rfl, rfl⟩
theorem w_need_Rank (e : api_Endpoint) (c : api_Change) (r : Int) (hg : g_need_Rank e c = some r) : Fn Tryz.prog 16 0 [.agg (api_Endpoint.dv e), .agg (api_Change.dv c)] [] (fun d' b' => d' = .val (.int .i64 r) ∧ b' = []) := by
 unfold g_need_Rank at hg
 refine Fn.of Tryz.func16 rfl rfl rfl fun w0 I ρ0 => ?_
 show awp _ ⟨w0, I, ρ0, 0, 0, 36⟩ _ _ _
 refine sr_ 0 24 mk_U ?_
 refine go_ ?_
 refine ch_n fun hU => ?_
 refine sr_ 24 32 hU ?_
 refine go_ ?_
 refine ch_n fun hU => ?_
 refine awp_cut (ι := Bool) (fun (more_3 : Bool) => mk [(5, .val (.bool more_3))] [] 0) (fun (more_3 : Bool) => g_need_Rank.j3 more_3 = some r) ?_ ?_
 ·refine awp_seq ?_
  refine awp_region (sys _ _ []) 32 48 hU rfl rfl ?_
  refine go_ ?_
  refine ch_n fun hU => ?_
  refine awp_block ?_
  refine awp_cut (ι := Bool) (fun (x8_1 : Bool) => mk [(2, .ptr 0 0), (3, .ptr 1 0), (5, .val (.bool false)), (7, .val (.int .i64 c.Kind)), (8, .val (.bool x8_1))] [(0, .box (api_Endpoint.dv e) 37), (1, .box (api_Change.dv c) 44)] 2) (fun (x8_1 : Bool) => g_need_Rank.j1 e c x8_1 = some r) ?_ ?_
  ·refine awp_seq ?_
   refine awp_region (sys _ _ []) 48 64 hU rfl rfl ?_
   refine go_ ?_
   refine ch_n fun hU => ?_
   refine cg_ rfl hg (fun h5 hg => ?_) fun h5 hg => ?_
   ·refine awp_skip ?_
    repeat first | refine st_ ?_ | refine sn_ ?_
    exact ⟨decide (c.Kind = 7), hg, sub_ [(0, 0), (1, 8)]⟩
   ·refine awp_region (sys _ _ []) 64 80 hU rfl rfl ?_
    refine go_ ?_
    refine ch_n fun hU => ?_
    exact ⟨decide (c.Kind = 9), hg, sub_ [(0, 0), (1, 8)]⟩
  ·rintro x8_1 hg
   replace hg : g_need_Rank.j1 e c x8_1 = some r := hg
   show awp _ _ _ _ (mk _ _ _)
   unfold g_need_Rank.j1 at hg
   refine cg_ rfl hg (fun h7 hg => ?_) fun h7 hg => ?_
   ·refine awp_seq ?_
    refine awp_region (sys _ _ []) 2 10 mk_U rfl rfl ?_
    refine go_ ?_
    refine ch_n fun hU => ?_
    refine aw_r ?_
    obtain rfl := Option.some.inj hg
    exact fin_ [] ⟨rfl, rfl⟩
   ·refine awp_seq ?_
    refine awp_region (sys _ _ []) 2 18 mk_U rfl rfl ?_
    refine go_ ?_
    refine ch_n fun hU => ?_
    refine cg_ rfl hg (fun h10 hg => ?_) fun h10 hg => ?_
    ·refine awp_seq ?_
     refine awp_region (sys _ _ []) 18 26 hU rfl rfl ?_
     refine go_ ?_
     refine ch_n fun hU => ?_
     refine aw_r ?_
     obtain rfl := Option.some.inj hg
     exact fin_ [] ⟨rfl, rfl⟩
    ·refine awp_cut (ι := Bool) (fun (x13_2 : Bool) => mk [(2, .ptr 0 0), (3, .ptr 1 0), (5, .val (.bool false)), (7, .val (.int .i64 c.Kind)), (13, .val (.bool x13_2))] [(0, .box (api_Endpoint.dv e) 37), (1, .box (api_Change.dv c) 44)] 2) (fun (x13_2 : Bool) => g_need_Rank.j2 e c x13_2 = some r) ?_ ?_
     ·refine awp_seq ?_
      refine awp_region (sys _ _ []) 18 34 hU rfl rfl ?_
      refine go_ ?_
      refine ch_n fun hU => ?_
      refine cg_ rfl hg (fun h13 hg => ?_) fun h13 hg => ?_
      ·refine awp_skip ?_
       repeat first | refine st_ ?_ | refine sn_ ?_
       exact ⟨decide (c.Kind = 1), hg, sub_ [(0, 0), (1, 1)]⟩
      ·refine awp_region (sys _ _ []) 34 50 hU rfl rfl ?_
       refine go_ ?_
       refine ch_n fun hU => ?_
       exact ⟨decide (c.Kind = 12), hg, sub_ [(0, 0), (1, 1)]⟩
     ·rintro x13_2 hg
      replace hg : g_need_Rank.j2 e c x13_2 = some r := hg
      show awp _ _ _ _ (mk _ _ _)
      unfold g_need_Rank.j2 at hg
      refine cg_ rfl hg (fun h15 hg => ?_) fun h15 hg => ?_
      ·refine awp_region (sys _ _ []) 2 10 mk_U rfl rfl ?_
       refine go_ ?_
       refine ch_n fun hU => ?_
       exact ⟨true, hg, sub_ []⟩
      ·refine awp_seq ?_
       refine awp_region (sys _ _ []) 2 18 mk_U rfl rfl ?_
       refine go_ ?_
       refine ch_n fun hU => ?_
       refine cg_ rfl hg (fun h18 hg => ?_) fun h18 hg => ?_
       ·refine awp_region (sys _ _ []) 18 66 hU rfl rfl ?_
        refine go_ ?_
        refine ch_n fun hU => ?_
        exact ⟨decide (e.Most < c.Number), hg, sub_ []⟩
       ·refine awp_seq ?_
        refine awp_region (sys _ _ []) 18 34 hU rfl rfl ?_
        refine go_ ?_
        refine ch_n fun hU => ?_
        refine cg_ rfl hg (fun h21 hg => ?_) fun h21 hg => ?_
        ·refine awp_region (sys _ _ []) 34 82 hU rfl rfl ?_
         refine go_ ?_
         refine ch_n fun hU => ?_
         exact ⟨decide (c.Number < e.Least), hg, sub_ []⟩
        ·refine awp_seq ?_
         refine awp_region (sys _ _ []) 34 50 hU rfl rfl ?_
         refine go_ ?_
         refine ch_n fun hU => ?_
         refine cg_ rfl hg (fun h24 hg => ?_) fun h24 hg => ?_
         ·refine awp_region (sys _ _ []) 50 82 hU rfl rfl ?_
          refine go_ ?_
          refine ch_n fun hU => ?_
          exact ⟨decide (c.Number = 1), hg, sub_ []⟩
         ·refine awp_skip ?_
          repeat first | refine st_ ?_ | refine sn_ ?_
          exact ⟨false, hg, sub_ []⟩
 ·rintro more_3 hg
  replace hg : g_need_Rank.j3 more_3 = some r := hg
  show awp _ _ _ _ (mk _ _ _)
  unfold g_need_Rank.j3 at hg
  refine awp_seq ?_
  refine sr_ 0 8 mk_U ?_
  refine go_ ?_
  refine ch_n fun hU => ?_
  refine cg_ rfl hg (fun h27 hg => ?_) fun h27 hg => ?_
  ·refine awp_seq ?_
   refine awp_region (sys _ _ []) 8 16 hU rfl rfl ?_
   refine go_ ?_
   refine ch_n fun hU => ?_
   refine aw_r ?_
   obtain rfl := Option.some.inj hg
   exact fin_ [] ⟨rfl, rfl⟩
  ·refine awp_skip ?_
   repeat first | refine st_ ?_ | refine sn_ ?_
   refine sr_ 8 16 hU ?_
   refine go_ ?_
   refine ch_n fun hU => ?_
   refine aw_r ?_
   obtain rfl := Option.some.inj hg
   exact fin_ [] ⟨rfl, rfl⟩
theorem w_math_bits_Len64 (x' : Int) (r : Int) (hg : g_math_bits_Len64 x' = some r) : Fn Tryz.prog 134 0 [.val (.int .u64 x')] [] (fun d' b' => d' = .val (.int .i64 r) ∧ b' = []) := by
 unfold g_math_bits_Len64 at hg
 refine Fn.of Tryz.func134 rfl rfl rfl fun w0 I ρ0 => ?_
 show awp _ ⟨w0, I, ρ0, 0, 0, 25⟩ _ _ _
 refine sr_ 0 8 mk_U ?_
 refine go_ ?_
 refine ch_n fun hU => ?_
 refine awp_cut (ι := Int × Int) (fun ((x_1, n_1) : Int × Int) => mk [(0, .val (.int .u64 x_1)), (2, .val (.int .i64 n_1))] [] 0) (fun ((x_1, n_1) : Int × Int) => g_math_bits_Len64.j1 x_1 n_1 = some r) ?_ ?_
 ·refine awp_seq ?_
  refine awp_region (sys _ _ []) 8 24 hU rfl rfl ?_
  refine go_ ?_
  refine ch_n fun hU => ?_
  refine cg_ rfl hg (fun h3 hg => ?_) fun h3 hg => ?_
  ·refine awp_seq ?_
   refine awp_region (sys _ _ []) 24 48 hU rfl rfl ?_
   refine go_ ?_
   obtain ⟨q, hq, hg⟩ := bind_some hg
   refine c0_ rfl rfl (r_shrK hq) rfl rfl ?_
   refine go_ ?_
   refine ch_n fun hU => ?_
   refine awp_region (sys _ _ []) 48 56 hU rfl rfl ?_
   refine go_ ?_
   refine ch_n fun hU => ?_
   exact ⟨(q, 32), hg, sub_ []⟩
  ·refine awp_skip ?_
   repeat first | refine st_ ?_ | refine sn_ ?_
   exact ⟨(x', 0), hg, sub_ []⟩
 ·rintro ⟨x_1, n_1⟩ hg
  replace hg : g_math_bits_Len64.j1 x_1 n_1 = some r := hg
  show awp _ _ _ _ (mk _ _ _)
  unfold g_math_bits_Len64.j1 at hg
  refine awp_cut (ι := Int × Int) (fun ((x_2, n_2) : Int × Int) => mk [(0, .val (.int .u64 x_2)), (2, .val (.int .i64 n_2))] [] 0) (fun ((x_2, n_2) : Int × Int) => g_math_bits_Len64.j2 x_2 n_2 = some r) ?_ ?_
  ·refine awp_seq ?_
   refine awp_region (sys _ _ []) 0 16 mk_U rfl rfl ?_
   refine go_ ?_
   refine ch_n fun hU => ?_
   refine cg_ rfl hg (fun h7 hg => ?_) fun h7 hg => ?_
   ·refine awp_seq ?_
    refine awp_region (sys _ _ []) 16 40 hU rfl rfl ?_
    refine go_ ?_
    obtain ⟨q_2, hq_2, hg⟩ := bind_some hg
    refine c0_ rfl rfl (r_shrK hq_2) rfl rfl ?_
    refine go_ ?_
    refine ch_n fun hU => ?_
    refine awp_region (sys _ _ []) 40 64 hU rfl rfl ?_
    refine go_ ?_
    refine ch_n fun hU => ?_
    exact ⟨(q_2, W (n_1 + 16)), hg, sub_ []⟩
   ·refine awp_skip ?_
    repeat first | refine st_ ?_ | refine sn_ ?_
    exact ⟨(x_1, n_1), hg, sub_ []⟩
  ·rintro ⟨x_2, n_2⟩ hg
   replace hg : g_math_bits_Len64.j2 x_2 n_2 = some r := hg
   show awp _ _ _ _ (mk _ _ _)
   unfold g_math_bits_Len64.j2 at hg
   refine awp_cut (ι := Int × Int) (fun ((x_3, n_3) : Int × Int) => mk [(0, .val (.int .u64 x_3)), (2, .val (.int .i64 n_3))] [] 0) (fun ((x_3, n_3) : Int × Int) => g_math_bits_Len64.j3 x_3 n_3 = some r) ?_ ?_
   ·refine awp_seq ?_
    refine awp_region (sys _ _ []) 0 16 mk_U rfl rfl ?_
    refine go_ ?_
    refine ch_n fun hU => ?_
    refine cg_ rfl hg (fun h11 hg => ?_) fun h11 hg => ?_
    ·refine awp_seq ?_
     refine awp_region (sys _ _ []) 16 40 hU rfl rfl ?_
     refine go_ ?_
     obtain ⟨q_3, hq_3, hg⟩ := bind_some hg
     refine c0_ rfl rfl (r_shrK hq_3) rfl rfl ?_
     refine go_ ?_
     refine ch_n fun hU => ?_
     refine awp_region (sys _ _ []) 40 64 hU rfl rfl ?_
     refine go_ ?_
     refine ch_n fun hU => ?_
     exact ⟨(q_3, W (n_2 + 8)), hg, sub_ []⟩
    ·refine awp_skip ?_
     repeat first | refine st_ ?_ | refine sn_ ?_
     exact ⟨(x_2, n_2), hg, sub_ []⟩
   ·rintro ⟨x_3, n_3⟩ hg
    replace hg : g_math_bits_Len64.j3 x_3 n_3 = some r := hg
    show awp _ _ _ _ (mk _ _ _)
    unfold g_math_bits_Len64.j3 at hg
    refine sr_ 0 56 mk_U ?_
    refine go_ ?_
    refine c0_ rfl rfl (r_conv_u8 und180 und5) rfl rfl ?_
    obtain ⟨c, hc, hg⟩ := bind_some hg
    refine c0_ rfl rfl (r_idxT und9 hc) rfl rfl ?_
    refine c0_ rfl rfl (r_conv_8i (u := c) und5 und3) rfl rfl ?_
    refine go_ ?_
    refine ch_n fun hU => ?_
    refine aw_r ?_
    obtain rfl := Option.some.inj hg
    exact fin_ [] ⟨rfl, rfl⟩
theorem w_math_bits_Len (x' : Int) (r : Int) (hg : g_math_bits_Len x' = some r) : Fn Tryz.prog 99 0 [.val (.int .u64 x')] [] (fun d' b' => d' = .val (.int .i64 r) ∧ b' = []) := by
 unfold g_math_bits_Len at hg
 refine Fn.of Tryz.func99 rfl rfl rfl fun w0 I ρ0 => ?_
 show awp _ ⟨w0, I, ρ0, 0, 0, 8⟩ _ _ _
 refine sr_ 0 8 mk_U ?_
 refine go_ ?_
 refine ch_n fun hU => ?_
 refine awp_seq ?_
 refine awp_condc (fun h => ?_) (fun h => ?_)
 ·exact absurd h (by decide)
 ·refine awp_skip ?_
  repeat first | refine st_ ?_ | refine sn_ ?_
  refine sr_ 8 32 hU ?_
  refine go_ ?_
  obtain ⟨y, hy, hg⟩ := bind_some hg
  refine ca_ (w_math_bits_Len64 _ _ hy) ?_
  refine go_ ?_
  refine ch_n fun hU => ?_
  refine aw_r ?_
  obtain rfl := Option.some.inj hg
  exact fin_ [] ⟨rfl, rfl⟩
theorem w_cmp_isNaN_int (x' : Int) (r : Bool) (hg : g_cmp_isNaN_int x' = some r) : Fn Tryz.prog 135 0 [.val (.int .i64 x')] [] (fun d' b' => d' = .val (.bool r) ∧ b' = []) := by
 unfold g_cmp_isNaN_int at hg
 refine Fn.of Tryz.func135 rfl rfl rfl fun w0 I ρ0 => ?_
 show awp _ ⟨w0, I, ρ0, 0, 0, 6⟩ _ _ _
 refine sr_ 0 8 mk_U ?_
 refine go_ ?_
 refine ch_n fun hU => ?_
 refine sr_ 8 40 hU ?_
 refine go_ ?_
 refine ch_n fun hU => ?_
 refine aw_r ?_
 obtain rfl := Option.some.inj hg
 exact fin_ [] ⟨rfl, rfl⟩
theorem w_cmp_Compare_int (x' : Int) (y : Int) (r : Int) (hg : g_cmp_Compare_int x' y = some r) : Fn Tryz.prog 101 0 [.val (.int .i64 x'), .val (.int .i64 y)] [] (fun d' b' => d' = .val (.int .i64 r) ∧ b' = []) := by
 unfold g_cmp_Compare_int at hg
 refine Fn.of Tryz.func101 rfl rfl rfl fun w0 I ρ0 => ?_
 show awp _ ⟨w0, I, ρ0, 0, 0, 20⟩ _ _ _
 refine sr_ 0 8 mk_U ?_
 refine go_ ?_
 refine ch_n fun hU => ?_
 refine sr_ 8 32 hU ?_
 refine go_ ?_
 obtain ⟨y_2, hy_2, hg⟩ := bind_some hg
 refine ca_ (w_cmp_isNaN_int _ _ hy_2) ?_
 refine go_ ?_
 refine ch_n fun hU => ?_
 refine sr_ 32 56 hU ?_
 refine go_ ?_
 obtain ⟨y_3, hy_3, hg⟩ := bind_some hg
 refine ca_ (w_cmp_isNaN_int _ _ hy_3) ?_
 refine go_ ?_
 refine ch_n fun hU => ?_
 refine awp_seq ?_
 refine sr_ 56 64 hU ?_
 refine go_ ?_
 refine ch_n fun hU => ?_
 refine cg_ rfl hg (fun h5 hg => ?_) fun h5 hg => ?_
 ·refine awp_seq ?_
  refine sr_ 64 72 hU ?_
  refine go_ ?_
  refine ch_n fun hU => ?_
  refine cg_ rfl hg (fun h7 hg => ?_) fun h7 hg => ?_
  ·refine awp_seq ?_
   refine awp_region (sys _ _ []) 72 80 hU rfl rfl ?_
   refine go_ ?_
   refine ch_n fun hU => ?_
   refine aw_r ?_
   obtain rfl := Option.some.inj hg
   exact fin_ [] ⟨rfl, rfl⟩
  ·refine awp_skip ?_
   repeat first | refine st_ ?_ | refine sn_ ?_
   refine sr_ 72 80 hU ?_
   refine go_ ?_
   refine ch_n fun hU => ?_
   refine aw_r ?_
   obtain rfl := Option.some.inj hg
   exact fin_ [] ⟨rfl, rfl⟩
 ·refine awp_skip ?_
  repeat first | refine st_ ?_ | refine sn_ ?_
  refine awp_seq ?_
  refine sr_ 64 72 hU ?_
  refine go_ ?_
  refine ch_n fun hU => ?_
  refine cg_ rfl hg (fun h11 hg => ?_) fun h11 hg => ?_
  ·refine awp_seq ?_
   refine awp_region (sys _ _ []) 72 80 hU rfl rfl ?_
   refine go_ ?_
   refine ch_n fun hU => ?_
   refine aw_r ?_
   obtain rfl := Option.some.inj hg
   exact fin_ [] ⟨rfl, rfl⟩
  ·refine awp_skip ?_
   repeat first | refine st_ ?_ | refine sn_ ?_
   refine awp_seq ?_
   refine sr_ 72 96 hU ?_
   refine go_ ?_
   refine ch_n fun hU => ?_
   refine cg_ rfl hg (fun h14 hg => ?_) fun h14 hg => ?_
   ·refine awp_seq ?_
    refine awp_region (sys _ _ []) 96 104 hU rfl rfl ?_
    refine go_ ?_
    refine ch_n fun hU => ?_
    refine aw_r ?_
    obtain rfl := Option.some.inj hg
    exact fin_ [] ⟨rfl, rfl⟩
   ·refine awp_skip ?_
    repeat first | refine st_ ?_ | refine sn_ ?_
    refine awp_seq ?_
    refine sr_ 96 120 hU ?_
    refine go_ ?_
    refine ch_n fun hU => ?_
    refine cg_ rfl hg (fun h17 hg => ?_) fun h17 hg => ?_
    ·refine awp_seq ?_
     refine awp_region (sys _ _ []) 120 128 hU rfl rfl ?_
     refine go_ ?_
     refine ch_n fun hU => ?_
     refine aw_r ?_
     obtain rfl := Option.some.inj hg
     exact fin_ [] ⟨rfl, rfl⟩
    ·refine awp_skip ?_
     repeat first | refine st_ ?_ | refine sn_ ?_
     refine sr_ 120 128 hU ?_
     refine go_ ?_
     refine ch_n fun hU => ?_
     refine aw_r ?_
     obtain rfl := Option.some.inj hg
     exact fin_ [] ⟨rfl, rfl⟩
theorem w_cmp_Or_int (vals : (List Int)) (r : Int) (hg : g_cmp_Or_int vals = some r) : Fn Tryz.prog 100 0 [.sl 1 (encL eI vals)] [] (fun d' b' => d' = .val (.int .i64 r) ∧ b' = []) := by
 unfold g_cmp_Or_int at hg
 refine Fn.of Tryz.func100 rfl rfl rfl fun w0 I ρ0 => ?_
 show awp _ ⟨w0, I, ρ0, 0, 0, 18⟩ _ _ _
 refine sr_ 0 8 mk_U ?_
 refine go_ ?_
 refine ch_n fun hU => ?_
 refine sr_ 8 16 hU ?_
 refine go_ ?_
 refine ch_n fun hU => ?_
 refine awp_seq ?_
 refine sr_ 16 40 hU ?_
 refine go_ ?_
 refine ch_n fun hU => ?_
 refine awp_block ?_
 refine lp_ (fun (x8_1 : Int) => mk [(3, .val (.int .i64 0)), (6, .sl 1 (encL eI vals)), (7, .val (.int .i64 (vals.length : Int))), (8, .val (.int .i64 x8_1))] [] 0) hg (sub_ []) ?_
 rintro x8_1 m1 o1 hg hn1
 replace hg : g_cmp_Or_int.l1 vals x8_1 = some o1 := hg
 show awp _ _ _ _ (mk _ _ _)
 unfold g_cmp_Or_int.l1 at hg
 refine sr_ 0 8 mk_U ?_
 refine go_ ?_
 refine ch_n fun hU => ?_
 refine awp_seq ?_
 refine cg_ rfl hg (fun h5 hg => ?_) fun h5 hg => ?_
 ·refine awp_skip ?_
  repeat first | refine st_ ?_ | refine sn_ ?_
  refine awp_seq ?_
  refine awp_block ?_
  refine sr_ 8 32 hU ?_
  obtain ⟨e, he, hg⟩ := bind_some hg
  refine go_ ?_
  refine c0_ rfl rfl (r_loadE1 ty3 (enc_cell eI_len (getI_at he) (o := 0) (c := .int .i64 e) rfl rfl)) rfl rfl ?_
  refine go_ ?_
  refine ch_n fun hU => ?_
  refine sr_ 32 56 hU ?_
  refine go_ ?_
  refine ch_n fun hU => ?_
  refine cg_ rfl hg (fun h8 hg => ?_) fun h8 hg => ?_
  ·refine awp_seq ?_
   refine awp_region (sys _ _ []) 56 72 hU rfl rfl ?_
   refine go_ ?_
   refine ch_n fun hU => ?_
   refine aw_r ?_
   replace hg := leave hg hn1
   obtain rfl := Option.some.inj hg
   exact fin_ [] ⟨rfl, rfl⟩
  ·refine awp_skip ?_
   repeat first | refine st_ ?_ | refine sn_ ?_
   refine awp_region (sys _ _ []) 56 72 hU rfl rfl ?_
   refine go_ ?_
   refine ch_n fun hU => ?_
   obtain rfl := Option.some.inj hg
   exact ⟨(W (x8_1 + 1), m1), Nat.lt_succ_self _, hn1, sub_ []⟩
 ·refine awp_exit ?_
  repeat first | refine st_ ?_ | refine sn_ ?_
  replace hg := leave hg hn1
  refine sr_ 8 24 hU ?_
  refine go_ ?_
  refine ch_n fun hU => ?_
  refine aw_r ?_
  obtain rfl := Option.some.inj hg
  exact fin_ [] ⟨rfl, rfl⟩
theorem w_need_required_compare (r' : need_required) (s : need_required) (r : Int) (hg : g_need_required_compare r' s = some r) : Fn Tryz.prog 69 0 [.agg [.val (.int .i64 r'.First), .val (.int .i64 r'.Then)], .agg [.val (.int .i64 s.First), .val (.int .i64 s.Then)]] [] (fun d' b' => d' = .val (.int .i64 r) ∧ b' = []) := by
 unfold g_need_required_compare at hg
 refine Fn.of Tryz.func69 rfl rfl rfl fun w0 I ρ0 => ?_
 show awp _ ⟨w0, I, ρ0, 0, 0, 17⟩ _ _ _
 refine sr_ 0 24 mk_U ?_
 refine go_ ?_
 refine ch_n fun hU => ?_
 refine awp_seq ?_
 refine awp_draw (sys _ _ []) (by kernel_rfl) [0, 1, 0, 4, 15, 0, 32, 0, 128, 511, 1023, 2047, 4095] 24 128 hU rfl rfl (by kernel_rfl) ?_
 refine go_ ?_
 obtain ⟨y, hy, hg⟩ := bind_some hg
 refine ca_ (w_cmp_Compare_int _ _ _ hy) ?_
 refine go_ ?_
 obtain ⟨y_2, hy_2, hg⟩ := bind_some hg
 refine ca_ (w_cmp_Compare_int _ _ _ hy_2) ?_
 refine c0_ rfl rfl (r_buildFull sl22 z3 (by decide) rfl rfl rfl rfl ck3 (cs := [.int .i64 y, .int .i64 y_2]) (.cons .int (.cons .int .nil)) rfl (l := ([y, y_2] : List Int)) (f := eI) rfl) rfl rfl ?_
 obtain ⟨y_3, hy_3, hg⟩ := bind_some hg
 refine cb_ [104] [] [] true (w_cmp_Or_int _ _ hy_3) ?_
 refine go_ ?_
 refine ch_n fun hU => ?_
 refine aw_r ?_
 obtain rfl := Option.some.inj hg
 exact fin_ [] ⟨rfl, rfl⟩
theorem w_slices_insertionSortCmpFunc_need_required_clo_69_0_ (data : List need_required) (a : Int) (b : Int) (cmp : need_required → need_required → Option (Int)) (hf_cmp : ∀ (x0 : need_required) (x1 : need_required) (y : Int), cmp x0 x1 = some y → Fn Tryz.prog 69 0 [.agg [.val (.int .i64 x0.First), .val (.int .i64 x0.Then)], .agg [.val (.int .i64 x1.First), .val (.int .i64 x1.Then)]] [] (fun d' b' => d' = .val (.int .i64 y) ∧ b' = [])) (r : (List need_required)) (hg : g_slices_insertionSortCmpFunc_need_required data a b cmp = some r) : Fn Tryz.prog 125 1 [.row 0, .val (.int .i64 a), .val (.int .i64 b), .clo 69 0 []] [.row 122 2 (encL need_required.enc data)] (fun d' b' => d' = .tup [] ∧ b' = [.row 122 2 (encL need_required.enc r)]) := by
 unfold g_slices_insertionSortCmpFunc_need_required at hg
 refine Fn.of Tryz.func125 rfl rfl rfl fun w0 I ρ0 => ?_
 show awp _ ⟨w0, I, ρ0, 1, 1, 53⟩ _ _ _
 refine sr_ 1 25 mk_U ?_
 refine go_ ?_
 refine ch_n fun hU => ?_
 refine awp_block ?_
 refine lp_ (fun ((i_1, data_1) : Int × List need_required) => mk [(0, .row 0), (1, .val (.int .i64 a)), (2, .val (.int .i64 b)), (3, .clo 69 0 []), (8, .val (.int .i64 i_1))] [(0, .row 122 2 (encL need_required.enc data_1))] 1) hg (sub_ [(0, 0)]) ?_
 rintro ⟨i_1, data_1⟩ m1 o1 hg hn1
 replace hg : g_slices_insertionSortCmpFunc_need_required.l1 a b cmp i_1 data_1 = some o1 := hg
 show awp _ _ _ _ (mk _ _ _)
 unfold g_slices_insertionSortCmpFunc_need_required.l1 at hg
 refine awp_seq ?_
 refine sr_ 1 25 mk_U ?_
 refine go_ ?_
 refine ch_n fun hU => ?_
 refine cg_ rfl hg (fun h3 hg => ?_) fun h3 hg => ?_
 ·refine awp_skip ?_
  repeat first | refine st_ ?_ | refine sn_ ?_
  refine awp_seq ?_
  refine awp_block ?_
  refine sr_ 25 41 hU ?_
  refine go_ ?_
  refine ch_n fun hU => ?_
  refine awp_block ?_
  refine lp_ (fun ((j_2, data_2) : Int × List need_required) => mk [(0, .row 0), (1, .val (.int .i64 a)), (2, .val (.int .i64 b)), (3, .clo 69 0 []), (8, .val (.int .i64 i_1)), (9, .val (.int .i64 j_2))] [(0, .row 122 2 (encL need_required.enc data_2))] 1) hg (sub_ [(0, 0)]) ?_
  rintro ⟨j_2, data_2⟩ m2 o2 hg hn2
  replace hg : g_slices_insertionSortCmpFunc_need_required.l2 a cmp i_1 j_2 data_2 = some o2 := hg
  show awp _ _ _ _ (mk _ _ _)
  unfold g_slices_insertionSortCmpFunc_need_required.l2 at hg
  refine awp_seq ?_
  refine awp_cut (ι := Bool) (fun (x34_3 : Bool) => mk [(0, .row 0), (1, .val (.int .i64 a)), (2, .val (.int .i64 b)), (3, .clo 69 0 []), (8, .val (.int .i64 i_1)), (9, .val (.int .i64 j_2)), (34, .val (.bool x34_3))] [(0, .row 122 2 (encL need_required.enc data_2))] 1) (fun (x34_3 : Bool) => g_slices_insertionSortCmpFunc_need_required.j3 i_1 j_2 data_2 x34_3 = some o2) ?_ ?_
  ·refine awp_draw (sys _ _ []) (by kernel_rfl) [0, 0, 3, 7, 15, 15, 15, 111, 239, 15, 15, 1039, 3599, 7695, 16383, 32767, 65535] 1 137 mk_U rfl rfl (by kernel_rfl) ?_
   refine go_ ?_
   rcases bc_ hg with ⟨h5, hg⟩ | ⟨h5, hg⟩
   ·refine go_ ?_
    obtain ⟨e, he, hg⟩ := bind_some hg
    refine go_ ?_
    refine ch_s (rd := [0]) (gdv_t rfl rfl h5) rfl (r_loadRA ty122 (enc_cells need_required.enc_len (getI_at he) (o := 0) (m := 2) (cs := [.int .i64 e.First, .int .i64 e.Then]) rfl (by decide) rfl) (enc_cells_le need_required.enc_len (getI_at he) (o := 0) (m := 2) (by decide) rfl)) rfl rfl ?_
    refine go_ ?_
    obtain ⟨e_2, he_2, hg⟩ := bind_some hg
    refine go_ ?_
    refine ch_s (rd := [0]) (gdv_t rfl rfl h5) rfl (r_loadRA ty122 (enc_cells need_required.enc_len (getI_at he_2) (o := 0) (m := 2) (cs := [.int .i64 e_2.First, .int .i64 e_2.Then]) rfl (by decide) rfl) (enc_cells_le need_required.enc_len (getI_at he_2) (o := 0) (m := 2) (by decide) rfl)) rfl rfl ?_
    obtain ⟨y, hy, hg⟩ := bind_some hg
    refine ch_callCP (rd := []) (ps := []) (gs := []) false (gdv_t rfl rfl h5) rfl (hf_cmp e e_2 _ hy) rfl rfl (.cons (.agg (.cons .val (.cons .val .nil))) (.cons (.agg (.cons .val (.cons .val .nil))) .nil)) rfl rfl (by intro h; cases h) rfl rfl rfl rfl ?_
    refine go_ ?_
    refine ch_n fun hU => ?_
    exact ⟨decide (y < 0), hg, sub_ [(0, 0)]⟩
   ·refine go_ ?_
    refine ch_n fun hU => ?_
    exact ⟨false, hg, sub_ [(0, 0)]⟩
  ·rintro x34_3 hg
   replace hg : g_slices_insertionSortCmpFunc_need_required.j3 i_1 j_2 data_2 x34_3 = some o2 := hg
   show awp _ _ _ _ (mk _ _ _)
   unfold g_slices_insertionSortCmpFunc_need_required.j3 at hg
   refine cg_ rfl hg (fun h8 hg => ?_) fun h8 hg => ?_
   ·refine awp_skip ?_
    repeat first | refine st_ ?_ | refine sn_ ?_
    refine awp_seq ?_
    refine awp_block ?_
    refine awp_draw (sys _ _ []) (by kernel_rfl) [0, 0, 0, 0, 8, 0, 0, 64, 224, 480, 0, 0, 3072, 7168, 16355, 32739, 65535, 131071] 1 145 mk_U rfl rfl (by kernel_rfl) ?_
    refine go_ ?_
    obtain ⟨e_3, he_3, hg⟩ := bind_some hg
    refine go_ ?_
    refine ch_s (rd := [0]) rfl rfl (r_loadRA ty122 (enc_cells need_required.enc_len (getI_at he_3) (o := 0) (m := 2) (cs := [.int .i64 e_3.First, .int .i64 e_3.Then]) rfl (by decide) rfl) (enc_cells_le need_required.enc_len (getI_at he_3) (o := 0) (m := 2) (by decide) rfl)) rfl rfl ?_
    refine go_ ?_
    obtain ⟨e_4, he_4, hg⟩ := bind_some hg
    refine go_ ?_
    refine ch_s (rd := [0]) rfl rfl (r_loadRA ty122 (enc_cells need_required.enc_len (getI_at he_4) (o := 0) (m := 2) (cs := [.int .i64 e_4.First, .int .i64 e_4.Then]) rfl (by decide) rfl) (enc_cells_le need_required.enc_len (getI_at he_4) (o := 0) (m := 2) (by decide) rfl)) rfl rfl ?_
    refine go_ ?_
    refine ch_s (rd := [0]) rfl rfl (r_storeR ty122 rfl (enc_cells_le need_required.enc_len (getI_at he_4) (o := 0) (m := 2) (by decide) rfl) ck122 (cs' := [.int .i64 e_3.First, .int .i64 e_3.Then]) (.cons .int (.cons .int .nil)) (enc_splice need_required.enc_len (getI_at he_4) (o := 0) (x' := e_3) (Nat.le_of_ble_eq_true rfl) rfl rfl)) rfl rfl ?_
    obtain ⟨e_5, he_5, hg⟩ := bind_some hg
    refine go_ ?_
    refine ch_s (rd := [0]) rfl rfl (r_storeR ty122 rfl (enc_cells_le need_required.enc_len (getI_at he_5) (o := 0) (m := 2) (by decide) rfl) ck122 (cs' := [.int .i64 e_4.First, .int .i64 e_4.Then]) (.cons .int (.cons .int .nil)) (enc_splice need_required.enc_len (getI_at he_5) (o := 0) (x' := e_4) (Nat.le_of_ble_eq_true rfl) rfl rfl)) rfl rfl ?_
    refine ch_n fun hU => ?_
    refine awp_region (sys _ _ []) 145 169 hU rfl rfl ?_
    refine go_ ?_
    refine ch_n fun hU => ?_
    obtain rfl := Option.some.inj hg
    exact ⟨((W (j_2 - 1), setI (setI data_2 ((j_2).toNat) e_3) ((W (j_2 - 1)).toNat) e_4), m2), Nat.lt_succ_self _, hn2, sub_ [(0, 0)]⟩
   ·refine awp_exit ?_
    repeat first | refine st_ ?_ | refine sn_ ?_
    replace hg := leave hg hn2
    refine awp_region (sys _ _ []) 1 25 mk_U rfl rfl ?_
    refine go_ ?_
    refine ch_n fun hU => ?_
    obtain rfl := Option.some.inj hg
    exact ⟨((W (i_1 + 1), data_2), m1), Nat.lt_succ_self _, hn1, sub_ [(0, 0)]⟩
 ·refine awp_exit ?_
  repeat first | refine st_ ?_ | refine sn_ ?_
  replace hg := leave hg hn1
  obtain rfl := Option.some.inj hg
  exact fin_ [(0, 0)] ⟨rfl, rfl⟩
theorem w_slices_pdqsortCmpFunc_need_required_clo_69_0_ (data : List need_required) (a : Int) (b : Int) (limit : Int) (cmp : need_required → need_required → Option (Int)) (hf_cmp : ∀ (x0 : need_required) (x1 : need_required) (y : Int), cmp x0 x1 = some y → Fn Tryz.prog 69 0 [.agg [.val (.int .i64 x0.First), .val (.int .i64 x0.Then)], .agg [.val (.int .i64 x1.First), .val (.int .i64 x1.Then)]] [] (fun d' b' => d' = .val (.int .i64 y) ∧ b' = [])) (r : (List need_required)) (hg : g_slices_pdqsortCmpFunc_need_required data a b limit cmp = some r) : Fn Tryz.prog 98 1 [.row 0, .val (.int .i64 a), .val (.int .i64 b), .val (.int .i64 limit), .clo 69 0 []] [.row 122 2 (encL need_required.enc data)] (fun d' b' => d' = .tup [] ∧ b' = [.row 122 2 (encL need_required.enc r)]) := by
 unfold g_slices_pdqsortCmpFunc_need_required at hg
 refine Fn.of Tryz.func98 rfl rfl rfl fun w0 I ρ0 => ?_
 show awp _ ⟨w0, I, ρ0, 1, 1, 148⟩ _ _ _
 refine sr_ 1 9 mk_U ?_
 refine go_ ?_
 refine ch_n fun hU => ?_
 refine sr_ 9 17 hU ?_
 refine go_ ?_
 refine ch_n fun hU => ?_
 refine awp_block ?_
 refine lp_ (fun (_ : Unit) => mk [(0, .row 0), (1, .val (.int .i64 a)), (2, .val (.int .i64 b)), (3, .val (.int .i64 limit)), (4, .clo 69 0 []), (10, .val (.bool true)), (11, .val (.bool true))] [(0, .row 122 2 (encL need_required.enc data))] 1) hg (sub_ [(0, 0)]) ?_
 rintro _ m1 o1 hg hn1
 replace hg : g_slices_pdqsortCmpFunc_need_required.l1 data a b limit cmp = some o1 := hg
 show awp _ _ _ _ (mk _ _ _)
 unfold g_slices_pdqsortCmpFunc_need_required.l1 at hg
 refine awp_block ?_
 refine sr_ 1 33 mk_U ?_
 refine go_ ?_
 refine ch_n fun hU => ?_
 refine awp_seq ?_
 refine sr_ 33 49 hU ?_
 refine go_ ?_
 refine ch_n fun hU => ?_
 refine cg_ rfl hg (fun h5 hg => ?_) fun h5 hg => ?_
 ·refine awp_seq ?_
  refine awp_region (sys _ _ []) 49 89 hU rfl rfl ?_
  refine go_ ?_
  obtain ⟨y, hy, hg⟩ := bind_some hg
  refine cb_ [0] [0] [] false (w_slices_insertionSortCmpFunc_need_required_clo_69_0_ data a b cmp hf_cmp _ hy) ?_
  refine ch_n fun hU => ?_
  refine aw_r ?_
  replace hg := leave hg hn1
  obtain rfl := Option.some.inj hg
  exact fin_ [(0, 0)] ⟨rfl, rfl⟩
 ·refine awp_skip ?_
  repeat first | refine st_ ?_ | refine sn_ ?_
  refine awp_seq ?_
  refine sr_ 49 65 hU ?_
  refine go_ ?_
  refine ch_n fun hU => ?_
  refine cg_ rfl hg (fun h8 hg => ?_) fun h8 hg => ?_
  ·refine awp_seq ?_
   refine awp_region (sys _ _ []) 65 105 hU rfl rfl ?_
   refine go_ ?_
   cases hg
  ·refine awp_skip ?_
   repeat first | refine st_ ?_ | refine sn_ ?_
   refine awp_seq ?_
   refine sr_ 65 81 hU ?_
   refine go_ ?_
   refine ch_n fun hU => ?_
   refine awp_cond rfl (fun h => ?_) (fun h => ?_)
   ·exact absurd h (by decide)
   ·refine awp_skip ?_
    repeat first | refine st_ ?_ | refine sn_ ?_
    refine sr_ 81 161 hU ?_
    refine go_ ?_
    cases hg
theorem w_slices_SortFunc_need_required_clo_69_0_ (x' : List need_required) (cmp : need_required → need_required → Option (Int)) (hf_cmp : ∀ (x0 : need_required) (x1 : need_required) (y : Int), cmp x0 x1 = some y → Fn Tryz.prog 69 0 [.agg [.val (.int .i64 x0.First), .val (.int .i64 x0.Then)], .agg [.val (.int .i64 x1.First), .val (.int .i64 x1.Then)]] [] (fun d' b' => d' = .val (.int .i64 y) ∧ b' = [])) (r : (List need_required)) (hg : g_slices_SortFunc_need_required x' cmp = some r) : Fn Tryz.prog 68 1 [.row 0, .clo 69 0 []] [.row 122 2 (encL need_required.enc x')] (fun d' b' => d' = .tup [] ∧ b' = [.row 122 2 (encL need_required.enc r)]) := by
 unfold g_slices_SortFunc_need_required at hg
 refine Fn.of Tryz.func68 rfl rfl rfl fun w0 I ρ0 => ?_
 show awp _ ⟨w0, I, ρ0, 1, 1, 14⟩ _ _ _
 refine sr_ 1 25 mk_U ?_
 refine go_ ?_
 refine ch_n fun hU => ?_
 refine awp_region (sys _ _ []) 25 81 hU rfl rfl ?_
 refine go_ ?_
 refine c0_ rfl rfl (r_convK und3 und148) rfl rfl ?_
 obtain ⟨y, hy, hg⟩ := bind_some hg
 refine ca_ (w_math_bits_Len _ _ hy) ?_
 refine go_ ?_
 obtain ⟨y_2, hy_2, hg⟩ := bind_some hg
 refine cb_ [0] [0] [] false (w_slices_pdqsortCmpFunc_need_required_clo_69_0_ x' 0 (x'.length : Int) y cmp hf_cmp _ hy_2) ?_
 refine ch_n fun hU => ?_
 obtain rfl := Option.some.inj hg
 exact fin_ [(0, 0)] ⟨rfl, rfl⟩
theorem w_slices_Compact_need_required_own (s : List need_required) (r : (List need_required)) (hg : g_slices_Compact_need_required s = some r) : Fn Tryz.prog 70 0 [.row 0] [.row 122 2 (encL need_required.enc s)] (fun d' b' => d' = .row 0 ∧ b' = [.row 122 2 (encL need_required.enc r)]) := by
 unfold g_slices_Compact_need_required at hg
 refine Fn.of Tryz.func70 rfl rfl rfl fun w0 I ρ0 => ?_
 show awp _ ⟨w0, I, ρ0, 0, 1, 61⟩ _ _ _
 refine sr_ 1 9 mk_U ?_
 refine go_ ?_
 refine ch_n fun hU => ?_
 refine awp_seq ?_
 refine sr_ 9 33 hU ?_
 refine go_ ?_
 refine ch_n fun hU => ?_
 refine cg_ rfl hg (fun h3 hg => ?_) fun h3 hg => ?_
 ·refine awp_seq ?_
  refine awp_region (sys _ _ []) 33 49 hU rfl rfl ?_
  refine go_ ?_
  refine ch_n fun hU => ?_
  refine aw_r ?_
  obtain rfl := Option.some.inj hg
  exact fin_ [(0, 0)] ⟨rfl, rfl⟩
 ·refine awp_skip ?_
  repeat first | refine st_ ?_ | refine sn_ ?_
  refine awp_seq ?_
  refine sr_ 33 41 hU ?_
  refine go_ ?_
  refine ch_n fun hU => ?_
  refine awp_block ?_
  refine lp_ (fun (k_1 : Int) => mk [(0, .row 0), (3, .val (.int .i64 k_1))] [(0, .row 122 2 (encL need_required.enc s))] 1) hg (sub_ [(0, 0)]) ?_
  rintro k_1 m1 o1 hg hn1
  replace hg : g_slices_Compact_need_required.l1 s k_1 = some o1 := hg
  show awp _ _ _ _ (mk _ _ _)
  unfold g_slices_Compact_need_required.l1 at hg
  refine awp_seq ?_
  refine sr_ 1 33 mk_U ?_
  refine go_ ?_
  refine ch_n fun hU => ?_
  refine cg_ rfl hg (fun h7 hg => ?_) fun h7 hg => ?_
  ·refine awp_skip ?_
   repeat first | refine st_ ?_ | refine sn_ ?_
   refine awp_seq ?_
   refine awp_block ?_
   refine awp_seq ?_
   refine awp_draw (sys _ _ []) (by kernel_rfl) [0, 0, 3, 7, 0, 0, 32, 112, 240, 511] 33 113 hU rfl rfl (by kernel_rfl) ?_
   refine go_ ?_
   obtain ⟨e, he, hg⟩ := bind_some hg
   refine go_ ?_
   refine ch_s (rd := [0]) rfl rfl (r_loadRA ty122 (enc_cells need_required.enc_len (getI_at he) (o := 0) (m := 2) (cs := [.int .i64 e.First, .int .i64 e.Then]) rfl (by decide) rfl) (enc_cells_le need_required.enc_len (getI_at he) (o := 0) (m := 2) (by decide) rfl)) rfl rfl ?_
   refine go_ ?_
   obtain ⟨e_2, he_2, hg⟩ := bind_some hg
   refine go_ ?_
   refine ch_s (rd := [0]) rfl rfl (r_loadRA ty122 (enc_cells need_required.enc_len (getI_at he_2) (o := 0) (m := 2) (cs := [.int .i64 e_2.First, .int .i64 e_2.Then]) rfl (by decide) rfl) (enc_cells_le need_required.enc_len (getI_at he_2) (o := 0) (m := 2) (by decide) rfl)) rfl rfl ?_
   refine c0_ rfl rfl (steq122_eql e e_2) rfl rfl ?_
   refine ch_n fun hU => ?_
   refine cg_ rfl hg (fun h9 hg => ?_) fun h9 hg => ?_
   ·refine awp_seq ?_
    refine awp_region (sys _ _ []) 113 145 hU rfl rfl ?_
    refine go_ ?_
    obtain ⟨l, hl, hg⟩ := bind_some hg
    refine ch_s (rd := [0]) rfl rfl (r_sliR_lo sl121 need_required.enc_len hl) rfl rfl ?_
    refine go_ ?_
    refine ch_n fun hU => ?_
    refine awp_seq ?_
    refine sr_ 145 153 hU ?_
    refine go_ ?_
    refine ch_n fun hU => ?_
    refine awp_block ?_
    refine lp_ (fun ((k_2, k2_2, s_2) : Int × Int × List need_required) => mk [(0, .row 0), (3, .val (.int .i64 k_2)), (4, .part 0 (((k_1 : Int).toNat) * 2) (((s.length : Int) : Int).toNat - (k_1 : Int).toNat)), (5, .val (.int .i64 k2_2))] [(0, .row 122 2 (encL need_required.enc s_2))] 1) hg (sub_ [(0, 0)]) ?_
    rintro ⟨k_2, k2_2, s_2⟩ m2 o2 hg hn2
    replace hg : g_slices_Compact_need_required.l2 s k_1 k_2 k2_2 s_2 = some o2 := hg
    show awp _ _ _ _ (mk _ _ _)
    unfold g_slices_Compact_need_required.l2 at hg
    refine awp_seq ?_
    refine sr_ 1 33 mk_U ?_
    refine go_ ?_
    refine c0_ rfl rfl (.len sl121.elem .part) rfl rfl ?_
    refine go_ ?_
    refine ch_n fun hU => ?_
    refine cg_ rfl hg (fun h13 hg => ?_) fun h13 hg => ?_
    ·refine awp_skip ?_
     repeat first | refine st_ ?_ | refine sn_ ?_
     refine awp_cut (ι := Int × List need_required) (fun ((k_3, s_3) : Int × List need_required) => mk [(0, .row 0), (3, .val (.int .i64 k_3)), (4, .part 0 (((k_1 : Int).toNat) * 2) (((s.length : Int) : Int).toNat - (k_1 : Int).toNat)), (5, .val (.int .i64 k2_2))] [(0, .row 122 2 (encL need_required.enc s_3))] 1) (fun ((k_3, s_3) : Int × List need_required) => g_slices_Compact_need_required.j3 k2_2 k_3 s_3 = some o2) ?_ ?_
     ·refine awp_block ?_
      refine awp_seq ?_
      refine awp_draw (sys _ _ []) (by kernel_rfl) [0, 0, 3, 7, 0, 0, 32, 112, 240, 511] 33 113 hU rfl rfl (by kernel_rfl) ?_
      refine go_ ?_
      obtain ⟨e_3, he_3, hg⟩ := bind_some hg
      refine ch_s (rd := [0]) rfl rfl (r_idxP sl121 (getI_ix he_3) (getI_at he_3)) rfl rfl ?_
      refine ch_s (rd := [0]) rfl rfl (r_loadRA ty122 (enc_cells need_required.enc_len (part_at (a := (k_1 : Int).toNat) (getI_at he_3)) (o := 0) (m := 2) (cs := [.int .i64 e_3.First, .int .i64 e_3.Then]) rfl (by decide) rfl) (enc_cells_le need_required.enc_len (part_at (a := (k_1 : Int).toNat) (getI_at he_3)) (o := 0) (m := 2) (by decide) rfl)) rfl rfl ?_
      refine go_ ?_
      obtain ⟨e_4, he_4, hg⟩ := bind_some hg
      refine ch_s (rd := [0]) rfl rfl (r_idxP sl121 (getI_ix he_4) (getI_at he_4)) rfl rfl ?_
      refine ch_s (rd := [0]) rfl rfl (r_loadRA ty122 (enc_cells need_required.enc_len (part_at (a := (k_1 : Int).toNat) (getI_at he_4)) (o := 0) (m := 2) (cs := [.int .i64 e_4.First, .int .i64 e_4.Then]) rfl (by decide) rfl) (enc_cells_le need_required.enc_len (part_at (a := (k_1 : Int).toNat) (getI_at he_4)) (o := 0) (m := 2) (by decide) rfl)) rfl rfl ?_
      refine c0_ rfl rfl (steq122_neq e_3 e_4) rfl rfl ?_
      refine ch_n fun hU => ?_
      refine cg_ rfl hg (fun h15 hg => ?_) fun h15 hg => ?_
      ·refine awp_seq ?_
       refine awp_region (sys _ _ []) 113 177 hU rfl rfl ?_
       refine go_ ?_
       refine ch_s (rd := [0]) rfl rfl (r_idxP sl121 (getI_ix he_3) (getI_at he_3)) rfl rfl ?_
       refine ch_s (rd := [0]) rfl rfl (r_loadRA ty122 (enc_cells need_required.enc_len (part_at (a := (k_1 : Int).toNat) (getI_at he_3)) (o := 0) (m := 2) (cs := [.int .i64 e_3.First, .int .i64 e_3.Then]) rfl (by decide) rfl) (enc_cells_le need_required.enc_len (part_at (a := (k_1 : Int).toNat) (getI_at he_3)) (o := 0) (m := 2) (by decide) rfl)) rfl rfl ?_
       obtain ⟨e_5, he_5, hg⟩ := bind_some hg
       refine go_ ?_
       refine ch_s (rd := [0]) rfl rfl (r_storeR ty122 rfl (enc_cells_le need_required.enc_len (getI_at he_5) (o := 0) (m := 2) (by decide) rfl) ck122 (cs' := [.int .i64 e_3.First, .int .i64 e_3.Then]) (.cons .int (.cons .int .nil)) (enc_splice need_required.enc_len (getI_at he_5) (o := 0) (x' := e_3) (Nat.le_of_ble_eq_true rfl) rfl rfl)) rfl rfl ?_
       refine ch_n fun hU => ?_
       refine awp_region (sys _ _ []) 177 201 hU rfl rfl ?_
       refine go_ ?_
       refine ch_n fun hU => ?_
       exact ⟨(W (k_2 + 1), setI s_2 ((k_2).toNat) e_3), hg, sub_ [(0, 0)]⟩
      ·refine awp_skip ?_
       repeat first | refine st_ ?_ | refine sn_ ?_
       exact ⟨(k_2, s_2), hg, sub_ [(0, 0)]⟩
     ·rintro ⟨k_3, s_3⟩ hg
      replace hg : g_slices_Compact_need_required.j3 k2_2 k_3 s_3 = some o2 := hg
      show awp _ _ _ _ (mk _ _ _)
      unfold g_slices_Compact_need_required.j3 at hg
      refine awp_region (sys _ _ []) 1 25 mk_U rfl rfl ?_
      refine go_ ?_
      refine ch_n fun hU => ?_
      obtain rfl := Option.some.inj hg
      exact ⟨((k_3, W (k2_2 + 1), s_3), m2), Nat.lt_succ_self _, hn2, sub_ [(0, 0)]⟩
    ·refine awp_exit ?_
     repeat first | refine st_ ?_ | refine sn_ ?_
     replace hg := leave hg hn2
     refine sr_ 33 65 hU ?_
     refine go_ ?_
     obtain ⟨l_2, hl_2, hg⟩ := bind_some hg
     refine ch_s (rd := [0]) rfl rfl (r_sliR_lo sl121 need_required.enc_len hl_2) rfl rfl ?_
     obtain ⟨l_3, hl_3, hg⟩ := bind_some hg
     refine ch_x (rd := [0]) rfl rfl (x_clear (f := need_required.enc) (a := (k_2 : Int).toNat) (m := (((s_2.length : Int) : Int).toNat - (k_2 : Int).toNat)) (z0 := (need_required.mk 0 0)) sl121 need_required.enc_len (zt_of (ck := [none, none]) z122 (.cons .int (.cons .int .nil))) (.head _) hl_3) rfl rfl (fun _ => ⟨_, rfl⟩) ?_
     rintro _ rfl
     refine ch_n fun hU => ?_
     refine sr_ 65 97 hU ?_
     refine go_ ?_
     obtain ⟨l_4, hl_4, hg⟩ := bind_some hg
     refine ch_s (rd := [0]) rfl rfl (r_sliR_hi sl121 need_required.enc_len hl_4) rfl rfl ?_
     refine go_ ?_
     refine ch_n fun hU => ?_
     refine awp_sub (σ' := mk [(2, .part 0 (((0 : Int).toNat) * 2) ((k_2 : Int).toNat - (0 : Int).toNat))] [(0, .row 122 2 (encL need_required.enc l_3))] 1) (sub_ [(0, 0)]) ?_
     refine awp_sub (σ' := mk [(2, .row 0)] [(0, .row 122 2 (encL need_required.enc (l_3.take ((k_2 : Int).toNat - (0 : Int).toNat))))] 1) (cut_ 2 0 need_required.enc_len (Nat.le_trans (Nat.le_add_left _ _) (slI_le hl_4)) rfl rfl rfl rfl) ?_
     refine aw_r ?_
     replace hg := leave hg hn1
     obtain rfl := Option.some.inj hg
     exact fin_ [(0, 0)] ⟨rfl, rfl⟩
   ·refine awp_skip ?_
    repeat first | refine st_ ?_ | refine sn_ ?_
    refine awp_region (sys _ _ []) 113 137 hU rfl rfl ?_
    refine go_ ?_
    refine ch_n fun hU => ?_
    obtain rfl := Option.some.inj hg
    exact ⟨(W (k_1 + 1), m1), Nat.lt_succ_self _, hn1, sub_ [(0, 0)]⟩
  ·refine awp_exit ?_
   repeat first | refine st_ ?_ | refine sn_ ?_
   replace hg := leave hg hn1
   refine sr_ 33 49 hU ?_
   refine go_ ?_
   refine ch_n fun hU => ?_
   refine aw_r ?_
   obtain rfl := Option.some.inj hg
   exact fin_ [(0, 0)] ⟨rfl, rfl⟩
theorem w_need_sorted (l : (List api_Required)) (r : (List api_Required)) (hg : g_need_sorted l = some r) : Fn Tryz.prog 43 0 [.sl 2 (encL api_Required.enc l)] [] (fun d' b' => d' = .sl 2 (encL api_Required.enc r) ∧ b' = []) := by
 unfold g_need_sorted at hg
 refine Fn.of Tryz.func43 rfl rfl rfl fun w0 I ρ0 => ?_
 show awp _ ⟨w0, I, ρ0, 0, 0, 35⟩ _ _ _
 refine sr_ 0 8 mk_U ?_
 refine go_ ?_
 refine ch_n fun hU => ?_
 refine sr_ 8 16 hU ?_
 refine go_ ?_
 refine ch_n fun hU => ?_
 refine awp_seq ?_
 refine sr_ 16 40 hU ?_
 refine go_ ?_
 refine ch_n fun hU => ?_
 refine awp_block ?_
 refine lp_ (fun ((x11_1, rows_1) : Int × List need_required) => mk [(3, .row 0), (9, .sl 2 (encL api_Required.enc l)), (10, .val (.int .i64 (l.length : Int))), (11, .val (.int .i64 x11_1))] [(0, .row 122 2 (encL need_required.enc rows_1))] 1) hg (sub_ []) ?_
 rintro ⟨x11_1, rows_1⟩ m1 o1 hg hn1
 replace hg : g_need_sorted.l1 l x11_1 rows_1 = some o1 := hg
 show awp _ _ _ _ (mk _ _ _)
 unfold g_need_sorted.l1 at hg
 refine sr_ 1 9 mk_U ?_
 refine go_ ?_
 refine ch_n fun hU => ?_
 refine awp_seq ?_
 refine cg_ rfl hg (fun h5 hg => ?_) fun h5 hg => ?_
 ·refine awp_skip ?_
  repeat first | refine st_ ?_ | refine sn_ ?_
  refine awp_seq ?_
  refine awp_block ?_
  refine sr_ 9 41 hU ?_
  obtain ⟨e, he, hg⟩ := bind_some hg
  refine go_ ?_
  refine c0_ rfl rfl (r_loadEA ty53 (enc_cells api_Required.enc_len (getI_at he) (o := 0) (m := 2) (cs := [.int .i64 e.First, .int .i64 e.Then]) rfl (by decide) rfl) (enc_cells_le api_Required.enc_len (getI_at he) (o := 0) (m := 2) (by decide) rfl)) rfl rfl ?_
  refine go_ ?_
  refine ch_n fun hU => ?_
  refine awp_region (sys _ _ []) 41 81 hU rfl rfl ?_
  refine go_ ?_
  refine c0_ rfl rfl (r_buildFull sl121 z122 (by decide) rfl rfl rfl rfl ck122 (cs := [.int .i64 e.First, .int .i64 e.Then]) (.cons .int (.cons .int .nil)) rfl (l := ([(need_required.mk e.First e.Then)] : List need_required)) (f := need_required.enc) rfl) rfl rfl ?_
  obtain ⟨l_2, hl_2, hg⟩ := bind_some hg
  refine ch_s (rd := [0, 57]) rfl rfl (r_append sl121 need_required.enc_len .row rfl .row rfl hl_2 rfl) rfl rfl ?_
  refine go_ ?_
  refine ch_n fun hU => ?_
  refine awp_region (sys _ _ []) 81 97 hU rfl rfl ?_
  refine go_ ?_
  refine ch_n fun hU => ?_
  obtain rfl := Option.some.inj hg
  exact ⟨((W (x11_1 + 1), l_2), m1), Nat.lt_succ_self _, hn1, sub_ [(0, 65)]⟩
 ·refine awp_exit ?_
  repeat first | refine st_ ?_ | refine sn_ ?_
  replace hg := leave hg hn1
  refine sr_ 9 25 hU ?_
  refine go_ ?_
  obtain ⟨y, hy, hg⟩ := bind_some hg
  refine cb_ [0] [0] [] false (w_slices_SortFunc_need_required_clo_69_0_ rows_1 (fun x0 x1 => g_need_required_compare x0 x1) (fun x0 x1 y h => w_need_required_compare x0 x1 y h) _ hy) ?_
  refine ch_n fun hU => ?_
  refine sr_ 25 33 hU ?_
  refine go_ ?_
  refine ch_n fun hU => ?_
  refine awp_seq ?_
  refine sr_ 33 65 hU ?_
  refine go_ ?_
  obtain ⟨y_2, hy_2, hg⟩ := bind_some hg
  refine ch_call (rd := [0]) (ps := []) (gs := [0]) false rfl (w_slices_Compact_need_required_own _ _ hy_2) rfl rfl (.cons (.rowK rfl) .nil) ⟨_, _, _, rfl, .head _, rfl, rfl⟩ rfl (by intro h; cases h) rfl (by intro h; first | (cases h; done) | exact ⟨_, _, ⟨rfl, rfl⟩, by simp, by simp⟩) ?_
  rintro _ _ ⟨rfl, rfl⟩
  refine go_ ?_
  refine ch_n fun hU => ?_
  refine awp_block ?_
  refine lp_ (fun ((x25_2, out_2) : Int × List api_Required) => mk [(6, .row 0), (23, .row 1), (24, .val (.int .i64 (y_2.length : Int))), (25, .val (.int .i64 x25_2))] [(0, .row 53 2 (encL api_Required.enc out_2)), (1, .row 122 2 (encL need_required.enc y_2))] 2) hg (sub_ [(1, 41)]) ?_
  rintro ⟨x25_2, out_2⟩ m2 o2 hg hn2
  replace hg : g_need_sorted.l2 y_2 x25_2 out_2 = some o2 := hg
  show awp _ _ _ _ (mk _ _ _)
  unfold g_need_sorted.l2 at hg
  refine sr_ 2 10 mk_U ?_
  refine go_ ?_
  refine ch_n fun hU => ?_
  refine awp_seq ?_
  refine cg_ rfl hg (fun h13 hg => ?_) fun h13 hg => ?_
  ·refine awp_skip ?_
   repeat first | refine st_ ?_ | refine sn_ ?_
   refine awp_seq ?_
   refine awp_block ?_
   refine sr_ 10 42 hU ?_
   obtain ⟨e_2, he_2, hg⟩ := bind_some hg
   refine go_ ?_
   refine ch_s (rd := [1]) rfl rfl (r_loadRA ty122 (enc_cells need_required.enc_len (getI_at he_2) (o := 0) (m := 2) (cs := [.int .i64 e_2.First, .int .i64 e_2.Then]) rfl (by decide) rfl) (enc_cells_le need_required.enc_len (getI_at he_2) (o := 0) (m := 2) (by decide) rfl)) rfl rfl ?_
   refine go_ ?_
   refine ch_n fun hU => ?_
   refine awp_region (sys _ _ []) 42 82 hU rfl rfl ?_
   refine go_ ?_
   refine c0_ rfl rfl (r_buildFull sl48 z53 (by decide) rfl rfl rfl rfl ck53 (cs := [.int .i64 e_2.First, .int .i64 e_2.Then]) (.cons .int (.cons .int .nil)) rfl (l := ([(api_Required.mk e_2.First e_2.Then)] : List api_Required)) (f := api_Required.enc) rfl) rfl rfl ?_
   obtain ⟨l_3, hl_3, hg⟩ := bind_some hg
   refine ch_s (rd := [0, 58]) rfl rfl (r_append sl48 api_Required.enc_len .row rfl .row rfl hl_3 rfl) rfl rfl ?_
   refine go_ ?_
   refine ch_n fun hU => ?_
   refine awp_region (sys _ _ []) 82 98 hU rfl rfl ?_
   refine go_ ?_
   refine ch_n fun hU => ?_
   obtain rfl := Option.some.inj hg
   exact ⟨((W (x25_2 + 1), l_3), m2), Nat.lt_succ_self _, hn2, sub_ [(0, 66), (1, 1)]⟩
  ·refine awp_exit ?_
   repeat first | refine st_ ?_ | refine sn_ ?_
   replace hg := leave hg hn2
   refine sr_ 10 26 hU ?_
   refine go_ ?_
   refine ch_n fun hU => ?_
   refine aw_r ?_
   obtain rfl := Option.some.inj hg
   exact fin_ [] ⟨rfl, rfl⟩
theorem w_need_Chain (l : (List Int)) (r : (List api_Required)) (hg : g_need_Chain l = some r) : Fn Tryz.prog 31 0 [.sl 1 (encL eI l)] [] (fun d' b' => d' = .sl 2 (encL api_Required.enc r) ∧ b' = []) := by
 unfold g_need_Chain at hg
 refine Fn.of Tryz.func31 rfl rfl rfl fun w0 I ρ0 => ?_
 show awp _ ⟨w0, I, ρ0, 0, 0, 26⟩ _ _ _
 refine sr_ 0 8 mk_U ?_
 refine go_ ?_
 refine ch_n fun hU => ?_
 refine sr_ 8 16 hU ?_
 refine go_ ?_
 refine ch_n fun hU => ?_
 refine awp_seq ?_
 refine sr_ 16 24 hU ?_
 refine go_ ?_
 refine ch_n fun hU => ?_
 refine awp_block ?_
 refine lp_ (fun ((i_1, out_1) : Int × List api_Required) => mk [(0, .sl 1 (encL eI l)), (3, .row 0), (4, .val (.int .i64 i_1))] [(0, .row 53 2 (encL api_Required.enc out_1))] 1) hg (sub_ []) ?_
 rintro ⟨i_1, out_1⟩ m1 o1 hg hn1
 replace hg : g_need_Chain.l1 l i_1 out_1 = some o1 := hg
 show awp _ _ _ _ (mk _ _ _)
 unfold g_need_Chain.l1 at hg
 refine awp_seq ?_
 refine sr_ 1 33 mk_U ?_
 refine go_ ?_
 refine ch_n fun hU => ?_
 refine cg_ rfl hg (fun h5 hg => ?_) fun h5 hg => ?_
 ·refine awp_skip ?_
  repeat first | refine st_ ?_ | refine sn_ ?_
  refine awp_seq ?_
  refine awp_block ?_
  refine awp_draw (sys _ _ []) (by kernel_rfl) [0, 0, 0, 4, 14, 30, 0, 0, 192, 448, 1022, 2046, 4095, 8191] 33 145 hU rfl rfl (by kernel_rfl) ?_
  refine go_ ?_
  obtain ⟨e, he, hg⟩ := bind_some hg
  refine go_ ?_
  refine c0_ rfl rfl (r_loadE1 ty3 (enc_cell eI_len (getI_at he) (o := 0) (c := .int .i64 e) rfl rfl)) rfl rfl ?_
  refine go_ ?_
  obtain ⟨e_2, he_2, hg⟩ := bind_some hg
  refine go_ ?_
  refine c0_ rfl rfl (r_loadE1 ty3 (enc_cell eI_len (getI_at he_2) (o := 0) (c := .int .i64 e_2) rfl rfl)) rfl rfl ?_
  refine c0_ rfl rfl (.build (r := [.val (.int .i64 e), .val (.int .i64 e_2)]) und53 pl53 z53 (by kernel_rfl) rfl) rfl rfl ?_
  refine c0_ rfl rfl (r_buildFull sl48 z53 (by decide) rfl rfl rfl rfl ck53 (cs := [.int .i64 e, .int .i64 e_2]) (.cons .int (.cons .int .nil)) rfl (l := ([(api_Required.mk e e_2)] : List api_Required)) (f := api_Required.enc) rfl) rfl rfl ?_
  obtain ⟨l_2, hl_2, hg⟩ := bind_some hg
  refine ch_s (rd := [0, 121]) rfl rfl (r_append sl48 api_Required.enc_len .row rfl .row rfl hl_2 rfl) rfl rfl ?_
  refine go_ ?_
  refine ch_n fun hU => ?_
  refine awp_region (sys _ _ []) 145 169 hU rfl rfl ?_
  refine go_ ?_
  refine ch_n fun hU => ?_
  obtain rfl := Option.some.inj hg
  exact ⟨((W (i_1 + 1), l_2), m1), Nat.lt_succ_self _, hn1, sub_ [(0, 129)]⟩
 ·refine awp_exit ?_
  repeat first | refine st_ ?_ | refine sn_ ?_
  replace hg := leave hg hn1
  refine awp_seq ?_
  refine awp_sub (σ' := mk [(3, .sl 2 (encL api_Required.enc out_1))] [] 0) (sub_ []) ?_
  refine awp_region (sys _ _ []) 0 24 mk_U rfl rfl ?_
  refine go_ ?_
  obtain ⟨y, hy, hg⟩ := bind_some hg
  refine ca_ (w_need_sorted _ _ hy) ?_
  refine go_ ?_
  refine ch_n fun hU => ?_
  refine aw_r ?_
  obtain rfl := Option.some.inj hg
  exact fin_ [] ⟨rfl, rfl⟩
theorem w_law28_awake  (r : Bool) (hg : g_law28_awake = some r) : Fn Tryz.prog 7 0 [] [] (fun d' b' => d' = .val (.bool r) ∧ b' = []) := by
 unfold g_law28_awake at hg
 refine Fn.of Tryz.func7 rfl rfl rfl fun w0 I ρ0 => ?_
 show awp _ ⟨w0, I, ρ0, 0, 0, 17⟩ _ _ _
 refine sr_ 0 8 mk_U ?_
 refine go_ ?_
 refine ch_n fun hU => ?_
 refine awp_seq ?_
 refine awp_region (sys _ _ [96]) 8 144 hU rfl rfl ?_
 refine c0_ rfl rfl (.build (r := [.val (.string (⟨#[]⟩ : ByteArray)), .val (.int .i64 0), .val (.int .i64 0), .val (.slice none 0 0), .val (.bool false), .val (.slice none 0 0), .val (.slice none 0 0), .val (.slice none 0 0), .val (.bool false)]) und37 pl37 z37 (by kernel_rfl) rfl) rfl rfl ?_
 refine c0_ rfl rfl (.build (r := [.val (.int .i64 0), .val (.int .i64 5), .val (.int .i64 0), .val (.int .i64 0), .val (.int .i64 0), .val (.int .i64 0), .val (.int .i64 0), .val (.slice none 0 0)]) und44 pl44 z44 (by kernel_rfl) rfl) rfl rfl ?_
 obtain ⟨y, hy, hg⟩ := bind_some hg
 refine ca_ (w_need_Rank _ _ _ hy) ?_
 refine go_ ?_
 rcases bc_ hg with ⟨h2, hg⟩ | ⟨h2, hg⟩
 ·refine c0_ (gdv_t rfl rfl h2) rfl (.build (r := [.val (.string (⟨#[]⟩ : ByteArray)), .val (.int .i64 0), .val (.int .i64 0), .val (.slice none 0 0), .val (.bool false), .val (.slice none 0 0), .val (.slice none 0 0), .val (.slice none 0 0), .val (.bool false)]) und37 pl37 z37 (by kernel_rfl) rfl) rfl rfl ?_
  refine c0_ (gdv_t rfl rfl h2) rfl (.build (r := [.val (.int .i64 0), .val (.int .i64 2), .val (.int .i64 0), .val (.int .i64 0), .val (.int .i64 0), .val (.int .i64 0), .val (.int .i64 0), .val (.slice none 0 0)]) und44 pl44 z44 (by kernel_rfl) rfl) rfl rfl ?_
  obtain ⟨y_2, hy_2, hg⟩ := bind_some hg
  refine ca_ (w_need_Rank _ _ _ hy_2) ?_
  refine go_ ?_
  rcases bc_ hg with ⟨h3, hg⟩ | ⟨h3, hg⟩
  ·refine ch_z (rd := []) (gdv_t rfl rfl h3) rfl (r_buildFull sl22 z3 (by decide) rfl rfl rfl rfl ck3 (cs := [.int .i64 2, .int .i64 0, .int .i64 1]) (.cons .int (.cons .int (.cons .int .nil))) rfl (l := ([2, 0, 1] : List Int)) (f := eI) rfl) rfl rfl rfl ?_
   obtain ⟨y_3, hy_3, hg⟩ := bind_some hg
   refine ca_ (w_need_Chain _ _ hy_3) ?_
   refine go_ ?_
   refine ch_n fun hU => ?_
   refine aw_r ?_
   obtain rfl := Option.some.inj hg
   exact fin_ [] ⟨rfl, rfl⟩
  ·refine go_ ?_
   refine ch_n fun hU => ?_
   refine aw_r ?_
   obtain rfl := Option.some.inj hg
   exact fin_ [] ⟨rfl, rfl⟩
 ·refine go_ ?_
  refine ch_n fun hU => ?_
  refine aw_r ?_
  obtain rfl := Option.some.inj hg
  exact fin_ [] ⟨rfl, rfl⟩
theorem w_make_Roll (l : (List Int)) (r : cipherplanmake_Dice) (hg : g_make_Roll l = some r) : Fn Tryz.prog 9 0 [.sl 1 (encL eI l)] [] (fun d' b' => d' = .ptr 0 0 ∧ b' = [.box [.sl 1 (encL eI r.L), .val (.int .i64 r.At)] 81]) := by
 unfold g_make_Roll at hg
 refine Fn.of Tryz.func9 rfl rfl rfl fun w0 I ρ0 => ?_
 show awp _ ⟨w0, I, ρ0, 0, 0, 6⟩ _ _ _
 refine sr_ 0 8 mk_U ?_
 refine go_ ?_
 refine ch_n fun hU => ?_
 refine sr_ 8 40 hU ?_
 refine go_ ?_
 refine c0_ rfl rfl (.build (r := [.sl 1 (encL eI l), .val (.int .i64 0)]) und81 pl81 z81 (by kernel_rfl) rfl) rfl rfl ?_
 refine go_ ?_
 refine ch_n fun hU => ?_
 refine aw_r ?_
 obtain rfl := Option.some.inj hg
 exact fin_ [(0, 24)] ⟨rfl, rfl⟩
theorem w_make_Mod (n : Int) (k : Int) (r : Int) (hg : g_make_Mod n k = some r) : Fn Tryz.prog 23 0 [.val (.int .i64 n), .val (.int .i64 k)] [] (fun d' b' => d' = .val (.int .i64 r) ∧ b' = []) := by
 unfold g_make_Mod at hg
 refine Fn.of Tryz.func23 rfl rfl rfl fun w0 I ρ0 => ?_
 show awp _ ⟨w0, I, ρ0, 0, 0, 14⟩ _ _ _
 refine sr_ 0 8 mk_U ?_
 refine go_ ?_
 refine ch_n fun hU => ?_
 refine awp_seq ?_
 refine sr_ 8 24 hU ?_
 refine go_ ?_
 refine ch_n fun hU => ?_
 refine cg_ rfl hg (fun h3 hg => ?_) fun h3 hg => ?_
 ·refine awp_seq ?_
  refine awp_region (sys _ _ []) 24 32 hU rfl rfl ?_
  refine go_ ?_
  refine ch_n fun hU => ?_
  refine aw_r ?_
  obtain rfl := Option.some.inj hg
  exact fin_ [] ⟨rfl, rfl⟩
 ·refine awp_skip ?_
  repeat first | refine st_ ?_ | refine sn_ ?_
  refine sr_ 24 88 hU ?_
  refine go_ ?_
  obtain ⟨q, hq, hg⟩ := bind_some hg
  refine c0_ rfl rfl (r_rem hq) rfl rfl ?_
  refine go_ ?_
  obtain ⟨q_2, hq_2, hg⟩ := bind_some hg
  refine c0_ rfl rfl (r_rem hq_2) rfl rfl ?_
  refine go_ ?_
  refine ch_n fun hU => ?_
  refine aw_r ?_
  obtain rfl := Option.some.inj hg
  exact fin_ [] ⟨rfl, rfl⟩
theorem w_make_Dice_Next (d : cipherplanmake_Dice) (n : Int) (r : Int × cipherplanmake_Dice) (hg : g_make_Dice_Next d n = some r) : Fn Tryz.prog 32 1 [.ptr 0 0, .val (.int .i64 n)] [.box [.sl 1 (encL eI d.L), .val (.int .i64 d.At)] 81] (fun d' b' => d' = .val (.int .i64 r.1) ∧ b' = [.box [.sl 1 (encL eI r.2.L), .val (.int .i64 r.2.At)] 81]) := by
 unfold g_make_Dice_Next at hg
 refine Fn.of Tryz.func32 rfl rfl rfl fun w0 I ρ0 => ?_
 show awp _ ⟨w0, I, ρ0, 1, 1, 35⟩ _ _ _
 refine sr_ 1 9 mk_U ?_
 refine go_ ?_
 refine ch_n fun hU => ?_
 refine awp_seq ?_
 refine awp_seq ?_
 refine awp_draw (sys _ _ []) (by kernel_rfl) [0, 1, 3, 7, 0, 16, 48, 112, 240, 511] 9 89 hU rfl rfl (by kernel_rfl) ?_
 refine go_ ?_
 refine ch_n fun hU => ?_
 refine cg_ rfl hg (fun h3 hg => ?_) fun h3 hg => ?_
 ·refine awp_seq ?_
  refine awp_region (sys _ _ []) 89 97 hU rfl rfl ?_
  refine go_ ?_
  refine ch_n fun hU => ?_
  refine aw_r ?_
  obtain rfl := Option.some.inj hg
  exact fin_ [(0, 0)] ⟨rfl, rfl⟩
 ·refine awp_skip ?_
  repeat first | refine st_ ?_ | refine sn_ ?_
  refine sr_ 89 153 hU ?_
  refine go_ ?_
  refine ch_n fun hU => ?_
  refine awp_seq ?_
  refine awp_draw (sys _ _ []) (by kernel_rfl) [0, 1, 3, 7, 0, 16, 48, 112, 240, 511, 1023, 0, 4095, 8191] 153 265 hU rfl rfl (by kernel_rfl) ?_
  refine go_ ?_
  obtain ⟨e, he, hg⟩ := bind_some hg
  refine go_ ?_
  refine c0_ rfl rfl (r_loadE1 ty3 (enc_cell eI_len (getI_at he) (o := 0) (c := .int .i64 e) rfl rfl)) rfl rfl ?_
  refine go_ ?_
  obtain ⟨y, hy, hg⟩ := bind_some hg
  refine ca_ (w_make_Mod _ _ _ hy) ?_
  refine go_ ?_
  refine ch_n fun hU => ?_
  refine aw_r ?_
  obtain rfl := Option.some.inj hg
  exact fin_ [(0, 0)] ⟨rfl, rfl⟩
theorem w_make_Dice_Of (d : cipherplanmake_Dice) (l : (List Int)) (r : Int × cipherplanmake_Dice) (hg : g_make_Dice_Of d l = some r) : Fn Tryz.prog 33 1 [.ptr 0 0, .sl 1 (encL eI l)] [.box [.sl 1 (encL eI d.L), .val (.int .i64 d.At)] 81] (fun d' b' => d' = .val (.int .i64 r.1) ∧ b' = [.box [.sl 1 (encL eI r.2.L), .val (.int .i64 r.2.At)] 81]) := by
 unfold g_make_Dice_Of at hg
 refine Fn.of Tryz.func33 rfl rfl rfl fun w0 I ρ0 => ?_
 show awp _ ⟨w0, I, ρ0, 1, 1, 12⟩ _ _ _
 refine sr_ 1 9 mk_U ?_
 refine go_ ?_
 refine ch_n fun hU => ?_
 refine sr_ 9 73 hU ?_
 refine go_ ?_
 obtain ⟨y, hy, hg⟩ := bind_some hg
 refine cb_ [0] [0] [] false (w_make_Dice_Next _ _ _ hy) ?_
 obtain ⟨e, he, hg⟩ := bind_some hg
 refine go_ ?_
 refine c0_ rfl rfl (r_loadE1 ty3 (enc_cell eI_len (getI_at he) (o := 0) (c := .int .i64 e) rfl rfl)) rfl rfl ?_
 refine go_ ?_
 refine ch_n fun hU => ?_
 refine aw_r ?_
 obtain rfl := Option.some.inj hg
 exact fin_ [(0, 0)] ⟨rfl, rfl⟩
theorem w_make_Dice_One (d : cipherplanmake_Dice) (n : Int) (r : Bool × cipherplanmake_Dice) (hg : g_make_Dice_One d n = some r) : Fn Tryz.prog 17 1 [.ptr 0 0, .val (.int .i64 n)] [.box [.sl 1 (encL eI d.L), .val (.int .i64 d.At)] 81] (fun d' b' => d' = .val (.bool r.1) ∧ b' = [.box [.sl 1 (encL eI r.2.L), .val (.int .i64 r.2.At)] 81]) := by
 unfold g_make_Dice_One at hg
 refine Fn.of Tryz.func17 rfl rfl rfl fun w0 I ρ0 => ?_
 show awp _ ⟨w0, I, ρ0, 1, 1, 11⟩ _ _ _
 refine sr_ 1 9 mk_U ?_
 refine go_ ?_
 refine ch_n fun hU => ?_
 refine sr_ 9 65 hU ?_
 refine go_ ?_
 obtain ⟨y, hy, hg⟩ := bind_some hg
 refine cb_ [0] [0] [] false (w_make_Dice_Next _ _ _ hy) ?_
 refine go_ ?_
 refine ch_n fun hU => ?_
 refine aw_r ?_
 obtain rfl := Option.some.inj hg
 exact fin_ [(0, 0)] ⟨rfl, rfl⟩
theorem w_move_RSA  (r : api_Use) (hg : g_move_RSA = some r) : Fn Tryz.prog 34 0 [] [] (fun d' b' => d' = .agg [.val (.int .i64 r.Alg), .val (.int .i64 r.Bits)] ∧ b' = []) := by
 unfold g_move_RSA at hg
 refine Fn.of Tryz.func34 rfl rfl rfl fun w0 I ρ0 => ?_
 show awp _ ⟨w0, I, ρ0, 0, 0, 2⟩ _ _ _
 refine sr_ 0 8 mk_U ?_
 refine go_ ?_
 refine ch_n fun hU => ?_
 refine sr_ 8 24 hU ?_
 refine c0_ rfl rfl (.build (r := [.val (.int .i64 5), .val (.int .i64 2048)]) und39 pl39 z39 (by kernel_rfl) rfl) rfl rfl ?_
 refine go_ ?_
 refine ch_n fun hU => ?_
 refine aw_r ?_
 obtain rfl := Option.some.inj hg
 exact fin_ [] ⟨rfl, rfl⟩
theorem w_ref03_Copy (c : api_Certificate) (r : api_Certificate) (hg : g_ref03_Copy c = some r) : Fn Tryz.prog 57 0 [.agg (api_Certificate.dv c)] [] (fun d' b' => d' = .agg (api_Certificate.dv r) ∧ b' = []) := by
 unfold g_ref03_Copy at hg
 refine Fn.of Tryz.func57 rfl rfl rfl fun w0 I ρ0 => ?_
 show awp _ ⟨w0, I, ρ0, 0, 0, 9⟩ _ _ _
 refine sr_ 0 16 mk_U ?_
 refine go_ ?_
 refine ch_n fun hU => ?_
 refine sr_ 16 64 hU ?_
 refine c0_ rfl rfl (r_buildFull sl71 z9 (by decide) rfl rfl rfl rfl ck9 (cs := []) .nil rfl (l := ([] : List ByteArray)) (f := eS) rfl) rfl rfl ?_
 refine go_ ?_
 obtain ⟨l, hl, hg⟩ := bind_some hg
 refine ch_s (rd := [16]) rfl rfl (r_append sl71 eS_len .row rfl .sl rfl hl rfl) rfl rfl ?_
 refine go_ ?_
 refine ch_n fun hU => ?_
 refine sr_ 64 80 hU ?_
 refine go_ ?_
 refine ch_n fun hU => ?_
 refine aw_r ?_
 obtain rfl := Option.some.inj hg
 exact fin_ [] ⟨rfl, rfl⟩
theorem w_ref03_Name (s : ByteArray) (r : Bool) (hg : g_ref03_Name s = some r) : Fn Tryz.prog 79 0 [.val (.string s)] [] (fun d' b' => d' = .val (.bool r) ∧ b' = []) := by
 unfold g_ref03_Name at hg
 refine Fn.of Tryz.func79 rfl rfl rfl fun w0 I ρ0 => ?_
 show awp _ ⟨w0, I, ρ0, 0, 0, 28⟩ _ _ _
 refine sr_ 0 8 mk_U ?_
 refine go_ ?_
 refine ch_n fun hU => ?_
 refine awp_seq ?_
 refine awp_cut (ι := Bool) (fun (x11_1 : Bool) => mk [(0, .val (.string s)), (11, .val (.bool x11_1))] [] 0) (fun (x11_1 : Bool) => g_ref03_Name.j1 s x11_1 = some r) ?_ ?_
 ·refine awp_region (sys _ _ []) 8 72 hU rfl rfl ?_
  refine go_ ?_
  refine c0_ rfl rfl (r_lenT und9) rfl rfl ?_
  refine go_ ?_
  rcases bc_ hg with ⟨h2, hg⟩ | ⟨h2, hg⟩
  ·refine go_ ?_
   refine ch_n fun hU => ?_
   exact ⟨true, hg, sub_ []⟩
  ·refine go_ ?_
   refine c0_ (gdv_t rfl rfl h2) rfl (r_lenT und9) rfl rfl ?_
   refine go_ ?_
   refine ch_n fun hU => ?_
   exact ⟨decide (32 < (s.size : Int)), hg, sub_ []⟩
 ·rintro x11_1 hg
  replace hg : g_ref03_Name.j1 s x11_1 = some r := hg
  show awp _ _ _ _ (mk _ _ _)
  unfold g_ref03_Name.j1 at hg
  refine cg_ rfl hg (fun h5 hg => ?_) fun h5 hg => ?_
  ·refine awp_seq ?_
   refine awp_region (sys _ _ []) 0 8 mk_U rfl rfl ?_
   refine go_ ?_
   refine ch_n fun hU => ?_
   refine aw_r ?_
   obtain rfl := Option.some.inj hg
   exact fin_ [] ⟨rfl, rfl⟩
  ·refine awp_skip ?_
   repeat first | refine st_ ?_ | refine sn_ ?_
   refine awp_seq ?_
   refine sr_ 0 8 mk_U ?_
   refine go_ ?_
   refine ch_n fun hU => ?_
   refine awp_block ?_
   refine lp_ (fun (i_2 : Int) => mk [(0, .val (.string s)), (3, .val (.int .i64 i_2))] [] 0) hg (sub_ []) ?_
   rintro i_2 m2 o2 hg hn2
   replace hg : g_ref03_Name.l2 s i_2 = some o2 := hg
   show awp _ _ _ _ (mk _ _ _)
   unfold g_ref03_Name.l2 at hg
   refine awp_seq ?_
   refine sr_ 0 32 mk_U ?_
   refine go_ ?_
   refine c0_ rfl rfl (r_lenT und9) rfl rfl ?_
   refine go_ ?_
   refine ch_n fun hU => ?_
   refine cg_ rfl hg (fun h9 hg => ?_) fun h9 hg => ?_
   ·refine awp_skip ?_
    repeat first | refine st_ ?_ | refine sn_ ?_
    refine awp_seq ?_
    refine awp_block ?_
    refine awp_cut (ι := Bool) (fun (x27_3 : Bool) => mk [(0, .val (.string s)), (3, .val (.int .i64 i_2)), (27, .val (.bool x27_3))] [] 0) (fun (x27_3 : Bool) => g_ref03_Name.j3 i_2 x27_3 = some o2) ?_ ?_
    ·refine awp_region (sys _ _ []) 32 112 hU rfl rfl ?_
     refine go_ ?_
     obtain ⟨c, hc, hg⟩ := bind_some hg
     refine c0_ rfl rfl (r_idxT und9 hc) rfl rfl ?_
     refine go_ ?_
     rcases bc_ hg with ⟨h10, hg⟩ | ⟨h10, hg⟩
     ·refine go_ ?_
      refine ch_n fun hU => ?_
      exact ⟨true, hg, sub_ []⟩
     ·refine go_ ?_
      obtain ⟨c_2, hc_2, hg⟩ := bind_some hg
      refine c0_ (gdv_t rfl rfl h10) rfl (r_idxT und9 hc_2) rfl rfl ?_
      refine go_ ?_
      refine ch_n fun hU => ?_
      exact ⟨decide (126 < (c_2.toNat : Int)), hg, sub_ []⟩
    ·rintro x27_3 hg
     replace hg : g_ref03_Name.j3 i_2 x27_3 = some o2 := hg
     show awp _ _ _ _ (mk _ _ _)
     unfold g_ref03_Name.j3 at hg
     refine cg_ rfl hg (fun h13 hg => ?_) fun h13 hg => ?_
     ·refine awp_seq ?_
      refine awp_region (sys _ _ []) 0 8 mk_U rfl rfl ?_
      refine go_ ?_
      refine ch_n fun hU => ?_
      refine aw_r ?_
      replace hg := leave hg hn2
      obtain rfl := Option.some.inj hg
      exact fin_ [] ⟨rfl, rfl⟩
     ·refine awp_skip ?_
      repeat first | refine st_ ?_ | refine sn_ ?_
      refine awp_region (sys _ _ []) 0 24 mk_U rfl rfl ?_
      refine go_ ?_
      refine ch_n fun hU => ?_
      obtain rfl := Option.some.inj hg
      exact ⟨(W (i_2 + 1), m2), Nat.lt_succ_self _, hn2, sub_ []⟩
   ·refine awp_exit ?_
    repeat first | refine st_ ?_ | refine sn_ ?_
    replace hg := leave hg hn2
    refine sr_ 32 40 hU ?_
    refine go_ ?_
    refine ch_n fun hU => ?_
    refine aw_r ?_
    obtain rfl := Option.some.inj hg
    exact fin_ [] ⟨rfl, rfl⟩
theorem w_ref02_modulus (b : Int) (r : Int) (hg : g_ref02_modulus b = some r) : Fn Tryz.prog 138 0 [.val (.int .i64 b)] [] (fun d' b' => d' = .val (.int .i64 r) ∧ b' = []) := by
 unfold g_ref02_modulus at hg
 refine Fn.of Tryz.func138 rfl rfl rfl fun w0 I ρ0 => ?_
 show awp _ ⟨w0, I, ρ0, 0, 0, 25⟩ _ _ _
 refine sr_ 0 8 mk_U ?_
 refine go_ ?_
 refine ch_n fun hU => ?_
 refine awp_seq ?_
 refine awp_block ?_
 refine awp_cut (ι := Bool) (fun (x3_1 : Bool) => mk [(0, .val (.int .i64 b)), (3, .val (.bool x3_1))] [] 0) (fun (x3_1 : Bool) => g_ref02_modulus.j1 b x3_1 = some r) ?_ ?_
 ·refine awp_region (sys _ _ []) 8 64 hU rfl rfl ?_
  refine go_ ?_
  rcases bc_ hg with ⟨h2, hg⟩ | ⟨h2, hg⟩
  ·refine go_ ?_
   refine ch_n fun hU => ?_
   exact ⟨true, hg, sub_ []⟩
  ·refine go_ ?_
   refine ch_n fun hU => ?_
   exact ⟨decide (16384 < b), hg, sub_ []⟩
 ·rintro x3_1 hg
  replace hg : g_ref02_modulus.j1 b x3_1 = some r := hg
  show awp _ _ _ _ (mk _ _ _)
  unfold g_ref02_modulus.j1 at hg
  refine cg_ rfl hg (fun h5 hg => ?_) fun h5 hg => ?_
  ·refine awp_seq ?_
   refine awp_region (sys _ _ []) 0 8 mk_U rfl rfl ?_
   refine go_ ?_
   refine ch_n fun hU => ?_
   refine aw_r ?_
   obtain rfl := Option.some.inj hg
   exact fin_ [] ⟨rfl, rfl⟩
  ·refine awp_seq ?_
   refine awp_region (sys _ _ []) 0 24 mk_U rfl rfl ?_
   refine go_ ?_
   refine ch_n fun hU => ?_
   refine cg_ rfl hg (fun h8 hg => ?_) fun h8 hg => ?_
   ·refine awp_seq ?_
    refine awp_region (sys _ _ []) 24 32 hU rfl rfl ?_
    refine go_ ?_
    refine ch_n fun hU => ?_
    refine aw_r ?_
    obtain rfl := Option.some.inj hg
    exact fin_ [] ⟨rfl, rfl⟩
   ·refine awp_seq ?_
    refine awp_region (sys _ _ []) 24 48 hU rfl rfl ?_
    refine go_ ?_
    refine ch_n fun hU => ?_
    refine cg_ rfl hg (fun h11 hg => ?_) fun h11 hg => ?_
    ·refine awp_seq ?_
     refine awp_region (sys _ _ []) 48 56 hU rfl rfl ?_
     refine go_ ?_
     refine ch_n fun hU => ?_
     refine aw_r ?_
     obtain rfl := Option.some.inj hg
     exact fin_ [] ⟨rfl, rfl⟩
    ·refine awp_seq ?_
     refine awp_region (sys _ _ []) 48 72 hU rfl rfl ?_
     refine go_ ?_
     refine ch_n fun hU => ?_
     refine cg_ rfl hg (fun h14 hg => ?_) fun h14 hg => ?_
     ·refine awp_seq ?_
      refine awp_region (sys _ _ []) 72 80 hU rfl rfl ?_
      refine go_ ?_
      refine ch_n fun hU => ?_
      refine aw_r ?_
      obtain rfl := Option.some.inj hg
      exact fin_ [] ⟨rfl, rfl⟩
     ·refine awp_seq ?_
      refine awp_region (sys _ _ []) 72 96 hU rfl rfl ?_
      refine go_ ?_
      refine ch_n fun hU => ?_
      refine cg_ rfl hg (fun h17 hg => ?_) fun h17 hg => ?_
      ·refine awp_seq ?_
       refine awp_region (sys _ _ []) 96 104 hU rfl rfl ?_
       refine go_ ?_
       refine ch_n fun hU => ?_
       refine aw_r ?_
       obtain rfl := Option.some.inj hg
       exact fin_ [] ⟨rfl, rfl⟩
      ·refine awp_seq ?_
       refine awp_region (sys _ _ []) 96 120 hU rfl rfl ?_
       refine go_ ?_
       refine ch_n fun hU => ?_
       refine cg_ rfl hg (fun h20 hg => ?_) fun h20 hg => ?_
       ·refine awp_seq ?_
        refine awp_region (sys _ _ []) 120 128 hU rfl rfl ?_
        refine go_ ?_
        refine ch_n fun hU => ?_
        refine aw_r ?_
        obtain rfl := Option.some.inj hg
        exact fin_ [] ⟨rfl, rfl⟩
       ·refine awp_skip ?_
        repeat first | refine st_ ?_ | refine sn_ ?_
        refine sr_ 120 128 hU ?_
        refine go_ ?_
        refine ch_n fun hU => ?_
        refine aw_r ?_
        obtain rfl := Option.some.inj hg
        exact fin_ [] ⟨rfl, rfl⟩
end Go.Proofs.YtkpcbnnlefcebaaGreat
