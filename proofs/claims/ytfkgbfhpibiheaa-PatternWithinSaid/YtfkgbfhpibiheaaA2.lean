/- The program computes the plain functions. -/
import Derived.Test.YtfkgbfhpibiheaaT1
set_option linter.unusedVariables false
set_option linter.unusedSimpArgs false
set_option maxRecDepth 100000
set_option maxHeartbeats 1600000
namespace Go.Proofs.Ytfkgbfhpibiheaa
open Go.RowKit
theorem w_math_bits_Len64 (x' : Int) (r : Int) (hg : g_math_bits_Len64 x' = some r) : Fn Try.prog 72 0 [.val (.int .u64 x')] [] (fun d' b' => d' = .val (.int .i64 r) ∧ b' = []) := by
 unfold g_math_bits_Len64 at hg
 refine Fn.of Try.func72 rfl rfl rfl fun w0 I ρ0 => ?_
 show awp _ ⟨w0, I, ρ0, 0, 0, 25⟩ _ _ _
 refine sr_ 0 8 mk_U ?_
 refine go_ ?_
 refine ch_n fun hU => ?_
 refine awp_cut (ι := Int × Int) (fun ((x_1, n_1) : Int × Int) => mk [(0, .val (.int .u64 x_1)), (2, .val (.int .i64 n_1))] [] 0) (fun ((x_1, n_1) : Int × Int) => g_math_bits_Len64.j1 x_1 n_1 = some r) ?_ ?_
 ·refine awp_seq ?_
  refine awp_region (sys _ _ []) 8 24 hU rfl rfl ?_
  refine go_ ?_
  refine ch_n fun hU => ?_
  refine cg_ rfl hg (fun h3 hg => ?_) fun h3 hg => ?_
  ·refine awp_seq ?_
   refine awp_region (sys _ _ []) 24 48 hU rfl rfl ?_
   refine go_ ?_
   obtain ⟨q, hq, hg⟩ := bind_some hg
   refine c0_ rfl rfl (r_shrK hq) rfl rfl ?_
   refine go_ ?_
   refine ch_n fun hU => ?_
   refine awp_region (sys _ _ []) 48 56 hU rfl rfl ?_
   refine go_ ?_
   refine ch_n fun hU => ?_
   exact ⟨(q, 32), hg, sub_ []⟩
  ·refine awp_skip ?_
   repeat first | refine st_ ?_ | refine sn_ ?_
   exact ⟨(x', 0), hg, sub_ []⟩
 ·rintro ⟨x_1, n_1⟩ hg
  replace hg : g_math_bits_Len64.j1 x_1 n_1 = some r := hg
  show awp _ _ _ _ (mk _ _ _)
  unfold g_math_bits_Len64.j1 at hg
  refine awp_cut (ι := Int × Int) (fun ((x_2, n_2) : Int × Int) => mk [(0, .val (.int .u64 x_2)), (2, .val (.int .i64 n_2))] [] 0) (fun ((x_2, n_2) : Int × Int) => g_math_bits_Len64.j2 x_2 n_2 = some r) ?_ ?_
  ·refine awp_seq ?_
   refine awp_region (sys _ _ []) 0 16 mk_U rfl rfl ?_
   refine go_ ?_
   refine ch_n fun hU => ?_
   refine cg_ rfl hg (fun h7 hg => ?_) fun h7 hg => ?_
   ·refine awp_seq ?_
    refine awp_region (sys _ _ []) 16 40 hU rfl rfl ?_
    refine go_ ?_
    obtain ⟨q_2, hq_2, hg⟩ := bind_some hg
    refine c0_ rfl rfl (r_shrK hq_2) rfl rfl ?_
    refine go_ ?_
    refine ch_n fun hU => ?_
    refine awp_region (sys _ _ []) 40 64 hU rfl rfl ?_
    refine go_ ?_
    refine ch_n fun hU => ?_
    exact ⟨(q_2, W (n_1 + 16)), hg, sub_ []⟩
   ·refine awp_skip ?_
    repeat first | refine st_ ?_ | refine sn_ ?_
    exact ⟨(x_1, n_1), hg, sub_ []⟩
  ·rintro ⟨x_2, n_2⟩ hg
   replace hg : g_math_bits_Len64.j2 x_2 n_2 = some r := hg
   show awp _ _ _ _ (mk _ _ _)
   unfold g_math_bits_Len64.j2 at hg
   refine awp_cut (ι := Int × Int) (fun ((x_3, n_3) : Int × Int) => mk [(0, .val (.int .u64 x_3)), (2, .val (.int .i64 n_3))] [] 0) (fun ((x_3, n_3) : Int × Int) => g_math_bits_Len64.j3 x_3 n_3 = some r) ?_ ?_
   ·refine awp_seq ?_
    refine awp_region (sys _ _ []) 0 16 mk_U rfl rfl ?_
    refine go_ ?_
    refine ch_n fun hU => ?_
    refine cg_ rfl hg (fun h11 hg => ?_) fun h11 hg => ?_
    ·refine awp_seq ?_
     refine awp_region (sys _ _ []) 16 40 hU rfl rfl ?_
     refine go_ ?_
     obtain ⟨q_3, hq_3, hg⟩ := bind_some hg
     refine c0_ rfl rfl (r_shrK hq_3) rfl rfl ?_
     refine go_ ?_
     refine ch_n fun hU => ?_
     refine awp_region (sys _ _ []) 40 64 hU rfl rfl ?_
     refine go_ ?_
     refine ch_n fun hU => ?_
     exact ⟨(q_3, W (n_2 + 8)), hg, sub_ []⟩
    ·refine awp_skip ?_
     repeat first | refine st_ ?_ | refine sn_ ?_
     exact ⟨(x_2, n_2), hg, sub_ []⟩
   ·rintro ⟨x_3, n_3⟩ hg
    replace hg : g_math_bits_Len64.j3 x_3 n_3 = some r := hg
    show awp _ _ _ _ (mk _ _ _)
    unfold g_math_bits_Len64.j3 at hg
    refine sr_ 0 56 mk_U ?_
    refine go_ ?_
    refine c0_ rfl rfl (r_conv_u8 und112 und5) rfl rfl ?_
    obtain ⟨c, hc, hg⟩ := bind_some hg
    refine c0_ rfl rfl (r_idxT und9 hc) rfl rfl ?_
    refine c0_ rfl rfl (r_conv_8i (u := c) und5 und3) rfl rfl ?_
    refine go_ ?_
    refine ch_n fun hU => ?_
    refine aw_r ?_
    obtain rfl := Option.some.inj hg
    exact fin_ [] ⟨rfl, rfl⟩
theorem w_math_bits_Len (x' : Int) (r : Int) (hg : g_math_bits_Len x' = some r) : Fn Try.prog 51 0 [.val (.int .u64 x')] [] (fun d' b' => d' = .val (.int .i64 r) ∧ b' = []) := by
 unfold g_math_bits_Len at hg
 refine Fn.of Try.func51 rfl rfl rfl fun w0 I ρ0 => ?_
 show awp _ ⟨w0, I, ρ0, 0, 0, 8⟩ _ _ _
 refine sr_ 0 8 mk_U ?_
 refine go_ ?_
 refine ch_n fun hU => ?_
 refine awp_seq ?_
 refine awp_condc (fun h => ?_) (fun h => ?_)
 ·exact absurd h (by first | decide | exact fun h => nomatch (show false = true from h) | exact fun h => nomatch (show true = false from h))
 ·refine awp_skip ?_
  repeat first | refine st_ ?_ | refine sn_ ?_
  refine sr_ 8 32 hU ?_
  refine go_ ?_
  obtain ⟨y, hy, hg⟩ := bind_some hg
  refine ca_ (w_math_bits_Len64 _ _ hy) ?_
  refine go_ ?_
  refine ch_n fun hU => ?_
  refine aw_r ?_
  obtain rfl := Option.some.inj hg
  exact fin_ [] ⟨rfl, rfl⟩
theorem w_cmp_isNaN_int (x' : Int) (r : Bool) (hg : g_cmp_isNaN_int x' = some r) : Fn Try.prog 52 0 [.val (.int .i64 x')] [] (fun d' b' => d' = .val (.bool r) ∧ b' = []) := by
 unfold g_cmp_isNaN_int at hg
 refine Fn.of Try.func52 rfl rfl rfl fun w0 I ρ0 => ?_
 show awp _ ⟨w0, I, ρ0, 0, 0, 6⟩ _ _ _
 refine sr_ 0 8 mk_U ?_
 refine go_ ?_
 refine ch_n fun hU => ?_
 refine sr_ 8 40 hU ?_
 refine go_ ?_
 refine ch_n fun hU => ?_
 refine aw_r ?_
 obtain rfl := Option.some.inj hg
 exact fin_ [] ⟨rfl, rfl⟩
theorem w_cmp_Compare_int (x' : Int) (y : Int) (r : Int) (hg : g_cmp_Compare_int x' y = some r) : Fn Try.prog 36 0 [.val (.int .i64 x'), .val (.int .i64 y)] [] (fun d' b' => d' = .val (.int .i64 r) ∧ b' = []) := by
 unfold g_cmp_Compare_int at hg
 refine Fn.of Try.func36 rfl rfl rfl fun w0 I ρ0 => ?_
 show awp _ ⟨w0, I, ρ0, 0, 0, 20⟩ _ _ _
 refine sr_ 0 8 mk_U ?_
 refine go_ ?_
 refine ch_n fun hU => ?_
 refine sr_ 8 32 hU ?_
 refine go_ ?_
 obtain ⟨y_2, hy_2, hg⟩ := bind_some hg
 refine ca_ (w_cmp_isNaN_int _ _ hy_2) ?_
 refine go_ ?_
 refine ch_n fun hU => ?_
 refine sr_ 32 56 hU ?_
 refine go_ ?_
 obtain ⟨y_3, hy_3, hg⟩ := bind_some hg
 refine ca_ (w_cmp_isNaN_int _ _ hy_3) ?_
 refine go_ ?_
 refine ch_n fun hU => ?_
 refine awp_seq ?_
 refine sr_ 56 64 hU ?_
 refine go_ ?_
 refine ch_n fun hU => ?_
 refine cg_ rfl hg (fun h5 hg => ?_) fun h5 hg => ?_
 ·refine awp_seq ?_
  refine sr_ 64 72 hU ?_
  refine go_ ?_
  refine ch_n fun hU => ?_
  refine cg_ rfl hg (fun h7 hg => ?_) fun h7 hg => ?_
  ·refine awp_seq ?_
   refine awp_region (sys _ _ []) 72 80 hU rfl rfl ?_
   refine go_ ?_
   refine ch_n fun hU => ?_
   refine aw_r ?_
   obtain rfl := Option.some.inj hg
   exact fin_ [] ⟨rfl, rfl⟩
  ·refine awp_skip ?_
   repeat first | refine st_ ?_ | refine sn_ ?_
   refine sr_ 72 80 hU ?_
   refine go_ ?_
   refine ch_n fun hU => ?_
   refine aw_r ?_
   obtain rfl := Option.some.inj hg
   exact fin_ [] ⟨rfl, rfl⟩
 ·refine awp_skip ?_
  repeat first | refine st_ ?_ | refine sn_ ?_
  refine awp_seq ?_
  refine sr_ 64 72 hU ?_
  refine go_ ?_
  refine ch_n fun hU => ?_
  refine cg_ rfl hg (fun h11 hg => ?_) fun h11 hg => ?_
  ·refine awp_seq ?_
   refine awp_region (sys _ _ []) 72 80 hU rfl rfl ?_
   refine go_ ?_
   refine ch_n fun hU => ?_
   refine aw_r ?_
   obtain rfl := Option.some.inj hg
   exact fin_ [] ⟨rfl, rfl⟩
  ·refine awp_skip ?_
   repeat first | refine st_ ?_ | refine sn_ ?_
   refine awp_seq ?_
   refine sr_ 72 96 hU ?_
   refine go_ ?_
   refine ch_n fun hU => ?_
   refine cg_ rfl hg (fun h14 hg => ?_) fun h14 hg => ?_
   ·refine awp_seq ?_
    refine awp_region (sys _ _ []) 96 104 hU rfl rfl ?_
    refine go_ ?_
    refine ch_n fun hU => ?_
    refine aw_r ?_
    obtain rfl := Option.some.inj hg
    exact fin_ [] ⟨rfl, rfl⟩
   ·refine awp_skip ?_
    repeat first | refine st_ ?_ | refine sn_ ?_
    refine awp_seq ?_
    refine sr_ 96 120 hU ?_
    refine go_ ?_
    refine ch_n fun hU => ?_
    refine cg_ rfl hg (fun h17 hg => ?_) fun h17 hg => ?_
    ·refine awp_seq ?_
     refine awp_region (sys _ _ []) 120 128 hU rfl rfl ?_
     refine go_ ?_
     refine ch_n fun hU => ?_
     refine aw_r ?_
     obtain rfl := Option.some.inj hg
     exact fin_ [] ⟨rfl, rfl⟩
    ·refine awp_skip ?_
     repeat first | refine st_ ?_ | refine sn_ ?_
     refine sr_ 120 128 hU ?_
     refine go_ ?_
     refine ch_n fun hU => ?_
     refine aw_r ?_
     obtain rfl := Option.some.inj hg
     exact fin_ [] ⟨rfl, rfl⟩
theorem w_cmp_Or_int (vals : (List Int)) (r : Int) (hg : g_cmp_Or_int vals = some r) : Fn Try.prog 35 0 [.sl 1 (encL eI vals)] [] (fun d' b' => d' = .val (.int .i64 r) ∧ b' = []) := by
 unfold g_cmp_Or_int at hg
 refine Fn.of Try.func35 rfl rfl rfl fun w0 I ρ0 => ?_
 show awp _ ⟨w0, I, ρ0, 0, 0, 18⟩ _ _ _
 refine sr_ 0 8 mk_U ?_
 refine go_ ?_
 refine ch_n fun hU => ?_
 refine sr_ 8 16 hU ?_
 refine go_ ?_
 refine ch_n fun hU => ?_
 refine awp_seq ?_
 refine sr_ 16 40 hU ?_
 refine go_ ?_
 refine ch_n fun hU => ?_
 refine awp_block ?_
 refine lp_ (fun (x8_1 : Int) => mk [(3, .val (.int .i64 0)), (6, .sl 1 (encL eI vals)), (7, .val (.int .i64 (vals.length : Int))), (8, .val (.int .i64 x8_1))] [] 0) hg (sub_ []) ?_
 rintro x8_1 m1 o1 hg hn1
 replace hg : g_cmp_Or_int.l1 vals x8_1 = some o1 := hg
 show awp _ _ _ _ (mk _ _ _)
 unfold g_cmp_Or_int.l1 at hg
 refine sr_ 0 8 mk_U ?_
 refine go_ ?_
 refine ch_n fun hU => ?_
 refine awp_seq ?_
 refine cg_ rfl hg (fun h5 hg => ?_) fun h5 hg => ?_
 ·refine awp_skip ?_
  repeat first | refine st_ ?_ | refine sn_ ?_
  refine awp_seq ?_
  refine awp_block ?_
  refine sr_ 8 32 hU ?_
  obtain ⟨e, he, hg⟩ := bind_some hg
  refine go_ ?_
  refine c0_ rfl rfl (r_loadE1 ty3 (enc_cell eI_len (getI_at he) (o := 0) (c := .int .i64 e) rfl rfl)) rfl rfl ?_
  refine go_ ?_
  refine ch_n fun hU => ?_
  refine sr_ 32 56 hU ?_
  refine go_ ?_
  refine ch_n fun hU => ?_
  refine cg_ rfl hg (fun h8 hg => ?_) fun h8 hg => ?_
  ·refine awp_seq ?_
   refine awp_region (sys _ _ []) 56 72 hU rfl rfl ?_
   refine go_ ?_
   refine ch_n fun hU => ?_
   refine aw_r ?_
   replace hg := leave hg hn1
   obtain rfl := Option.some.inj hg
   exact fin_ [] ⟨rfl, rfl⟩
  ·refine awp_skip ?_
   repeat first | refine st_ ?_ | refine sn_ ?_
   refine awp_region (sys _ _ []) 56 72 hU rfl rfl ?_
   refine go_ ?_
   refine ch_n fun hU => ?_
   obtain rfl := Option.some.inj hg
   exact ⟨(W (x8_1 + 1), m1), Nat.lt_succ_self _, hn1, sub_ []⟩
 ·refine awp_exit ?_
  repeat first | refine st_ ?_ | refine sn_ ?_
  replace hg := leave hg hn1
  refine sr_ 8 24 hU ?_
  refine go_ ?_
  refine ch_n fun hU => ?_
  refine aw_r ?_
  obtain rfl := Option.some.inj hg
  exact fin_ [] ⟨rfl, rfl⟩
theorem w_pattern_Find_c2 (a : api_Hit) (b : api_Hit) (r : Int) (hg : g_pattern_Find_c2 a b = some r) : Fn Try.prog 34 0 [.agg [.val (.int .i64 a.Pattern), .val (.int .i64 a.At)], .agg [.val (.int .i64 b.Pattern), .val (.int .i64 b.At)]] [] (fun d' b' => d' = .val (.int .i64 r) ∧ b' = []) := by
 unfold g_pattern_Find_c2 at hg
 refine Fn.of Try.func34 rfl rfl rfl fun w0 I ρ0 => ?_
 show awp _ ⟨w0, I, ρ0, 0, 0, 17⟩ _ _ _
 refine sr_ 0 24 mk_U ?_
 refine go_ ?_
 refine ch_n fun hU => ?_
 refine awp_seq ?_
 refine awp_draw (sys _ _ []) (by kernel_rfl) [0, 1, 0, 4, 15, 0, 32, 0, 128, 511, 1023, 2047, 4095] 24 128 hU rfl rfl (by kernel_rfl) ?_
 refine go_ ?_
 obtain ⟨y, hy, hg⟩ := bind_some hg
 refine ca_ (w_cmp_Compare_int _ _ _ hy) ?_
 refine go_ ?_
 obtain ⟨y_2, hy_2, hg⟩ := bind_some hg
 refine ca_ (w_cmp_Compare_int _ _ _ hy_2) ?_
 refine c0_ rfl rfl (r_buildFull sl22 z3 (by decide) rfl rfl rfl rfl ck3 (cs := [.int .i64 y, .int .i64 y_2]) (.cons .int (.cons .int .nil)) rfl (l := ([y, y_2] : List Int)) (f := eI) rfl) rfl rfl ?_
 obtain ⟨y_3, hy_3, hg⟩ := bind_some hg
 refine cb_ [104] [] [] true (w_cmp_Or_int _ _ hy_3) ?_
 refine go_ ?_
 refine ch_n fun hU => ?_
 refine aw_r ?_
 obtain rfl := Option.some.inj hg
 exact fin_ [] ⟨rfl, rfl⟩
theorem w_slices_insertionSortCmpFunc_api_Hit_clo_34_0_ (data : List api_Hit) (a : Int) (b : Int) (cmp : api_Hit → api_Hit → Option (Int)) (hf_cmp : ∀ (x0 : api_Hit) (x1 : api_Hit) (y : Int), cmp x0 x1 = some y → Fn Try.prog 34 0 [.agg [.val (.int .i64 x0.Pattern), .val (.int .i64 x0.At)], .agg [.val (.int .i64 x1.Pattern), .val (.int .i64 x1.At)]] [] (fun d' b' => d' = .val (.int .i64 y) ∧ b' = [])) (r : (List api_Hit)) (hg : g_slices_insertionSortCmpFunc_api_Hit data a b cmp = some r) : Fn Try.prog 63 1 [.row 0, .val (.int .i64 a), .val (.int .i64 b), .clo 34 0 []] [.row 47 2 (encL api_Hit.enc data)] (fun d' b' => d' = .tup [] ∧ b' = [.row 47 2 (encL api_Hit.enc r)]) := by
 unfold g_slices_insertionSortCmpFunc_api_Hit at hg
 refine Fn.of Try.func63 rfl rfl rfl fun w0 I ρ0 => ?_
 show awp _ ⟨w0, I, ρ0, 1, 1, 53⟩ _ _ _
 refine sr_ 1 25 mk_U ?_
 refine go_ ?_
 refine ch_n fun hU => ?_
 refine awp_block ?_
 refine lp_ (fun ((i_1, data_1) : Int × List api_Hit) => mk [(0, .row 0), (1, .val (.int .i64 a)), (2, .val (.int .i64 b)), (3, .clo 34 0 []), (8, .val (.int .i64 i_1))] [(0, .row 47 2 (encL api_Hit.enc data_1))] 1) hg (sub_ [(0, 0)]) ?_
 rintro ⟨i_1, data_1⟩ m1 o1 hg hn1
 replace hg : g_slices_insertionSortCmpFunc_api_Hit.l1 a b cmp i_1 data_1 = some o1 := hg
 show awp _ _ _ _ (mk _ _ _)
 unfold g_slices_insertionSortCmpFunc_api_Hit.l1 at hg
 refine awp_seq ?_
 refine sr_ 1 25 mk_U ?_
 refine go_ ?_
 refine ch_n fun hU => ?_
 refine cg_ rfl hg (fun h3 hg => ?_) fun h3 hg => ?_
 ·refine awp_skip ?_
  repeat first | refine st_ ?_ | refine sn_ ?_
  refine awp_seq ?_
  refine awp_block ?_
  refine sr_ 25 41 hU ?_
  refine go_ ?_
  refine ch_n fun hU => ?_
  refine awp_block ?_
  refine lp_ (fun ((j_2, data_2) : Int × List api_Hit) => mk [(0, .row 0), (1, .val (.int .i64 a)), (2, .val (.int .i64 b)), (3, .clo 34 0 []), (8, .val (.int .i64 i_1)), (9, .val (.int .i64 j_2))] [(0, .row 47 2 (encL api_Hit.enc data_2))] 1) hg (sub_ [(0, 0)]) ?_
  rintro ⟨j_2, data_2⟩ m2 o2 hg hn2
  replace hg : g_slices_insertionSortCmpFunc_api_Hit.l2 a cmp i_1 j_2 data_2 = some o2 := hg
  show awp _ _ _ _ (mk _ _ _)
  unfold g_slices_insertionSortCmpFunc_api_Hit.l2 at hg
  refine awp_seq ?_
  refine awp_cut (ι := Bool) (fun (x34_3 : Bool) => mk [(0, .row 0), (1, .val (.int .i64 a)), (2, .val (.int .i64 b)), (3, .clo 34 0 []), (8, .val (.int .i64 i_1)), (9, .val (.int .i64 j_2)), (34, .val (.bool x34_3))] [(0, .row 47 2 (encL api_Hit.enc data_2))] 1) (fun (x34_3 : Bool) => g_slices_insertionSortCmpFunc_api_Hit.j3 i_1 j_2 data_2 x34_3 = some o2) ?_ ?_
  ·refine awp_draw (sys _ _ []) (by kernel_rfl) [0, 0, 3, 7, 15, 15, 15, 111, 239, 15, 15, 1039, 3599, 7695, 16383, 32767, 65535] 1 137 mk_U rfl rfl (by kernel_rfl) ?_
   refine go_ ?_
   rcases bc_ hg with ⟨h5, hg⟩ | ⟨h5, hg⟩
   ·refine go_ ?_
    obtain ⟨e, he, hg⟩ := bind_some hg
    refine go_ ?_
    refine ch_s (rd := [0]) (gdv_t rfl rfl h5) rfl (r_loadRA ty47 (enc_cells api_Hit.enc_len (getI_at he) (o := 0) (m := 2) (cs := [.int .i64 e.Pattern, .int .i64 e.At]) rfl (by decide) rfl) (enc_cells_le api_Hit.enc_len (getI_at he) (o := 0) (m := 2) (by decide) rfl)) rfl rfl ?_
    refine go_ ?_
    obtain ⟨e_2, he_2, hg⟩ := bind_some hg
    refine go_ ?_
    refine ch_s (rd := [0]) (gdv_t rfl rfl h5) rfl (r_loadRA ty47 (enc_cells api_Hit.enc_len (getI_at he_2) (o := 0) (m := 2) (cs := [.int .i64 e_2.Pattern, .int .i64 e_2.At]) rfl (by decide) rfl) (enc_cells_le api_Hit.enc_len (getI_at he_2) (o := 0) (m := 2) (by decide) rfl)) rfl rfl ?_
    obtain ⟨y, hy, hg⟩ := bind_some hg
    refine ch_callCP (rd := []) (ps := []) (gs := []) false (gdv_t rfl rfl h5) rfl (hf_cmp e e_2 _ hy) rfl rfl (.cons (.agg (.cons .val (.cons .val .nil))) (.cons (.agg (.cons .val (.cons .val .nil))) .nil)) rfl rfl (by intro h; cases h) rfl rfl rfl rfl ?_
    refine go_ ?_
    refine ch_n fun hU => ?_
    exact ⟨decide (y < 0), hg, sub_ [(0, 0)]⟩
   ·refine go_ ?_
    refine ch_n fun hU => ?_
    exact ⟨false, hg, sub_ [(0, 0)]⟩
  ·rintro x34_3 hg
   replace hg : g_slices_insertionSortCmpFunc_api_Hit.j3 i_1 j_2 data_2 x34_3 = some o2 := hg
   show awp _ _ _ _ (mk _ _ _)
   unfold g_slices_insertionSortCmpFunc_api_Hit.j3 at hg
   refine cg_ rfl hg (fun h8 hg => ?_) fun h8 hg => ?_
   ·refine awp_skip ?_
    repeat first | refine st_ ?_ | refine sn_ ?_
    refine awp_seq ?_
    refine awp_block ?_
    refine awp_draw (sys _ _ []) (by kernel_rfl) [0, 0, 0, 0, 8, 0, 0, 64, 224, 480, 0, 0, 3072, 7168, 16355, 32739, 65535, 131071] 1 145 mk_U rfl rfl (by kernel_rfl) ?_
    refine go_ ?_
    obtain ⟨e_3, he_3, hg⟩ := bind_some hg
    refine go_ ?_
    refine ch_s (rd := [0]) rfl rfl (r_loadRA ty47 (enc_cells api_Hit.enc_len (getI_at he_3) (o := 0) (m := 2) (cs := [.int .i64 e_3.Pattern, .int .i64 e_3.At]) rfl (by decide) rfl) (enc_cells_le api_Hit.enc_len (getI_at he_3) (o := 0) (m := 2) (by decide) rfl)) rfl rfl ?_
    refine go_ ?_
    obtain ⟨e_4, he_4, hg⟩ := bind_some hg
    refine go_ ?_
    refine ch_s (rd := [0]) rfl rfl (r_loadRA ty47 (enc_cells api_Hit.enc_len (getI_at he_4) (o := 0) (m := 2) (cs := [.int .i64 e_4.Pattern, .int .i64 e_4.At]) rfl (by decide) rfl) (enc_cells_le api_Hit.enc_len (getI_at he_4) (o := 0) (m := 2) (by decide) rfl)) rfl rfl ?_
    refine go_ ?_
    refine ch_s (rd := [0]) rfl rfl (r_storeR ty47 rfl (enc_cells_le api_Hit.enc_len (getI_at he_4) (o := 0) (m := 2) (by decide) rfl) ck47 (cs' := [.int .i64 e_3.Pattern, .int .i64 e_3.At]) (.cons .int (.cons .int .nil)) (enc_splice api_Hit.enc_len (getI_at he_4) (o := 0) (x' := e_3) (Nat.le_of_ble_eq_true rfl) rfl rfl)) rfl rfl ?_
    obtain ⟨e_5, he_5, hg⟩ := bind_some hg
    refine go_ ?_
    refine ch_s (rd := [0]) rfl rfl (r_storeR ty47 rfl (enc_cells_le api_Hit.enc_len (getI_at he_5) (o := 0) (m := 2) (by decide) rfl) ck47 (cs' := [.int .i64 e_4.Pattern, .int .i64 e_4.At]) (.cons .int (.cons .int .nil)) (enc_splice api_Hit.enc_len (getI_at he_5) (o := 0) (x' := e_4) (Nat.le_of_ble_eq_true rfl) rfl rfl)) rfl rfl ?_
    refine ch_n fun hU => ?_
    refine awp_region (sys _ _ []) 145 169 hU rfl rfl ?_
    refine go_ ?_
    refine ch_n fun hU => ?_
    obtain rfl := Option.some.inj hg
    exact ⟨((W (j_2 - 1), setI (setI data_2 ((j_2).toNat) e_3) ((W (j_2 - 1)).toNat) e_4), m2), Nat.lt_succ_self _, hn2, sub_ [(0, 0)]⟩
   ·refine awp_exit ?_
    repeat first | refine st_ ?_ | refine sn_ ?_
    replace hg := leave hg hn2
    refine awp_region (sys _ _ []) 1 25 mk_U rfl rfl ?_
    refine go_ ?_
    refine ch_n fun hU => ?_
    obtain rfl := Option.some.inj hg
    exact ⟨((W (i_1 + 1), data_2), m1), Nat.lt_succ_self _, hn1, sub_ [(0, 0)]⟩
 ·refine awp_exit ?_
  repeat first | refine st_ ?_ | refine sn_ ?_
  replace hg := leave hg hn1
  obtain rfl := Option.some.inj hg
  exact fin_ [(0, 0)] ⟨rfl, rfl⟩
theorem w_slices_siftDownCmpFunc_api_Hit_clo_34_0_ (data : List api_Hit) (lo : Int) (hi : Int) (first : Int) (cmp : api_Hit → api_Hit → Option (Int)) (hf_cmp : ∀ (x0 : api_Hit) (x1 : api_Hit) (y : Int), cmp x0 x1 = some y → Fn Try.prog 34 0 [.agg [.val (.int .i64 x0.Pattern), .val (.int .i64 x0.At)], .agg [.val (.int .i64 x1.Pattern), .val (.int .i64 x1.At)]] [] (fun d' b' => d' = .val (.int .i64 y) ∧ b' = [])) (r : (List api_Hit)) (hg : g_slices_siftDownCmpFunc_api_Hit data lo hi first cmp = some r) : Fn Try.prog 93 1 [.row 0, .val (.int .i64 lo), .val (.int .i64 hi), .val (.int .i64 first), .clo 34 0 []] [.row 47 2 (encL api_Hit.enc data)] (fun d' b' => d' = .tup [] ∧ b' = [.row 47 2 (encL api_Hit.enc r)]) := by
 unfold g_slices_siftDownCmpFunc_api_Hit at hg
 refine Fn.of Try.func93 rfl rfl rfl fun w0 I ρ0 => ?_
 show awp _ ⟨w0, I, ρ0, 1, 1, 82⟩ _ _ _
 refine sr_ 1 17 mk_U ?_
 refine go_ ?_
 refine ch_n fun hU => ?_
 refine awp_block ?_
 refine lp_ (fun ((root_1, data_1) : Int × List api_Hit) => mk [(0, .row 0), (2, .val (.int .i64 hi)), (3, .val (.int .i64 first)), (4, .clo 34 0 []), (10, .val (.int .i64 root_1))] [(0, .row 47 2 (encL api_Hit.enc data_1))] 1) hg (sub_ [(0, 0)]) ?_
 rintro ⟨root_1, data_1⟩ m1 o1 hg hn1
 replace hg : g_slices_siftDownCmpFunc_api_Hit.l1 hi first cmp root_1 data_1 = some o1 := hg
 show awp _ _ _ _ (mk _ _ _)
 unfold g_slices_siftDownCmpFunc_api_Hit.l1 at hg
 refine awp_block ?_
 refine sr_ 1 33 mk_U ?_
 refine go_ ?_
 refine ch_n fun hU => ?_
 refine awp_seq ?_
 refine sr_ 33 57 hU ?_
 refine go_ ?_
 refine ch_n fun hU => ?_
 refine cg_ rfl hg (fun h4 hg => ?_) fun h4 hg => ?_
 ·refine awp_exit ?_
  repeat first | refine st_ ?_ | refine sn_ ?_
  replace hg := leave hg hn1
  obtain rfl := Option.some.inj hg
  exact fin_ [(0, 0)] ⟨rfl, rfl⟩
 ·refine awp_skip ?_
  repeat first | refine st_ ?_ | refine sn_ ?_
  refine awp_cut (ι := Int) (fun (child_3 : Int) => mk [(0, .row 0), (2, .val (.int .i64 hi)), (3, .val (.int .i64 first)), (4, .clo 34 0 []), (10, .val (.int .i64 root_1)), (11, .val (.int .i64 child_3))] [(0, .row 47 2 (encL api_Hit.enc data_1))] 1) (fun (child_3 : Int) => g_slices_siftDownCmpFunc_api_Hit.j3 first cmp root_1 data_1 child_3 = some o1) ?_ ?_
  ·refine awp_cut (ι := Bool) (fun (x40_2 : Bool) => mk [(0, .row 0), (2, .val (.int .i64 hi)), (3, .val (.int .i64 first)), (4, .clo 34 0 []), (10, .val (.int .i64 root_1)), (11, .val (.int .i64 (W ((W (2 * root_1)) + 1)))), (40, .val (.bool x40_2))] [(0, .row 47 2 (encL api_Hit.enc data_1))] 1) (fun (x40_2 : Bool) => g_slices_siftDownCmpFunc_api_Hit.j2 first cmp root_1 data_1 x40_2 = some o1) ?_ ?_
   ·refine awp_draw (sys _ _ []) (by kernel_rfl) [0, 1, 0, 7, 15, 31, 31, 31, 31, 415, 991, 2015, 31, 31, 31, 24607, 57375, 127007, 258079, 524287, 1048575, 2097151] 57 233 hU rfl rfl (by kernel_rfl) ?_
    refine go_ ?_
    rcases bc_ hg with ⟨h5, hg⟩ | ⟨h5, hg⟩
    ·refine go_ ?_
     obtain ⟨e, he, hg⟩ := bind_some hg
     refine go_ ?_
     refine ch_s (rd := [0]) (gdv_t rfl rfl h5) rfl (r_loadRA ty47 (enc_cells api_Hit.enc_len (getI_at he) (o := 0) (m := 2) (cs := [.int .i64 e.Pattern, .int .i64 e.At]) rfl (by decide) rfl) (enc_cells_le api_Hit.enc_len (getI_at he) (o := 0) (m := 2) (by decide) rfl)) rfl rfl ?_
     refine go_ ?_
     obtain ⟨e_2, he_2, hg⟩ := bind_some hg
     refine go_ ?_
     refine ch_s (rd := [0]) (gdv_t rfl rfl h5) rfl (r_loadRA ty47 (enc_cells api_Hit.enc_len (getI_at he_2) (o := 0) (m := 2) (cs := [.int .i64 e_2.Pattern, .int .i64 e_2.At]) rfl (by decide) rfl) (enc_cells_le api_Hit.enc_len (getI_at he_2) (o := 0) (m := 2) (by decide) rfl)) rfl rfl ?_
     obtain ⟨y, hy, hg⟩ := bind_some hg
     refine ch_callCP (rd := []) (ps := []) (gs := []) false (gdv_t rfl rfl h5) rfl (hf_cmp e e_2 _ hy) rfl rfl (.cons (.agg (.cons .val (.cons .val .nil))) (.cons (.agg (.cons .val (.cons .val .nil))) .nil)) rfl rfl (by intro h; cases h) rfl rfl rfl rfl ?_
     refine go_ ?_
     refine ch_n fun hU => ?_
     exact ⟨decide (y < 0), hg, sub_ [(0, 0)]⟩
    ·refine go_ ?_
     refine ch_n fun hU => ?_
     exact ⟨false, hg, sub_ [(0, 0)]⟩
   ·rintro x40_2 hg
    replace hg : g_slices_siftDownCmpFunc_api_Hit.j2 first cmp root_1 data_1 x40_2 = some o1 := hg
    show awp _ _ _ _ (mk _ _ _)
    unfold g_slices_siftDownCmpFunc_api_Hit.j2 at hg
    refine cg_ rfl hg (fun h8 hg => ?_) fun h8 hg => ?_
    ·refine awp_region (sys _ _ []) 1 25 mk_U rfl rfl ?_
     refine go_ ?_
     refine ch_n fun hU => ?_
     exact ⟨W ((W ((W (2 * root_1)) + 1)) + 1), hg, sub_ [(0, 0)]⟩
    ·refine awp_skip ?_
     repeat first | refine st_ ?_ | refine sn_ ?_
     exact ⟨W ((W (2 * root_1)) + 1), hg, sub_ [(0, 0)]⟩
  ·rintro child_3 hg
   replace hg : g_slices_siftDownCmpFunc_api_Hit.j3 first cmp root_1 data_1 child_3 = some o1 := hg
   show awp _ _ _ _ (mk _ _ _)
   unfold g_slices_siftDownCmpFunc_api_Hit.j3 at hg
   refine awp_seq ?_
   refine awp_seq ?_
   refine awp_draw (sys _ _ []) (by kernel_rfl) [0, 0, 0, 0, 12, 30, 62, 0, 0, 0, 768, 1920, 3968, 8191, 16383, 32767] 1 129 mk_U rfl rfl (by kernel_rfl) ?_
   refine go_ ?_
   obtain ⟨e_3, he_3, hg⟩ := bind_some hg
   refine go_ ?_
   refine ch_s (rd := [0]) rfl rfl (r_loadRA ty47 (enc_cells api_Hit.enc_len (getI_at he_3) (o := 0) (m := 2) (cs := [.int .i64 e_3.Pattern, .int .i64 e_3.At]) rfl (by decide) rfl) (enc_cells_le api_Hit.enc_len (getI_at he_3) (o := 0) (m := 2) (by decide) rfl)) rfl rfl ?_
   refine go_ ?_
   obtain ⟨e_4, he_4, hg⟩ := bind_some hg
   refine go_ ?_
   refine ch_s (rd := [0]) rfl rfl (r_loadRA ty47 (enc_cells api_Hit.enc_len (getI_at he_4) (o := 0) (m := 2) (cs := [.int .i64 e_4.Pattern, .int .i64 e_4.At]) rfl (by decide) rfl) (enc_cells_le api_Hit.enc_len (getI_at he_4) (o := 0) (m := 2) (by decide) rfl)) rfl rfl ?_
   obtain ⟨y_2, hy_2, hg⟩ := bind_some hg
   refine ch_callCP (rd := []) (ps := []) (gs := []) false rfl rfl (hf_cmp e_3 e_4 _ hy_2) rfl rfl (.cons (.agg (.cons .val (.cons .val .nil))) (.cons (.agg (.cons .val (.cons .val .nil))) .nil)) rfl rfl (by intro h; cases h) rfl rfl rfl rfl ?_
   refine go_ ?_
   refine ch_n fun hU => ?_
   refine cg_ rfl hg (fun h11 hg => ?_) fun h11 hg => ?_
   ·refine awp_ret ?_
    repeat first | refine st_ ?_ | refine sn_ ?_
    replace hg := leave hg hn1
    obtain rfl := Option.some.inj hg
    exact fin_ [(0, 0)] ⟨rfl, rfl⟩
   ·refine awp_skip ?_
    repeat first | refine st_ ?_ | refine sn_ ?_
    refine awp_seq ?_
    refine awp_draw (sys _ _ []) (by kernel_rfl) [0, 0, 0, 6, 0, 0, 0, 96, 0, 0, 0, 1536, 3840, 7936, 0, 0, 0, 98304, 245760, 507904, 1048335, 2096911, 4194303, 8388607] 129 321 hU rfl rfl (by kernel_rfl) ?_
    refine go_ ?_
    refine ch_s (rd := [0]) rfl rfl (r_loadRA ty47 (enc_cells api_Hit.enc_len (getI_at he_4) (o := 0) (m := 2) (cs := [.int .i64 e_4.Pattern, .int .i64 e_4.At]) rfl (by decide) rfl) (enc_cells_le api_Hit.enc_len (getI_at he_4) (o := 0) (m := 2) (by decide) rfl)) rfl rfl ?_
    refine go_ ?_
    refine ch_s (rd := [0]) rfl rfl (r_loadRA ty47 (enc_cells api_Hit.enc_len (getI_at he_3) (o := 0) (m := 2) (cs := [.int .i64 e_3.Pattern, .int .i64 e_3.At]) rfl (by decide) rfl) (enc_cells_le api_Hit.enc_len (getI_at he_3) (o := 0) (m := 2) (by decide) rfl)) rfl rfl ?_
    refine go_ ?_
    refine ch_s (rd := [0]) rfl rfl (r_storeR ty47 rfl (enc_cells_le api_Hit.enc_len (getI_at he_3) (o := 0) (m := 2) (by decide) rfl) ck47 (cs' := [.int .i64 e_4.Pattern, .int .i64 e_4.At]) (.cons .int (.cons .int .nil)) (enc_splice api_Hit.enc_len (getI_at he_3) (o := 0) (x' := e_4) (Nat.le_of_ble_eq_true rfl) rfl rfl)) rfl rfl ?_
    obtain ⟨e_5, he_5, hg⟩ := bind_some hg
    refine go_ ?_
    refine ch_s (rd := [0]) rfl rfl (r_storeR ty47 rfl (enc_cells_le api_Hit.enc_len (getI_at he_5) (o := 0) (m := 2) (by decide) rfl) ck47 (cs' := [.int .i64 e_3.Pattern, .int .i64 e_3.At]) (.cons .int (.cons .int .nil)) (enc_splice api_Hit.enc_len (getI_at he_5) (o := 0) (x' := e_3) (Nat.le_of_ble_eq_true rfl) rfl rfl)) rfl rfl ?_
    refine ch_n fun hU => ?_
    refine awp_region (sys _ _ []) 321 337 hU rfl rfl ?_
    refine go_ ?_
    refine ch_n fun hU => ?_
    obtain rfl := Option.some.inj hg
    exact ⟨((child_3, setI (setI data_1 ((W (first + root_1)).toNat) e_4) ((W (first + child_3)).toNat) e_3), m1), Nat.lt_succ_self _, hn1, sub_ [(0, 0)]⟩
theorem w_slices_heapSortCmpFunc_api_Hit_clo_34_0_ (data : List api_Hit) (a : Int) (b : Int) (cmp : api_Hit → api_Hit → Option (Int)) (hf_cmp : ∀ (x0 : api_Hit) (x1 : api_Hit) (y : Int), cmp x0 x1 = some y → Fn Try.prog 34 0 [.agg [.val (.int .i64 x0.Pattern), .val (.int .i64 x0.At)], .agg [.val (.int .i64 x1.Pattern), .val (.int .i64 x1.At)]] [] (fun d' b' => d' = .val (.int .i64 y) ∧ b' = [])) (r : (List api_Hit)) (hg : g_slices_heapSortCmpFunc_api_Hit data a b cmp = some r) : Fn Try.prog 64 1 [.row 0, .val (.int .i64 a), .val (.int .i64 b), .clo 34 0 []] [.row 47 2 (encL api_Hit.enc data)] (fun d' b' => d' = .tup [] ∧ b' = [.row 47 2 (encL api_Hit.enc r)]) := by
 unfold g_slices_heapSortCmpFunc_api_Hit at hg
 refine Fn.of Try.func64 rfl rfl rfl fun w0 I ρ0 => ?_
 show awp _ ⟨w0, I, ρ0, 1, 1, 60⟩ _ _ _
 refine sr_ 1 17 mk_U ?_
 refine go_ ?_
 refine ch_n fun hU => ?_
 refine sr_ 17 25 hU ?_
 refine go_ ?_
 refine ch_n fun hU => ?_
 refine sr_ 25 57 hU ?_
 refine go_ ?_
 refine ch_n fun hU => ?_
 refine awp_seq ?_
 refine sr_ 57 89 hU ?_
 refine go_ ?_
 obtain ⟨q, hq, hg⟩ := bind_some hg
 refine c0_ rfl rfl (r_quo hq) rfl rfl ?_
 refine go_ ?_
 refine ch_n fun hU => ?_
 refine awp_block ?_
 refine lp_ (fun ((i_1, data_1) : Int × List api_Hit) => mk [(0, .row 0), (3, .clo 34 0 []), (8, .val (.int .i64 a)), (9, .val (.int .i64 0)), (10, .val (.int .i64 (W (b - a)))), (11, .val (.int .i64 i_1))] [(0, .row 47 2 (encL api_Hit.enc data_1))] 1) hg (sub_ [(0, 0)]) ?_
 rintro ⟨i_1, data_1⟩ m1 o1 hg hn1
 replace hg : g_slices_heapSortCmpFunc_api_Hit.l1 a b cmp i_1 data_1 = some o1 := hg
 show awp _ _ _ _ (mk _ _ _)
 unfold g_slices_heapSortCmpFunc_api_Hit.l1 at hg
 refine awp_seq ?_
 refine sr_ 1 17 mk_U ?_
 refine go_ ?_
 refine ch_n fun hU => ?_
 refine cg_ rfl hg (fun h6 hg => ?_) fun h6 hg => ?_
 ·refine awp_skip ?_
  repeat first | refine st_ ?_ | refine sn_ ?_
  refine awp_seq ?_
  refine awp_block ?_
  refine awp_region (sys _ _ []) 17 65 hU rfl rfl ?_
  refine go_ ?_
  obtain ⟨y, hy, hg⟩ := bind_some hg
  refine cb_ [0] [0] [] false (w_slices_siftDownCmpFunc_api_Hit_clo_34_0_ data_1 i_1 (W (b - a)) a cmp hf_cmp _ hy) ?_
  refine ch_n fun hU => ?_
  refine awp_region (sys _ _ []) 65 89 hU rfl rfl ?_
  refine go_ ?_
  refine ch_n fun hU => ?_
  obtain rfl := Option.some.inj hg
  exact ⟨((W (i_1 - 1), y), m1), Nat.lt_succ_self _, hn1, sub_ [(0, 0)]⟩
 ·refine awp_exit ?_
  repeat first | refine st_ ?_ | refine sn_ ?_
  replace hg := leave hg hn1
  refine sr_ 17 41 hU ?_
  refine go_ ?_
  refine ch_n fun hU => ?_
  refine awp_block ?_
  refine lp_ (fun ((i_2, data_2) : Int × List api_Hit) => mk [(0, .row 0), (3, .clo 34 0 []), (8, .val (.int .i64 a)), (9, .val (.int .i64 0)), (12, .val (.int .i64 i_2))] [(0, .row 47 2 (encL api_Hit.enc data_2))] 1) hg (sub_ [(0, 0)]) ?_
  rintro ⟨i_2, data_2⟩ m2 o2 hg hn2
  replace hg : g_slices_heapSortCmpFunc_api_Hit.l2 a cmp i_2 data_2 = some o2 := hg
  show awp _ _ _ _ (mk _ _ _)
  unfold g_slices_heapSortCmpFunc_api_Hit.l2 at hg
  refine awp_seq ?_
  refine sr_ 1 17 mk_U ?_
  refine go_ ?_
  refine ch_n fun hU => ?_
  refine cg_ rfl hg (fun h11 hg => ?_) fun h11 hg => ?_
  ·refine awp_skip ?_
   repeat first | refine st_ ?_ | refine sn_ ?_
   refine awp_seq ?_
   refine awp_block ?_
   refine awp_seq ?_
   refine awp_draw (sys _ _ []) (by kernel_rfl) [0, 0, 0, 0, 0, 24, 0, 0, 0, 384, 960, 1984, 0, 0, 12288, 28672, 65475, 131011, 262143, 524287] 17 177 hU rfl rfl (by kernel_rfl) ?_
   refine go_ ?_
   obtain ⟨e, he, hg⟩ := bind_some hg
   refine go_ ?_
   refine ch_s (rd := [0]) rfl rfl (r_loadRA ty47 (enc_cells api_Hit.enc_len (getI_at he) (o := 0) (m := 2) (cs := [.int .i64 e.Pattern, .int .i64 e.At]) rfl (by decide) rfl) (enc_cells_le api_Hit.enc_len (getI_at he) (o := 0) (m := 2) (by decide) rfl)) rfl rfl ?_
   refine go_ ?_
   obtain ⟨e_2, he_2, hg⟩ := bind_some hg
   refine go_ ?_
   refine ch_s (rd := [0]) rfl rfl (r_loadRA ty47 (enc_cells api_Hit.enc_len (getI_at he_2) (o := 0) (m := 2) (cs := [.int .i64 e_2.Pattern, .int .i64 e_2.At]) rfl (by decide) rfl) (enc_cells_le api_Hit.enc_len (getI_at he_2) (o := 0) (m := 2) (by decide) rfl)) rfl rfl ?_
   refine go_ ?_
   refine ch_s (rd := [0]) rfl rfl (r_storeR ty47 rfl (enc_cells_le api_Hit.enc_len (getI_at he_2) (o := 0) (m := 2) (by decide) rfl) ck47 (cs' := [.int .i64 e.Pattern, .int .i64 e.At]) (.cons .int (.cons .int .nil)) (enc_splice api_Hit.enc_len (getI_at he_2) (o := 0) (x' := e) (Nat.le_of_ble_eq_true rfl) rfl rfl)) rfl rfl ?_
   obtain ⟨e_3, he_3, hg⟩ := bind_some hg
   refine go_ ?_
   refine ch_s (rd := [0]) rfl rfl (r_storeR ty47 rfl (enc_cells_le api_Hit.enc_len (getI_at he_3) (o := 0) (m := 2) (by decide) rfl) ck47 (cs' := [.int .i64 e_2.Pattern, .int .i64 e_2.At]) (.cons .int (.cons .int .nil)) (enc_splice api_Hit.enc_len (getI_at he_3) (o := 0) (x' := e_2) (Nat.le_of_ble_eq_true rfl) rfl rfl)) rfl rfl ?_
   refine ch_n fun hU => ?_
   refine awp_region (sys _ _ []) 177 225 hU rfl rfl ?_
   refine go_ ?_
   obtain ⟨y_2, hy_2, hg⟩ := bind_some hg
   refine cb_ [0] [0] [] false (w_slices_siftDownCmpFunc_api_Hit_clo_34_0_ (setI (setI data_2 ((a).toNat) e) ((W (a + i_2)).toNat) e_2) 0 i_2 a cmp hf_cmp _ hy_2) ?_
   refine ch_n fun hU => ?_
   refine awp_region (sys _ _ []) 225 249 hU rfl rfl ?_
   refine go_ ?_
   refine ch_n fun hU => ?_
   obtain rfl := Option.some.inj hg
   exact ⟨((W (i_2 - 1), y_2), m2), Nat.lt_succ_self _, hn2, sub_ [(0, 0)]⟩
  ·refine awp_exit ?_
   repeat first | refine st_ ?_ | refine sn_ ?_
   replace hg := leave hg hn2
   obtain rfl := Option.some.inj hg
   exact fin_ [(0, 0)] ⟨rfl, rfl⟩
theorem w_slices_nextPowerOfTwo (length : Int) (r : Int) (hg : g_slices_nextPowerOfTwo length = some r) : Fn Try.prog 94 0 [.val (.int .i64 length)] [] (fun d' b' => d' = .val (.int .u64 r) ∧ b' = []) := by
 unfold g_slices_nextPowerOfTwo at hg
 refine Fn.of Try.func94 rfl rfl rfl fun w0 I ρ0 => ?_
 show awp _ ⟨w0, I, ρ0, 0, 0, 7⟩ _ _ _
 refine sr_ 0 8 mk_U ?_
 refine go_ ?_
 refine ch_n fun hU => ?_
 refine sr_ 8 48 hU ?_
 refine go_ ?_
 refine c0_ rfl rfl (r_convK und3 und91) rfl rfl ?_
 obtain ⟨y, hy, hg⟩ := bind_some hg
 refine ca_ (w_math_bits_Len _ _ hy) ?_
 obtain ⟨q, hq, hg⟩ := bind_some hg
 refine c0_ rfl rfl (r_shlK hq) rfl rfl ?_
 refine go_ ?_
 refine ch_n fun hU => ?_
 refine aw_r ?_
 obtain rfl := Option.some.inj hg
 exact fin_ [] ⟨rfl, rfl⟩
theorem w_slices_xorshift_Next (r' : Int) (r : Int × Int) (hg : g_slices_xorshift_Next r' = some r) : Fn Try.prog 95 1 [.ptr 0 0] [.box [.val (.int .u64 r')] 129] (fun d' b' => d' = .val (.int .u64 r.1) ∧ b' = [.box [.val (.int .u64 r.2)] 129]) := by
 unfold g_slices_xorshift_Next at hg
 refine Fn.of Try.func95 rfl rfl rfl fun w0 I ρ0 => ?_
 show awp _ ⟨w0, I, ρ0, 1, 1, 33⟩ _ _ _
 refine sr_ 1 9 mk_U ?_
 refine go_ ?_
 refine ch_n fun hU => ?_
 refine awp_seq ?_
 refine awp_draw (sys _ _ []) (by kernel_rfl) [0, 1, 3, 0, 8, 24, 56, 127, 255, 511] 9 89 hU rfl rfl (by kernel_rfl) ?_
 refine go_ ?_
 obtain ⟨q, hq, hg⟩ := bind_some hg
 refine c0_ rfl rfl (r_shlK hq) rfl rfl ?_
 refine c0_ rfl rfl r_xorK rfl rfl ?_
 refine go_ ?_
 refine ch_n fun hU => ?_
 refine awp_seq ?_
 refine awp_draw (sys _ _ []) (by kernel_rfl) [0, 1, 3, 0, 8, 24, 56, 127, 255, 511] 89 169 hU rfl rfl (by kernel_rfl) ?_
 refine go_ ?_
 obtain ⟨q_2, hq_2, hg⟩ := bind_some hg
 refine c0_ rfl rfl (r_shrK hq_2) rfl rfl ?_
 refine c0_ rfl rfl r_xorK rfl rfl ?_
 refine go_ ?_
 refine ch_n fun hU => ?_
 refine awp_seq ?_
 refine awp_draw (sys _ _ []) (by kernel_rfl) [0, 1, 3, 0, 8, 24, 56, 127, 255, 511] 169 249 hU rfl rfl (by kernel_rfl) ?_
 refine go_ ?_
 obtain ⟨q_3, hq_3, hg⟩ := bind_some hg
 refine c0_ rfl rfl (r_shlK hq_3) rfl rfl ?_
 refine c0_ rfl rfl r_xorK rfl rfl ?_
 refine go_ ?_
 refine ch_n fun hU => ?_
 refine sr_ 249 281 hU ?_
 refine go_ ?_
 refine ch_n fun hU => ?_
 refine aw_r ?_
 obtain rfl := Option.some.inj hg
 exact fin_ [(0, 0)] ⟨rfl, rfl⟩
theorem w_slices_breakPatternsCmpFunc_api_Hit_clo_34_0_ (data : List api_Hit) (a : Int) (b : Int) (cmp : api_Hit → api_Hit → Option (Int)) (hf_cmp : ∀ (x0 : api_Hit) (x1 : api_Hit) (y : Int), cmp x0 x1 = some y → Fn Try.prog 34 0 [.agg [.val (.int .i64 x0.Pattern), .val (.int .i64 x0.At)], .agg [.val (.int .i64 x1.Pattern), .val (.int .i64 x1.At)]] [] (fun d' b' => d' = .val (.int .i64 y) ∧ b' = [])) (r : (List api_Hit)) (hg : g_slices_breakPatternsCmpFunc_api_Hit data a b cmp = some r) : Fn Try.prog 65 1 [.row 0, .val (.int .i64 a), .val (.int .i64 b), .clo 34 0 []] [.row 47 2 (encL api_Hit.enc data)] (fun d' b' => d' = .tup [] ∧ b' = [.row 47 2 (encL api_Hit.enc r)]) := by
 unfold g_slices_breakPatternsCmpFunc_api_Hit at hg
 refine Fn.of Try.func65 rfl rfl rfl fun w0 I ρ0 => ?_
 show awp _ ⟨w0, I, ρ0, 1, 1, 67⟩ _ _ _
 refine sr_ 1 33 mk_U ?_
 refine go_ ?_
 refine ch_n fun hU => ?_
 refine sr_ 33 49 hU ?_
 refine go_ ?_
 refine ch_n fun hU => ?_
 refine cg_ rfl hg (fun h3 hg => ?_) fun h3 hg => ?_
 ·refine awp_seq ?_
  refine awp_region (sys _ _ []) 49 81 hU rfl rfl ?_
  refine go_ ?_
  refine c0_ rfl rfl (r_convK und3 und129) rfl rfl ?_
  refine go_ ?_
  refine ch_n fun hU => ?_
  refine sr_ 81 105 hU ?_
  refine go_ ?_
  obtain ⟨y, hy, hg⟩ := bind_some hg
  refine ca_ (w_slices_nextPowerOfTwo _ _ hy) ?_
  refine go_ ?_
  refine ch_n fun hU => ?_
  refine sr_ 105 161 hU ?_
  refine go_ ?_
  obtain ⟨q, hq, hg⟩ := bind_some hg
  refine c0_ rfl rfl (r_quo hq) rfl rfl ?_
  refine go_ ?_
  refine ch_n fun hU => ?_
  refine awp_block ?_
  refine lp_ (fun ((idx_1, data_1, random_1) : Int × List api_Hit × Int) => mk [(0, .row 0), (1, .val (.int .i64 a)), (8, .val (.int .i64 (W (b - a)))), (9, .ptr 1 0), (10, .val (.int .u64 y)), (11, .val (.int .i64 idx_1))] [(0, .row 47 2 (encL api_Hit.enc data_1)), (1, .box [.val (.int .u64 random_1)] 129)] 2) hg (sub_ [(0, 0), (1, 65)]) ?_
  rintro ⟨idx_1, data_1, random_1⟩ m1 o1 hg hn1
  replace hg : g_slices_breakPatternsCmpFunc_api_Hit.l1 a b y idx_1 data_1 random_1 = some o1 := hg
  show awp _ _ _ _ (mk _ _ _)
  unfold g_slices_breakPatternsCmpFunc_api_Hit.l1 at hg
  refine awp_seq ?_
  refine sr_ 2 66 mk_U ?_
  refine go_ ?_
  obtain ⟨q_2, hq_2, hg⟩ := bind_some hg
  refine c0_ rfl rfl (r_quo hq_2) rfl rfl ?_
  refine go_ ?_
  refine ch_n fun hU => ?_
  refine cg_ rfl hg (fun h8 hg => ?_) fun h8 hg => ?_
  ·refine awp_skip ?_
   repeat first | refine st_ ?_ | refine sn_ ?_
   refine awp_seq ?_
   refine awp_block ?_
   refine sr_ 66 114 hU ?_
   obtain ⟨y_2, hy_2, hg⟩ := bind_some hg
   refine cb_ [1] [1] [] false (w_slices_xorshift_Next _ _ hy_2) ?_
   refine go_ ?_
   refine c0_ rfl rfl r_subK rfl rfl ?_
   refine c0_ rfl rfl r_andK rfl rfl ?_
   refine c0_ rfl rfl (r_conv_i64 und91 und3) rfl rfl ?_
   refine go_ ?_
   refine ch_n fun hU => ?_
   refine awp_cut (ι := Int) (fun (other_2 : Int) => mk [(0, .row 0), (1, .val (.int .i64 a)), (8, .val (.int .i64 (W (b - a)))), (9, .ptr 1 0), (10, .val (.int .u64 y)), (11, .val (.int .i64 idx_1)), (12, .val (.int .i64 other_2))] [(0, .row 47 2 (encL api_Hit.enc data_1)), (1, .box [.val (.int .u64 y_2.2)] 129)] 2) (fun (other_2 : Int) => g_slices_breakPatternsCmpFunc_api_Hit.j2 a idx_1 data_1 y_2 other_2 = some o1) ?_ ?_
   ·refine awp_seq ?_
    refine awp_region (sys _ _ []) 114 138 hU rfl rfl ?_
    refine go_ ?_
    refine ch_n fun hU => ?_
    refine cg_ rfl hg (fun h11 hg => ?_) fun h11 hg => ?_
    ·refine awp_region (sys _ _ []) 138 170 hU rfl rfl ?_
     refine go_ ?_
     refine ch_n fun hU => ?_
     exact ⟨W ((W (andK .u64 y_2.1 (IntKind.wrap .u64 (y - 1)))) - (W (b - a))), hg, sub_ [(0, 0), (1, 1)]⟩
    ·refine awp_skip ?_
     repeat first | refine st_ ?_ | refine sn_ ?_
     exact ⟨W (andK .u64 y_2.1 (IntKind.wrap .u64 (y - 1))), hg, sub_ [(0, 0), (1, 1)]⟩
   ·rintro other_2 hg
    replace hg : g_slices_breakPatternsCmpFunc_api_Hit.j2 a idx_1 data_1 y_2 other_2 = some o1 := hg
    show awp _ _ _ _ (mk _ _ _)
    unfold g_slices_breakPatternsCmpFunc_api_Hit.j2 at hg
    refine awp_draw (sys _ _ []) (by kernel_rfl) [0, 0, 0, 0, 0, 24, 0, 0, 0, 384, 960, 1984, 0, 0, 12288, 28672, 65475, 131011, 262143, 524287] 2 162 mk_U rfl rfl (by kernel_rfl) ?_
    refine go_ ?_
    obtain ⟨e, he, hg⟩ := bind_some hg
    refine go_ ?_
    refine ch_s (rd := [0]) rfl rfl (r_loadRA ty47 (enc_cells api_Hit.enc_len (getI_at he) (o := 0) (m := 2) (cs := [.int .i64 e.Pattern, .int .i64 e.At]) rfl (by decide) rfl) (enc_cells_le api_Hit.enc_len (getI_at he) (o := 0) (m := 2) (by decide) rfl)) rfl rfl ?_
    refine go_ ?_
    obtain ⟨e_2, he_2, hg⟩ := bind_some hg
    refine go_ ?_
    refine ch_s (rd := [0]) rfl rfl (r_loadRA ty47 (enc_cells api_Hit.enc_len (getI_at he_2) (o := 0) (m := 2) (cs := [.int .i64 e_2.Pattern, .int .i64 e_2.At]) rfl (by decide) rfl) (enc_cells_le api_Hit.enc_len (getI_at he_2) (o := 0) (m := 2) (by decide) rfl)) rfl rfl ?_
    refine go_ ?_
    refine ch_s (rd := [0]) rfl rfl (r_storeR ty47 rfl (enc_cells_le api_Hit.enc_len (getI_at he_2) (o := 0) (m := 2) (by decide) rfl) ck47 (cs' := [.int .i64 e.Pattern, .int .i64 e.At]) (.cons .int (.cons .int .nil)) (enc_splice api_Hit.enc_len (getI_at he_2) (o := 0) (x' := e) (Nat.le_of_ble_eq_true rfl) rfl rfl)) rfl rfl ?_
    obtain ⟨e_3, he_3, hg⟩ := bind_some hg
    refine go_ ?_
    refine ch_s (rd := [0]) rfl rfl (r_storeR ty47 rfl (enc_cells_le api_Hit.enc_len (getI_at he_3) (o := 0) (m := 2) (by decide) rfl) ck47 (cs' := [.int .i64 e_2.Pattern, .int .i64 e_2.At]) (.cons .int (.cons .int .nil)) (enc_splice api_Hit.enc_len (getI_at he_3) (o := 0) (x' := e_2) (Nat.le_of_ble_eq_true rfl) rfl rfl)) rfl rfl ?_
    refine ch_n fun hU => ?_
    refine awp_region (sys _ _ []) 162 186 hU rfl rfl ?_
    refine go_ ?_
    refine ch_n fun hU => ?_
    obtain rfl := Option.some.inj hg
    exact ⟨((W (idx_1 + 1), setI (setI data_1 ((idx_1).toNat) e) ((W (a + other_2)).toNat) e_2, y_2.2), m1), Nat.lt_succ_self _, hn1, sub_ [(0, 0), (1, 1)]⟩
  ·refine awp_exit ?_
   repeat first | refine st_ ?_ | refine sn_ ?_
   replace hg := leave hg hn1
   obtain rfl := Option.some.inj hg
   exact fin_ [(0, 0)] ⟨rfl, rfl⟩
 ·refine awp_skip ?_
  repeat first | refine st_ ?_ | refine sn_ ?_
  obtain rfl := Option.some.inj hg
  exact fin_ [(0, 0)] ⟨rfl, rfl⟩
theorem w_slices_order2CmpFunc_api_Hit_clo_34_0_ (data : (List api_Hit)) (a : Int) (b : Int) (swaps : Int) (cmp : api_Hit → api_Hit → Option (Int)) (hf_cmp : ∀ (x0 : api_Hit) (x1 : api_Hit) (y : Int), cmp x0 x1 = some y → Fn Try.prog 34 0 [.agg [.val (.int .i64 x0.Pattern), .val (.int .i64 x0.At)], .agg [.val (.int .i64 x1.Pattern), .val (.int .i64 x1.At)]] [] (fun d' b' => d' = .val (.int .i64 y) ∧ b' = [])) (r : Int × Int × Int) (hg : g_slices_order2CmpFunc_api_Hit data a b swaps cmp = some r) : Fn Try.prog 103 1 [.sl 2 (encL api_Hit.enc data), .val (.int .i64 a), .val (.int .i64 b), .ptr 0 0, .clo 34 0 []] [.box [.val (.int .i64 swaps)] 3] (fun d' b' => d' = .tup [.val (.int .i64 r.1), .val (.int .i64 r.2.1)] ∧ b' = [.box [.val (.int .i64 r.2.2)] 3]) := by
 unfold g_slices_order2CmpFunc_api_Hit at hg
 refine Fn.of Try.func103 rfl rfl rfl fun w0 I ρ0 => ?_
 show awp _ ⟨w0, I, ρ0, 1, 1, 32⟩ _ _ _
 refine sr_ 1 17 mk_U ?_
 refine go_ ?_
 refine ch_n fun hU => ?_
 refine awp_seq ?_
 refine awp_seq ?_
 refine awp_draw (sys _ _ []) (by kernel_rfl) [0, 0, 0, 6, 14, 0, 0, 96, 224, 511, 1023] 17 105 hU rfl rfl (by kernel_rfl) ?_
 refine go_ ?_
 obtain ⟨e, he, hg⟩ := bind_some hg
 refine go_ ?_
 refine c0_ rfl rfl (r_loadEA ty47 (enc_cells api_Hit.enc_len (getI_at he) (o := 0) (m := 2) (cs := [.int .i64 e.Pattern, .int .i64 e.At]) rfl (by decide) rfl) (enc_cells_le api_Hit.enc_len (getI_at he) (o := 0) (m := 2) (by decide) rfl)) rfl rfl ?_
 refine go_ ?_
 obtain ⟨e_2, he_2, hg⟩ := bind_some hg
 refine go_ ?_
 refine c0_ rfl rfl (r_loadEA ty47 (enc_cells api_Hit.enc_len (getI_at he_2) (o := 0) (m := 2) (cs := [.int .i64 e_2.Pattern, .int .i64 e_2.At]) rfl (by decide) rfl) (enc_cells_le api_Hit.enc_len (getI_at he_2) (o := 0) (m := 2) (by decide) rfl)) rfl rfl ?_
 obtain ⟨y, hy, hg⟩ := bind_some hg
 refine ch_callCP (rd := []) (ps := []) (gs := []) false rfl rfl (hf_cmp e e_2 _ hy) rfl rfl (.cons (.agg (.cons .val (.cons .val .nil))) (.cons (.agg (.cons .val (.cons .val .nil))) .nil)) rfl rfl (by intro h; cases h) rfl rfl rfl rfl ?_
 refine go_ ?_
 refine ch_n fun hU => ?_
 refine cg_ rfl hg (fun h3 hg => ?_) fun h3 hg => ?_
 ·refine awp_seq ?_
  refine awp_region (sys _ _ []) 105 153 hU rfl rfl ?_
  refine go_ ?_
  refine ch_n fun hU => ?_
  refine sr_ 153 185 hU ?_
  refine go_ ?_
  refine ch_n fun hU => ?_
  refine aw_r ?_
  obtain rfl := Option.some.inj hg
  exact fin_ [(0, 0)] ⟨rfl, rfl⟩
 ·refine awp_skip ?_
  repeat first | refine st_ ?_ | refine sn_ ?_
  refine sr_ 105 137 hU ?_
  refine go_ ?_
  refine ch_n fun hU => ?_
  refine aw_r ?_
  obtain rfl := Option.some.inj hg
  exact fin_ [(0, 0)] ⟨rfl, rfl⟩
theorem w_slices_medianCmpFunc_api_Hit_clo_34_0_ (data : (List api_Hit)) (a : Int) (b : Int) (c : Int) (swaps : Int) (cmp : api_Hit → api_Hit → Option (Int)) (hf_cmp : ∀ (x0 : api_Hit) (x1 : api_Hit) (y : Int), cmp x0 x1 = some y → Fn Try.prog 34 0 [.agg [.val (.int .i64 x0.Pattern), .val (.int .i64 x0.At)], .agg [.val (.int .i64 x1.Pattern), .val (.int .i64 x1.At)]] [] (fun d' b' => d' = .val (.int .i64 y) ∧ b' = [])) (r : Int × Int) (hg : g_slices_medianCmpFunc_api_Hit data a b c swaps cmp = some r) : Fn Try.prog 97 1 [.sl 2 (encL api_Hit.enc data), .val (.int .i64 a), .val (.int .i64 b), .val (.int .i64 c), .ptr 0 0, .clo 34 0 []] [.box [.val (.int .i64 swaps)] 3] (fun d' b' => d' = .val (.int .i64 r.1) ∧ b' = [.box [.val (.int .i64 r.2)] 3]) := by
 unfold g_slices_medianCmpFunc_api_Hit at hg
 refine Fn.of Try.func97 rfl rfl rfl fun w0 I ρ0 => ?_
 show awp _ ⟨w0, I, ρ0, 1, 1, 41⟩ _ _ _
 refine sr_ 1 9 mk_U ?_
 refine go_ ?_
 refine ch_n fun hU => ?_
 refine sr_ 9 97 hU ?_
 refine go_ ?_
 obtain ⟨y, hy, hg⟩ := bind_some hg
 refine cb_ [0] [0] [] false (w_slices_order2CmpFunc_api_Hit_clo_34_0_ data a b swaps cmp hf_cmp _ hy) ?_
 refine go_ ?_
 refine ch_n fun hU => ?_
 refine sr_ 97 185 hU ?_
 refine go_ ?_
 obtain ⟨y_2, hy_2, hg⟩ := bind_some hg
 refine cb_ [0] [0] [] false (w_slices_order2CmpFunc_api_Hit_clo_34_0_ data y.2.1 c y.2.2 cmp hf_cmp _ hy_2) ?_
 refine go_ ?_
 refine ch_n fun hU => ?_
 refine sr_ 185 273 hU ?_
 refine go_ ?_
 obtain ⟨y_3, hy_3, hg⟩ := bind_some hg
 refine cb_ [0] [0] [] false (w_slices_order2CmpFunc_api_Hit_clo_34_0_ data y.1 y_2.1 y_2.2.2 cmp hf_cmp _ hy_3) ?_
 refine go_ ?_
 refine ch_n fun hU => ?_
 refine sr_ 273 289 hU ?_
 refine go_ ?_
 refine ch_n fun hU => ?_
 refine aw_r ?_
 obtain rfl := Option.some.inj hg
 exact fin_ [(0, 0)] ⟨rfl, rfl⟩
theorem w_slices_medianAdjacentCmpFunc_api_Hit_clo_34_0_ (data : (List api_Hit)) (a : Int) (swaps : Int) (cmp : api_Hit → api_Hit → Option (Int)) (hf_cmp : ∀ (x0 : api_Hit) (x1 : api_Hit) (y : Int), cmp x0 x1 = some y → Fn Try.prog 34 0 [.agg [.val (.int .i64 x0.Pattern), .val (.int .i64 x0.At)], .agg [.val (.int .i64 x1.Pattern), .val (.int .i64 x1.At)]] [] (fun d' b' => d' = .val (.int .i64 y) ∧ b' = [])) (r : Int × Int) (hg : g_slices_medianAdjacentCmpFunc_api_Hit data a swaps cmp = some r) : Fn Try.prog 96 1 [.sl 2 (encL api_Hit.enc data), .val (.int .i64 a), .ptr 0 0, .clo 34 0 []] [.box [.val (.int .i64 swaps)] 3] (fun d' b' => d' = .val (.int .i64 r.1) ∧ b' = [.box [.val (.int .i64 r.2)] 3]) := by
 unfold g_slices_medianAdjacentCmpFunc_api_Hit at hg
 refine Fn.of Try.func96 rfl rfl rfl fun w0 I ρ0 => ?_
 show awp _ ⟨w0, I, ρ0, 1, 1, 18⟩ _ _ _
 refine sr_ 1 9 mk_U ?_
 refine go_ ?_
 refine ch_n fun hU => ?_
 refine sr_ 9 89 hU ?_
 refine go_ ?_
 obtain ⟨y, hy, hg⟩ := bind_some hg
 refine cb_ [0] [0] [] false (w_slices_medianCmpFunc_api_Hit_clo_34_0_ data (W (a - 1)) a (W (a + 1)) swaps cmp hf_cmp _ hy) ?_
 refine go_ ?_
 refine ch_n fun hU => ?_
 refine aw_r ?_
 obtain rfl := Option.some.inj hg
 exact fin_ [(0, 0)] ⟨rfl, rfl⟩
theorem w_slices_choosePivotCmpFunc_api_Hit_clo_34_0_ (data : (List api_Hit)) (a : Int) (b : Int) (cmp : api_Hit → api_Hit → Option (Int)) (hf_cmp : ∀ (x0 : api_Hit) (x1 : api_Hit) (y : Int), cmp x0 x1 = some y → Fn Try.prog 34 0 [.agg [.val (.int .i64 x0.Pattern), .val (.int .i64 x0.At)], .agg [.val (.int .i64 x1.Pattern), .val (.int .i64 x1.At)]] [] (fun d' b' => d' = .val (.int .i64 y) ∧ b' = [])) (r : Int × Int) (hg : g_slices_choosePivotCmpFunc_api_Hit data a b cmp = some r) : Fn Try.prog 66 0 [.sl 2 (encL api_Hit.enc data), .val (.int .i64 a), .val (.int .i64 b), .clo 34 0 []] [] (fun d' b' => d' = .tup [.val (.int .i64 r.1), .val (.int .i64 r.2)] ∧ b' = []) := by
 unfold g_slices_choosePivotCmpFunc_api_Hit at hg
 refine Fn.of Try.func66 rfl rfl rfl fun w0 I ρ0 => ?_
 show awp _ ⟨w0, I, ρ0, 0, 0, 63⟩ _ _ _
 refine sr_ 0 16 mk_U ?_
 refine go_ ?_
 refine ch_n fun hU => ?_
 refine sr_ 16 48 hU ?_
 refine go_ ?_
 refine ch_n fun hU => ?_
 refine sr_ 48 56 hU ?_
 refine go_ ?_
 refine ch_n fun hU => ?_
 refine sr_ 56 104 hU ?_
 refine go_ ?_
 obtain ⟨q, hq, hg⟩ := bind_some hg
 refine c0_ rfl rfl (r_quo hq) rfl rfl ?_
 refine go_ ?_
 refine ch_n fun hU => ?_
 refine sr_ 104 152 hU ?_
 refine go_ ?_
 obtain ⟨q_2, hq_2, hg⟩ := bind_some hg
 refine c0_ rfl rfl (r_quo hq_2) rfl rfl ?_
 refine go_ ?_
 refine ch_n fun hU => ?_
 refine sr_ 152 200 hU ?_
 refine go_ ?_
 obtain ⟨q_3, hq_3, hg⟩ := bind_some hg
 refine c0_ rfl rfl (r_quo hq_3) rfl rfl ?_
 refine go_ ?_
 refine ch_n fun hU => ?_
 refine awp_cut (ι := Int × Int) (fun ((j_2, swaps_2) : Int × Int) => mk [(11, .ptr 0 0), (13, .val (.int .i64 j_2))] [(0, .box [.val (.int .i64 swaps_2)] 3)] 1) (fun ((j_2, swaps_2) : Int × Int) => g_slices_choosePivotCmpFunc_api_Hit.j2 j_2 swaps_2 = some r) ?_ ?_
 ·refine awp_seq ?_
  refine awp_region (sys _ _ []) 200 216 hU rfl rfl ?_
  refine go_ ?_
  refine ch_n fun hU => ?_
  refine cg_ rfl hg (fun h8 hg => ?_) fun h8 hg => ?_
  ·refine awp_cut (ι := Int × Int × Int × Int) (fun ((i_1, j_1, k_1, swaps_1) : Int × Int × Int × Int) => mk [(0, .sl 2 (encL api_Hit.enc data)), (3, .clo 34 0 []), (11, .ptr 0 0), (12, .val (.int .i64 i_1)), (13, .val (.int .i64 j_1)), (14, .val (.int .i64 k_1))] [(0, .box [.val (.int .i64 swaps_1)] 3)] 1) (fun ((i_1, j_1, k_1, swaps_1) : Int × Int × Int × Int) => g_slices_choosePivotCmpFunc_api_Hit.j1 data cmp i_1 j_1 k_1 swaps_1 = some r) ?_ ?_
   ·refine awp_seq ?_
    refine awp_region (sys _ _ []) 216 232 hU rfl rfl ?_
    refine go_ ?_
    refine ch_n fun hU => ?_
    refine cg_ rfl hg (fun h10 hg => ?_) fun h10 hg => ?_
    ·refine awp_seq ?_
     refine awp_region (sys _ _ []) 232 272 hU rfl rfl ?_
     refine go_ ?_
     obtain ⟨y, hy, hg⟩ := bind_some hg
     refine cb_ [48] [48] [] false (w_slices_medianAdjacentCmpFunc_api_Hit_clo_34_0_ data (W (a + (W (q * 1)))) 0 cmp hf_cmp _ hy) ?_
     refine go_ ?_
     refine ch_n fun hU => ?_
     refine sr_ 272 312 hU ?_
     refine go_ ?_
     obtain ⟨y_2, hy_2, hg⟩ := bind_some hg
     refine cb_ [48] [48] [] false (w_slices_medianAdjacentCmpFunc_api_Hit_clo_34_0_ data (W (a + (W (q_2 * 2)))) y.2 cmp hf_cmp _ hy_2) ?_
     refine go_ ?_
     refine ch_n fun hU => ?_
     refine awp_region (sys _ _ []) 312 352 hU rfl rfl ?_
     refine go_ ?_
     obtain ⟨y_3, hy_3, hg⟩ := bind_some hg
     refine cb_ [48] [48] [] false (w_slices_medianAdjacentCmpFunc_api_Hit_clo_34_0_ data (W (a + (W (q_3 * 3)))) y_2.2 cmp hf_cmp _ hy_3) ?_
     refine go_ ?_
     refine ch_n fun hU => ?_
     exact ⟨(y.1, y_2.1, y_3.1, y_3.2), hg, sub_ [(0, 48)]⟩
    ·refine awp_skip ?_
     repeat first | refine st_ ?_ | refine sn_ ?_
     exact ⟨(W (a + (W (q * 1))), W (a + (W (q_2 * 2))), W (a + (W (q_3 * 3))), 0), hg, sub_ [(0, 48)]⟩
   ·rintro ⟨i_1, j_1, k_1, swaps_1⟩ hg
    replace hg : g_slices_choosePivotCmpFunc_api_Hit.j1 data cmp i_1 j_1 k_1 swaps_1 = some r := hg
    show awp _ _ _ _ (mk _ _ _)
    unfold g_slices_choosePivotCmpFunc_api_Hit.j1 at hg
    refine awp_region (sys _ _ []) 1 57 mk_U rfl rfl ?_
    refine go_ ?_
    obtain ⟨y_4, hy_4, hg⟩ := bind_some hg
    refine cb_ [0] [0] [] false (w_slices_medianCmpFunc_api_Hit_clo_34_0_ data i_1 j_1 k_1 swaps_1 cmp hf_cmp _ hy_4) ?_
    refine go_ ?_
    refine ch_n fun hU => ?_
    exact ⟨(y_4.1, y_4.2), hg, sub_ [(0, 0)]⟩
  ·refine awp_skip ?_
   repeat first | refine st_ ?_ | refine sn_ ?_
   exact ⟨(W (a + (W (q_2 * 2))), 0), hg, sub_ [(0, 48)]⟩
 ·rintro ⟨j_2, swaps_2⟩ hg
  replace hg : g_slices_choosePivotCmpFunc_api_Hit.j2 j_2 swaps_2 = some r := hg
  show awp _ _ _ _ (mk _ _ _)
  unfold g_slices_choosePivotCmpFunc_api_Hit.j2 at hg
  refine sr_ 1 9 mk_U ?_
  refine go_ ?_
  refine ch_n fun hU => ?_
  refine awp_block ?_
  refine sr_ 9 25 hU ?_
  refine go_ ?_
  refine ch_n fun hU => ?_
  refine cg_ rfl hg (fun h17 hg => ?_) fun h17 hg => ?_
  ·refine awp_seq ?_
   refine awp_region (sys _ _ []) 25 49 hU rfl rfl ?_
   refine go_ ?_
   refine ch_n fun hU => ?_
   refine aw_r ?_
   obtain rfl := Option.some.inj hg
   exact fin_ [] ⟨rfl, rfl⟩
  ·refine awp_seq ?_
   refine awp_region (sys _ _ []) 25 41 hU rfl rfl ?_
   refine go_ ?_
   refine ch_n fun hU => ?_
   refine cg_ rfl hg (fun h20 hg => ?_) fun h20 hg => ?_
   ·refine awp_seq ?_
    refine awp_region (sys _ _ []) 41 65 hU rfl rfl ?_
    refine go_ ?_
    refine ch_n fun hU => ?_
    refine aw_r ?_
    obtain rfl := Option.some.inj hg
    exact fin_ [] ⟨rfl, rfl⟩
   ·refine awp_seq ?_
    refine awp_region (sys _ _ []) 41 65 hU rfl rfl ?_
    refine go_ ?_
    refine ch_n fun hU => ?_
    refine aw_r ?_
    obtain rfl := Option.some.inj hg
    exact fin_ [] ⟨rfl, rfl⟩
theorem w_slices_reverseRangeCmpFunc_api_Hit_clo_34_0_ (data : List api_Hit) (a : Int) (b : Int) (cmp : api_Hit → api_Hit → Option (Int)) (hf_cmp : ∀ (x0 : api_Hit) (x1 : api_Hit) (y : Int), cmp x0 x1 = some y → Fn Try.prog 34 0 [.agg [.val (.int .i64 x0.Pattern), .val (.int .i64 x0.At)], .agg [.val (.int .i64 x1.Pattern), .val (.int .i64 x1.At)]] [] (fun d' b' => d' = .val (.int .i64 y) ∧ b' = [])) (r : (List api_Hit)) (hg : g_slices_reverseRangeCmpFunc_api_Hit data a b cmp = some r) : Fn Try.prog 67 1 [.row 0, .val (.int .i64 a), .val (.int .i64 b), .clo 34 0 []] [.row 47 2 (encL api_Hit.enc data)] (fun d' b' => d' = .tup [] ∧ b' = [.row 47 2 (encL api_Hit.enc r)]) := by
 unfold g_slices_reverseRangeCmpFunc_api_Hit at hg
 refine Fn.of Try.func67 rfl rfl rfl fun w0 I ρ0 => ?_
 show awp _ ⟨w0, I, ρ0, 1, 1, 34⟩ _ _ _
 refine sr_ 1 17 mk_U ?_
 refine go_ ?_
 refine ch_n fun hU => ?_
 refine sr_ 17 41 hU ?_
 refine go_ ?_
 refine ch_n fun hU => ?_
 refine awp_block ?_
 refine lp_ (fun ((i_1, j_1, data_1) : Int × Int × List api_Hit) => mk [(0, .row 0), (8, .val (.int .i64 i_1)), (9, .val (.int .i64 j_1))] [(0, .row 47 2 (encL api_Hit.enc data_1))] 1) hg (sub_ [(0, 0)]) ?_
 rintro ⟨i_1, j_1, data_1⟩ m1 o1 hg hn1
 replace hg : g_slices_reverseRangeCmpFunc_api_Hit.l1 i_1 j_1 data_1 = some o1 := hg
 show awp _ _ _ _ (mk _ _ _)
 unfold g_slices_reverseRangeCmpFunc_api_Hit.l1 at hg
 refine awp_seq ?_
 refine sr_ 1 25 mk_U ?_
 refine go_ ?_
 refine ch_n fun hU => ?_
 refine cg_ rfl hg (fun h4 hg => ?_) fun h4 hg => ?_
 ·refine awp_skip ?_
  repeat first | refine st_ ?_ | refine sn_ ?_
  refine awp_block ?_
  refine awp_seq ?_
  refine awp_draw (sys _ _ []) (by kernel_rfl) [0, 0, 0, 0, 0, 0, 48, 112, 0, 0, 768, 1792, 4083, 8179, 16383, 32767] 25 153 hU rfl rfl (by kernel_rfl) ?_
  refine go_ ?_
  obtain ⟨e, he, hg⟩ := bind_some hg
  refine go_ ?_
  refine ch_s (rd := [0]) rfl rfl (r_loadRA ty47 (enc_cells api_Hit.enc_len (getI_at he) (o := 0) (m := 2) (cs := [.int .i64 e.Pattern, .int .i64 e.At]) rfl (by decide) rfl) (enc_cells_le api_Hit.enc_len (getI_at he) (o := 0) (m := 2) (by decide) rfl)) rfl rfl ?_
  refine go_ ?_
  obtain ⟨e_2, he_2, hg⟩ := bind_some hg
  refine go_ ?_
  refine ch_s (rd := [0]) rfl rfl (r_loadRA ty47 (enc_cells api_Hit.enc_len (getI_at he_2) (o := 0) (m := 2) (cs := [.int .i64 e_2.Pattern, .int .i64 e_2.At]) rfl (by decide) rfl) (enc_cells_le api_Hit.enc_len (getI_at he_2) (o := 0) (m := 2) (by decide) rfl)) rfl rfl ?_
  refine go_ ?_
  refine ch_s (rd := [0]) rfl rfl (r_storeR ty47 rfl (enc_cells_le api_Hit.enc_len (getI_at he_2) (o := 0) (m := 2) (by decide) rfl) ck47 (cs' := [.int .i64 e.Pattern, .int .i64 e.At]) (.cons .int (.cons .int .nil)) (enc_splice api_Hit.enc_len (getI_at he_2) (o := 0) (x' := e) (Nat.le_of_ble_eq_true rfl) rfl rfl)) rfl rfl ?_
  obtain ⟨e_3, he_3, hg⟩ := bind_some hg
  refine go_ ?_
  refine ch_s (rd := [0]) rfl rfl (r_storeR ty47 rfl (enc_cells_le api_Hit.enc_len (getI_at he_3) (o := 0) (m := 2) (by decide) rfl) ck47 (cs' := [.int .i64 e_2.Pattern, .int .i64 e_2.At]) (.cons .int (.cons .int .nil)) (enc_splice api_Hit.enc_len (getI_at he_3) (o := 0) (x' := e_2) (Nat.le_of_ble_eq_true rfl) rfl rfl)) rfl rfl ?_
  refine ch_n fun hU => ?_
  refine sr_ 153 177 hU ?_
  refine go_ ?_
  refine ch_n fun hU => ?_
  refine awp_region (sys _ _ []) 177 201 hU rfl rfl ?_
  refine go_ ?_
  refine ch_n fun hU => ?_
  obtain rfl := Option.some.inj hg
  exact ⟨((W (i_1 + 1), W (j_1 - 1), setI (setI data_1 ((i_1).toNat) e) ((j_1).toNat) e_2), m1), Nat.lt_succ_self _, hn1, sub_ [(0, 0)]⟩
 ·refine awp_exit ?_
  repeat first | refine st_ ?_ | refine sn_ ?_
  replace hg := leave hg hn1
  obtain rfl := Option.some.inj hg
  exact fin_ [(0, 0)] ⟨rfl, rfl⟩
theorem w_slices_partialInsertionSortCmpFunc_api_Hit_clo_34_0_ (data : List api_Hit) (a : Int) (b : Int) (cmp : api_Hit → api_Hit → Option (Int)) (hf_cmp : ∀ (x0 : api_Hit) (x1 : api_Hit) (y : Int), cmp x0 x1 = some y → Fn Try.prog 34 0 [.agg [.val (.int .i64 x0.Pattern), .val (.int .i64 x0.At)], .agg [.val (.int .i64 x1.Pattern), .val (.int .i64 x1.At)]] [] (fun d' b' => d' = .val (.int .i64 y) ∧ b' = [])) (r : Bool × (List api_Hit)) (hg : g_slices_partialInsertionSortCmpFunc_api_Hit data a b cmp = some r) : Fn Try.prog 68 1 [.row 0, .val (.int .i64 a), .val (.int .i64 b), .clo 34 0 []] [.row 47 2 (encL api_Hit.enc data)] (fun d' b' => d' = .val (.bool r.1) ∧ b' = [.row 47 2 (encL api_Hit.enc r.2)]) := by
 unfold g_slices_partialInsertionSortCmpFunc_api_Hit at hg
 refine Fn.of Try.func68 rfl rfl rfl fun w0 I ρ0 => ?_
 show awp _ ⟨w0, I, ρ0, 1, 1, 141⟩ _ _ _
 refine sr_ 1 9 mk_U ?_
 refine go_ ?_
 refine ch_n fun hU => ?_
 refine sr_ 9 33 hU ?_
 refine go_ ?_
 refine ch_n fun hU => ?_
 refine awp_seq ?_
 refine sr_ 33 41 hU ?_
 refine go_ ?_
 refine ch_n fun hU => ?_
 refine awp_block ?_
 refine lp_ (fun ((i_1, j_1, data_1) : Int × Int × List api_Hit) => mk [(0, .row 0), (1, .val (.int .i64 a)), (2, .val (.int .i64 b)), (3, .clo 34 0 []), (9, .val (.int .i64 i_1)), (10, .val (.int .i64 j_1))] [(0, .row 47 2 (encL api_Hit.enc data_1))] 1) hg (sub_ [(0, 0)]) ?_
 rintro ⟨i_1, j_1, data_1⟩ m1 o1 hg hn1
 replace hg : g_slices_partialInsertionSortCmpFunc_api_Hit.l1 a b cmp i_1 j_1 data_1 = some o1 := hg
 show awp _ _ _ _ (mk _ _ _)
 unfold g_slices_partialInsertionSortCmpFunc_api_Hit.l1 at hg
 refine awp_seq ?_
 refine sr_ 1 17 mk_U ?_
 refine go_ ?_
 refine ch_n fun hU => ?_
 refine cg_ rfl hg (fun h5 hg => ?_) fun h5 hg => ?_
 ·refine awp_skip ?_
  repeat first | refine st_ ?_ | refine sn_ ?_
  refine awp_cut (ι := Int × List api_Hit) (fun ((i_7, data_7) : Int × List api_Hit) => mk [(0, .row 0), (1, .val (.int .i64 a)), (2, .val (.int .i64 b)), (3, .clo 34 0 []), (9, .val (.int .i64 i_7)), (10, .val (.int .i64 j_1))] [(0, .row 47 2 (encL api_Hit.enc data_7))] 1) (fun ((i_7, data_7) : Int × List api_Hit) => g_slices_partialInsertionSortCmpFunc_api_Hit.j7 j_1 i_7 data_7 = some o1) ?_ ?_
  ·refine awp_block ?_
   refine awp_seq ?_
   refine awp_block ?_
   refine lp_ (fun (i_2 : Int) => mk [(0, .row 0), (1, .val (.int .i64 a)), (2, .val (.int .i64 b)), (3, .clo 34 0 []), (9, .val (.int .i64 i_2)), (10, .val (.int .i64 j_1))] [(0, .row 47 2 (encL api_Hit.enc data_1))] 1) hg (sub_ [(0, 0)]) ?_
   rintro i_2 m2 o2 hg hn2
   replace hg : g_slices_partialInsertionSortCmpFunc_api_Hit.l2 a b cmp j_1 data_1 i_2 = some o2 := hg
   show awp _ _ _ _ (mk _ _ _)
   unfold g_slices_partialInsertionSortCmpFunc_api_Hit.l2 at hg
   refine awp_seq ?_
   refine awp_cut (ι := Bool) (fun (x36_3 : Bool) => mk [(0, .row 0), (1, .val (.int .i64 a)), (2, .val (.int .i64 b)), (3, .clo 34 0 []), (9, .val (.int .i64 i_2)), (10, .val (.int .i64 j_1)), (36, .val (.bool x36_3))] [(0, .row 47 2 (encL api_Hit.enc data_1))] 1) (fun (x36_3 : Bool) => g_slices_partialInsertionSortCmpFunc_api_Hit.j3 a b cmp j_1 data_1 i_2 x36_3 = some o2) ?_ ?_
   ·refine awp_draw (sys _ _ []) (by kernel_rfl) [0, 0, 3, 7, 15, 15, 15, 111, 239, 15, 15, 1039, 3599, 7695, 16383, 32767, 65535, 131071] 1 145 mk_U rfl rfl (by kernel_rfl) ?_
    refine go_ ?_
    rcases bc_ hg with ⟨h6, hg⟩ | ⟨h6, hg⟩
    ·refine go_ ?_
     obtain ⟨e, he, hg⟩ := bind_some hg
     refine go_ ?_
     refine ch_s (rd := [0]) (gdv_t rfl rfl h6) rfl (r_loadRA ty47 (enc_cells api_Hit.enc_len (getI_at he) (o := 0) (m := 2) (cs := [.int .i64 e.Pattern, .int .i64 e.At]) rfl (by decide) rfl) (enc_cells_le api_Hit.enc_len (getI_at he) (o := 0) (m := 2) (by decide) rfl)) rfl rfl ?_
     refine go_ ?_
     obtain ⟨e_2, he_2, hg⟩ := bind_some hg
     refine go_ ?_
     refine ch_s (rd := [0]) (gdv_t rfl rfl h6) rfl (r_loadRA ty47 (enc_cells api_Hit.enc_len (getI_at he_2) (o := 0) (m := 2) (cs := [.int .i64 e_2.Pattern, .int .i64 e_2.At]) rfl (by decide) rfl) (enc_cells_le api_Hit.enc_len (getI_at he_2) (o := 0) (m := 2) (by decide) rfl)) rfl rfl ?_
     obtain ⟨y, hy, hg⟩ := bind_some hg
     refine ch_callCP (rd := []) (ps := []) (gs := []) false (gdv_t rfl rfl h6) rfl (hf_cmp e e_2 _ hy) rfl rfl (.cons (.agg (.cons .val (.cons .val .nil))) (.cons (.agg (.cons .val (.cons .val .nil))) .nil)) rfl rfl (by intro h; cases h) rfl rfl rfl rfl ?_
     refine go_ ?_
     refine ch_n fun hU => ?_
     exact ⟨!(decide (y < 0)), hg, sub_ [(0, 0)]⟩
    ·refine go_ ?_
     refine ch_n fun hU => ?_
     exact ⟨false, hg, sub_ [(0, 0)]⟩
   ·rintro x36_3 hg
    replace hg : g_slices_partialInsertionSortCmpFunc_api_Hit.j3 a b cmp j_1 data_1 i_2 x36_3 = some o2 := hg
    show awp _ _ _ _ (mk _ _ _)
    unfold g_slices_partialInsertionSortCmpFunc_api_Hit.j3 at hg
    refine cg_ rfl hg (fun h9 hg => ?_) fun h9 hg => ?_
    ·refine awp_skip ?_
     repeat first | refine st_ ?_ | refine sn_ ?_
     refine awp_block ?_
     refine awp_region (sys _ _ []) 1 25 mk_U rfl rfl ?_
     refine go_ ?_
     refine ch_n fun hU => ?_
     obtain rfl := Option.some.inj hg
     exact ⟨(W (i_2 + 1), m2), Nat.lt_succ_self _, hn2, sub_ [(0, 0)]⟩
    ·refine awp_exit ?_
     repeat first | refine st_ ?_ | refine sn_ ?_
     replace hg := leave hg hn2
     refine awp_seq ?_
     refine sr_ 1 25 mk_U ?_
     refine go_ ?_
     refine ch_n fun hU => ?_
     refine cg_ rfl hg (fun h12 hg => ?_) fun h12 hg => ?_
     ·refine awp_seq ?_
      refine awp_region (sys _ _ []) 25 33 hU rfl rfl ?_
      refine go_ ?_
      refine ch_n fun hU => ?_
      refine aw_r ?_
      replace hg := leave hg hn1
      obtain rfl := Option.some.inj hg
      exact fin_ [(0, 0)] ⟨rfl, rfl⟩
     ·refine awp_skip ?_
      repeat first | refine st_ ?_ | refine sn_ ?_
      refine awp_seq ?_
      refine sr_ 25 57 hU ?_
      refine go_ ?_
      refine ch_n fun hU => ?_
      refine cg_ rfl hg (fun h15 hg => ?_) fun h15 hg => ?_
      ·refine awp_seq ?_
       refine awp_region (sys _ _ []) 57 65 hU rfl rfl ?_
       refine go_ ?_
       refine ch_n fun hU => ?_
       refine aw_r ?_
       replace hg := leave hg hn1
       obtain rfl := Option.some.inj hg
       exact fin_ [(0, 0)] ⟨rfl, rfl⟩
      ·refine awp_skip ?_
       repeat first | refine st_ ?_ | refine sn_ ?_
       refine awp_seq ?_
       refine awp_draw (sys _ _ []) (by kernel_rfl) [0, 0, 0, 0, 8, 0, 0, 64, 224, 480, 0, 0, 3072, 7168, 16355, 32739, 65535, 131071] 57 201 hU rfl rfl (by kernel_rfl) ?_
       refine go_ ?_
       obtain ⟨e_3, he_3, hg⟩ := bind_some hg
       refine go_ ?_
       refine ch_s (rd := [0]) rfl rfl (r_loadRA ty47 (enc_cells api_Hit.enc_len (getI_at he_3) (o := 0) (m := 2) (cs := [.int .i64 e_3.Pattern, .int .i64 e_3.At]) rfl (by decide) rfl) (enc_cells_le api_Hit.enc_len (getI_at he_3) (o := 0) (m := 2) (by decide) rfl)) rfl rfl ?_
       refine go_ ?_
       obtain ⟨e_4, he_4, hg⟩ := bind_some hg
       refine go_ ?_
       refine ch_s (rd := [0]) rfl rfl (r_loadRA ty47 (enc_cells api_Hit.enc_len (getI_at he_4) (o := 0) (m := 2) (cs := [.int .i64 e_4.Pattern, .int .i64 e_4.At]) rfl (by decide) rfl) (enc_cells_le api_Hit.enc_len (getI_at he_4) (o := 0) (m := 2) (by decide) rfl)) rfl rfl ?_
       refine go_ ?_
       refine ch_s (rd := [0]) rfl rfl (r_storeR ty47 rfl (enc_cells_le api_Hit.enc_len (getI_at he_4) (o := 0) (m := 2) (by decide) rfl) ck47 (cs' := [.int .i64 e_3.Pattern, .int .i64 e_3.At]) (.cons .int (.cons .int .nil)) (enc_splice api_Hit.enc_len (getI_at he_4) (o := 0) (x' := e_3) (Nat.le_of_ble_eq_true rfl) rfl rfl)) rfl rfl ?_
       obtain ⟨e_5, he_5, hg⟩ := bind_some hg
       refine go_ ?_
       refine ch_s (rd := [0]) rfl rfl (r_storeR ty47 rfl (enc_cells_le api_Hit.enc_len (getI_at he_5) (o := 0) (m := 2) (by decide) rfl) ck47 (cs' := [.int .i64 e_4.Pattern, .int .i64 e_4.At]) (.cons .int (.cons .int .nil)) (enc_splice api_Hit.enc_len (getI_at he_5) (o := 0) (x' := e_4) (Nat.le_of_ble_eq_true rfl) rfl rfl)) rfl rfl ?_
       refine ch_n fun hU => ?_
       refine awp_cut (ι := List api_Hit) (fun (data_5 : List api_Hit) => mk [(0, .row 0), (1, .val (.int .i64 a)), (2, .val (.int .i64 b)), (3, .clo 34 0 []), (9, .val (.int .i64 i_2)), (10, .val (.int .i64 j_1))] [(0, .row 47 2 (encL api_Hit.enc data_5))] 1) (fun (data_5 : List api_Hit) => g_slices_partialInsertionSortCmpFunc_api_Hit.j5 b cmp j_1 i_2 data_5 = some o1) ?_ ?_
       ·refine awp_seq ?_
        refine awp_region (sys _ _ []) 201 233 hU rfl rfl ?_
        refine go_ ?_
        refine ch_n fun hU => ?_
        refine cg_ rfl hg (fun h19 hg => ?_) fun h19 hg => ?_
        ·refine awp_seq ?_
         refine awp_region (sys _ _ []) 233 257 hU rfl rfl ?_
         refine go_ ?_
         refine ch_n fun hU => ?_
         refine awp_block ?_
         refine lp_ (fun ((j_4, data_4) : Int × List api_Hit) => mk [(0, .row 0), (1, .val (.int .i64 a)), (2, .val (.int .i64 b)), (3, .clo 34 0 []), (9, .val (.int .i64 i_2)), (10, .val (.int .i64 j_1)), (11, .val (.int .i64 j_4))] [(0, .row 47 2 (encL api_Hit.enc data_4))] 1) hg (sub_ [(0, 0)]) ?_
         rintro ⟨j_4, data_4⟩ m4 o4 hg hn4
         replace hg : g_slices_partialInsertionSortCmpFunc_api_Hit.l4 b cmp j_1 i_2 j_4 data_4 = some o4 := hg
         show awp _ _ _ _ (mk _ _ _)
         unfold g_slices_partialInsertionSortCmpFunc_api_Hit.l4 at hg
         refine awp_seq ?_
         refine sr_ 1 17 mk_U ?_
         refine go_ ?_
         refine ch_n fun hU => ?_
         refine cg_ rfl hg (fun h22 hg => ?_) fun h22 hg => ?_
         ·refine awp_skip ?_
          repeat first | refine st_ ?_ | refine sn_ ?_
          refine awp_seq ?_
          refine awp_block ?_
          refine awp_seq ?_
          refine awp_seq ?_
          refine awp_draw (sys _ _ []) (by kernel_rfl) [0, 0, 0, 6, 14, 0, 0, 64, 224, 480, 1023, 2047, 4095] 17 121 hU rfl rfl (by kernel_rfl) ?_
          refine go_ ?_
          obtain ⟨e_6, he_6, hg⟩ := bind_some hg
          refine go_ ?_
          refine ch_s (rd := [0]) rfl rfl (r_loadRA ty47 (enc_cells api_Hit.enc_len (getI_at he_6) (o := 0) (m := 2) (cs := [.int .i64 e_6.Pattern, .int .i64 e_6.At]) rfl (by decide) rfl) (enc_cells_le api_Hit.enc_len (getI_at he_6) (o := 0) (m := 2) (by decide) rfl)) rfl rfl ?_
          refine go_ ?_
          obtain ⟨e_7, he_7, hg⟩ := bind_some hg
          refine go_ ?_
          refine ch_s (rd := [0]) rfl rfl (r_loadRA ty47 (enc_cells api_Hit.enc_len (getI_at he_7) (o := 0) (m := 2) (cs := [.int .i64 e_7.Pattern, .int .i64 e_7.At]) rfl (by decide) rfl) (enc_cells_le api_Hit.enc_len (getI_at he_7) (o := 0) (m := 2) (by decide) rfl)) rfl rfl ?_
          obtain ⟨y_2, hy_2, hg⟩ := bind_some hg
          refine ch_callCP (rd := []) (ps := []) (gs := []) false rfl rfl (hf_cmp e_6 e_7 _ hy_2) rfl rfl (.cons (.agg (.cons .val (.cons .val .nil))) (.cons (.agg (.cons .val (.cons .val .nil))) .nil)) rfl rfl (by intro h; cases h) rfl rfl rfl rfl ?_
          refine go_ ?_
          refine ch_n fun hU => ?_
          refine cg_ rfl hg (fun h24 hg => ?_) fun h24 hg => ?_
          ·refine awp_exit ?_
           repeat first | refine st_ ?_ | refine sn_ ?_
           replace hg := leave hg hn4
           exact ⟨data_4, hg, sub_ [(0, 0)]⟩
          ·refine awp_skip ?_
           repeat first | refine st_ ?_ | refine sn_ ?_
           refine awp_draw (sys _ _ []) (by kernel_rfl) [0, 0, 0, 0, 8, 0, 0, 64, 224, 480, 0, 0, 3072, 7168, 16355, 32739, 65535, 131071] 121 265 hU rfl rfl (by kernel_rfl) ?_
           refine go_ ?_
           refine ch_s (rd := [0]) rfl rfl (r_loadRA ty47 (enc_cells api_Hit.enc_len (getI_at he_7) (o := 0) (m := 2) (cs := [.int .i64 e_7.Pattern, .int .i64 e_7.At]) rfl (by decide) rfl) (enc_cells_le api_Hit.enc_len (getI_at he_7) (o := 0) (m := 2) (by decide) rfl)) rfl rfl ?_
           refine go_ ?_
           refine ch_s (rd := [0]) rfl rfl (r_loadRA ty47 (enc_cells api_Hit.enc_len (getI_at he_6) (o := 0) (m := 2) (cs := [.int .i64 e_6.Pattern, .int .i64 e_6.At]) rfl (by decide) rfl) (enc_cells_le api_Hit.enc_len (getI_at he_6) (o := 0) (m := 2) (by decide) rfl)) rfl rfl ?_
           refine go_ ?_
           refine ch_s (rd := [0]) rfl rfl (r_storeR ty47 rfl (enc_cells_le api_Hit.enc_len (getI_at he_6) (o := 0) (m := 2) (by decide) rfl) ck47 (cs' := [.int .i64 e_7.Pattern, .int .i64 e_7.At]) (.cons .int (.cons .int .nil)) (enc_splice api_Hit.enc_len (getI_at he_6) (o := 0) (x' := e_7) (Nat.le_of_ble_eq_true rfl) rfl rfl)) rfl rfl ?_
           obtain ⟨e_8, he_8, hg⟩ := bind_some hg
           refine go_ ?_
           refine ch_s (rd := [0]) rfl rfl (r_storeR ty47 rfl (enc_cells_le api_Hit.enc_len (getI_at he_8) (o := 0) (m := 2) (by decide) rfl) ck47 (cs' := [.int .i64 e_6.Pattern, .int .i64 e_6.At]) (.cons .int (.cons .int .nil)) (enc_splice api_Hit.enc_len (getI_at he_8) (o := 0) (x' := e_6) (Nat.le_of_ble_eq_true rfl) rfl rfl)) rfl rfl ?_
           refine ch_n fun hU => ?_
           refine awp_region (sys _ _ []) 265 289 hU rfl rfl ?_
           refine go_ ?_
           refine ch_n fun hU => ?_
           obtain rfl := Option.some.inj hg
           exact ⟨((W (j_4 - 1), setI (setI data_4 ((j_4).toNat) e_7) ((W (j_4 - 1)).toNat) e_6), m4), Nat.lt_succ_self _, hn4, sub_ [(0, 0)]⟩
         ·refine awp_exit ?_
          repeat first | refine st_ ?_ | refine sn_ ?_
          replace hg := leave hg hn4
          exact ⟨data_4, hg, sub_ [(0, 0)]⟩
        ·refine awp_skip ?_
         repeat first | refine st_ ?_ | refine sn_ ?_
         exact ⟨setI (setI data_1 ((i_2).toNat) e_3) ((W (i_2 - 1)).toNat) e_4, hg, sub_ [(0, 0)]⟩
       ·rintro data_5 hg
        replace hg : g_slices_partialInsertionSortCmpFunc_api_Hit.j5 b cmp j_1 i_2 data_5 = some o1 := hg
        show awp _ _ _ _ (mk _ _ _)
        unfold g_slices_partialInsertionSortCmpFunc_api_Hit.j5 at hg
        refine sr_ 1 33 mk_U ?_
        refine go_ ?_
        refine ch_n fun hU => ?_
        refine cg_ rfl hg (fun h28 hg => ?_) fun h28 hg => ?_
        ·refine awp_seq ?_
         refine awp_region (sys _ _ []) 33 57 hU rfl rfl ?_
         refine go_ ?_
         refine ch_n fun hU => ?_
         refine awp_block ?_
         refine lp_ (fun ((j_6, data_6) : Int × List api_Hit) => mk [(0, .row 0), (1, .val (.int .i64 a)), (2, .val (.int .i64 b)), (3, .clo 34 0 []), (9, .val (.int .i64 i_2)), (10, .val (.int .i64 j_1)), (12, .val (.int .i64 j_6))] [(0, .row 47 2 (encL api_Hit.enc data_6))] 1) hg (sub_ [(0, 0)]) ?_
         rintro ⟨j_6, data_6⟩ m6 o6 hg hn6
         replace hg : g_slices_partialInsertionSortCmpFunc_api_Hit.l6 b cmp j_1 i_2 j_6 data_6 = some o6 := hg
         show awp _ _ _ _ (mk _ _ _)
         unfold g_slices_partialInsertionSortCmpFunc_api_Hit.l6 at hg
         refine awp_seq ?_
         refine sr_ 1 25 mk_U ?_
         refine go_ ?_
         refine ch_n fun hU => ?_
         refine cg_ rfl hg (fun h31 hg => ?_) fun h31 hg => ?_
         ·refine awp_skip ?_
          repeat first | refine st_ ?_ | refine sn_ ?_
          refine awp_seq ?_
          refine awp_block ?_
          refine awp_seq ?_
          refine awp_seq ?_
          refine awp_draw (sys _ _ []) (by kernel_rfl) [0, 0, 0, 6, 14, 0, 0, 64, 224, 480, 1023, 2047, 4095] 25 129 hU rfl rfl (by kernel_rfl) ?_
          refine go_ ?_
          obtain ⟨e_9, he_9, hg⟩ := bind_some hg
          refine go_ ?_
          refine ch_s (rd := [0]) rfl rfl (r_loadRA ty47 (enc_cells api_Hit.enc_len (getI_at he_9) (o := 0) (m := 2) (cs := [.int .i64 e_9.Pattern, .int .i64 e_9.At]) rfl (by decide) rfl) (enc_cells_le api_Hit.enc_len (getI_at he_9) (o := 0) (m := 2) (by decide) rfl)) rfl rfl ?_
          refine go_ ?_
          obtain ⟨e_10, he_10, hg⟩ := bind_some hg
          refine go_ ?_
          refine ch_s (rd := [0]) rfl rfl (r_loadRA ty47 (enc_cells api_Hit.enc_len (getI_at he_10) (o := 0) (m := 2) (cs := [.int .i64 e_10.Pattern, .int .i64 e_10.At]) rfl (by decide) rfl) (enc_cells_le api_Hit.enc_len (getI_at he_10) (o := 0) (m := 2) (by decide) rfl)) rfl rfl ?_
          obtain ⟨y_3, hy_3, hg⟩ := bind_some hg
          refine ch_callCP (rd := []) (ps := []) (gs := []) false rfl rfl (hf_cmp e_9 e_10 _ hy_3) rfl rfl (.cons (.agg (.cons .val (.cons .val .nil))) (.cons (.agg (.cons .val (.cons .val .nil))) .nil)) rfl rfl (by intro h; cases h) rfl rfl rfl rfl ?_
          refine go_ ?_
          refine ch_n fun hU => ?_
          refine cg_ rfl hg (fun h33 hg => ?_) fun h33 hg => ?_
          ·refine awp_exit ?_
           repeat first | refine st_ ?_ | refine sn_ ?_
           replace hg := leave hg hn6
           exact ⟨(i_2, data_6), hg, sub_ [(0, 0)]⟩
          ·refine awp_skip ?_
           repeat first | refine st_ ?_ | refine sn_ ?_
           refine awp_draw (sys _ _ []) (by kernel_rfl) [0, 0, 0, 0, 8, 0, 0, 64, 224, 480, 0, 0, 3072, 7168, 16355, 32739, 65535, 131071] 129 273 hU rfl rfl (by kernel_rfl) ?_
           refine go_ ?_
           refine ch_s (rd := [0]) rfl rfl (r_loadRA ty47 (enc_cells api_Hit.enc_len (getI_at he_10) (o := 0) (m := 2) (cs := [.int .i64 e_10.Pattern, .int .i64 e_10.At]) rfl (by decide) rfl) (enc_cells_le api_Hit.enc_len (getI_at he_10) (o := 0) (m := 2) (by decide) rfl)) rfl rfl ?_
           refine go_ ?_
           refine ch_s (rd := [0]) rfl rfl (r_loadRA ty47 (enc_cells api_Hit.enc_len (getI_at he_9) (o := 0) (m := 2) (cs := [.int .i64 e_9.Pattern, .int .i64 e_9.At]) rfl (by decide) rfl) (enc_cells_le api_Hit.enc_len (getI_at he_9) (o := 0) (m := 2) (by decide) rfl)) rfl rfl ?_
           refine go_ ?_
           refine ch_s (rd := [0]) rfl rfl (r_storeR ty47 rfl (enc_cells_le api_Hit.enc_len (getI_at he_9) (o := 0) (m := 2) (by decide) rfl) ck47 (cs' := [.int .i64 e_10.Pattern, .int .i64 e_10.At]) (.cons .int (.cons .int .nil)) (enc_splice api_Hit.enc_len (getI_at he_9) (o := 0) (x' := e_10) (Nat.le_of_ble_eq_true rfl) rfl rfl)) rfl rfl ?_
           obtain ⟨e_11, he_11, hg⟩ := bind_some hg
           refine go_ ?_
           refine ch_s (rd := [0]) rfl rfl (r_storeR ty47 rfl (enc_cells_le api_Hit.enc_len (getI_at he_11) (o := 0) (m := 2) (by decide) rfl) ck47 (cs' := [.int .i64 e_9.Pattern, .int .i64 e_9.At]) (.cons .int (.cons .int .nil)) (enc_splice api_Hit.enc_len (getI_at he_11) (o := 0) (x' := e_9) (Nat.le_of_ble_eq_true rfl) rfl rfl)) rfl rfl ?_
           refine ch_n fun hU => ?_
           refine awp_region (sys _ _ []) 273 297 hU rfl rfl ?_
           refine go_ ?_
           refine ch_n fun hU => ?_
           obtain rfl := Option.some.inj hg
           exact ⟨((W (j_6 + 1), setI (setI data_6 ((j_6).toNat) e_10) ((W (j_6 - 1)).toNat) e_9), m6), Nat.lt_succ_self _, hn6, sub_ [(0, 0)]⟩
         ·refine awp_exit ?_
          repeat first | refine st_ ?_ | refine sn_ ?_
          replace hg := leave hg hn6
          exact ⟨(i_2, data_6), hg, sub_ [(0, 0)]⟩
        ·refine awp_skip ?_
         repeat first | refine st_ ?_ | refine sn_ ?_
         exact ⟨(i_2, data_5), hg, sub_ [(0, 0)]⟩
  ·rintro ⟨i_7, data_7⟩ hg
   replace hg : g_slices_partialInsertionSortCmpFunc_api_Hit.j7 j_1 i_7 data_7 = some o1 := hg
   show awp _ _ _ _ (mk _ _ _)
   unfold g_slices_partialInsertionSortCmpFunc_api_Hit.j7 at hg
   refine awp_region (sys _ _ []) 1 25 mk_U rfl rfl ?_
   refine go_ ?_
   refine ch_n fun hU => ?_
   obtain rfl := Option.some.inj hg
   exact ⟨((i_7, W (j_1 + 1), data_7), m1), Nat.lt_succ_self _, hn1, sub_ [(0, 0)]⟩
 ·refine awp_exit ?_
  repeat first | refine st_ ?_ | refine sn_ ?_
  replace hg := leave hg hn1
  refine sr_ 17 25 hU ?_
  refine go_ ?_
  refine ch_n fun hU => ?_
  refine aw_r ?_
  obtain rfl := Option.some.inj hg
  exact fin_ [(0, 0)] ⟨rfl, rfl⟩
end Go.Proofs.Ytfkgbfhpibiheaa
