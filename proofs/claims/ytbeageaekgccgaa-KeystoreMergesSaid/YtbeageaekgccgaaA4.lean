/- The program computes the plain functions. -/
import Derived.Test.YtbeageaekgccgaaT1
import Derived.Test.YtbeageaekgccgaaA2
import Derived.Test.YtbeageaekgccgaaA3
set_option linter.unusedVariables false
set_option linter.unusedSimpArgs false
set_option maxRecDepth 100000
set_option maxHeartbeats 1600000
namespace Go.Proofs.Ytbeageaekgccgaa
open Go.RowKit
theorem w_slices_pdqsortCmpFunc_api_Entry_clo_16_0_.F (cmp : api_Entry → api_Entry → Option (Int)) (hf_cmp : ∀ (x0 : api_Entry) (x1 : api_Entry) (y : Int), cmp x0 x1 = some y → Fn Try.prog 16 0 [.agg (api_Entry.dv x0), .agg (api_Entry.dv x1)] [] (fun d' b' => d' = .val (.int .i64 y) ∧ b' = [])) (rec : (List api_Entry) → Int → Int → Int → Option ((List api_Entry))) (hrec : ∀ (data : List api_Entry) (a : Int) (b : Int) (limit : Int) (r : (List api_Entry)), rec data a b limit = some r → Fn Try.prog 28 1 [.row 0, .val (.int .i64 a), .val (.int .i64 b), .val (.int .i64 limit), .clo 16 0 []] [.row 28 6 (encL api_Entry.enc data)] (fun d' b' => d' = .tup [] ∧ b' = [.row 28 6 (encL api_Entry.enc r)])) (data : List api_Entry) (a : Int) (b : Int) (limit : Int) (r : (List api_Entry)) (hg : g_slices_pdqsortCmpFunc_api_Entry.F rec data a b limit cmp = some r) : Fn Try.prog 28 1 [.row 0, .val (.int .i64 a), .val (.int .i64 b), .val (.int .i64 limit), .clo 16 0 []] [.row 28 6 (encL api_Entry.enc data)] (fun d' b' => d' = .tup [] ∧ b' = [.row 28 6 (encL api_Entry.enc r)]) := by
 unfold g_slices_pdqsortCmpFunc_api_Entry.F at hg
 refine Fn.of Try.func28 rfl rfl rfl fun w0 I ρ0 => ?_
 show awp _ ⟨w0, I, ρ0, 1, 1, 148⟩ _ _ _
 refine sr_ 1 9 mk_U ?_
 refine go_ ?_
 refine ch_n fun hU => ?_
 refine sr_ 9 17 hU ?_
 refine go_ ?_
 refine ch_n fun hU => ?_
 refine awp_block ?_
 refine lp_ (fun ((a_1, b_1, limit_1, wasBalanced_1, wasPartitioned_1, data_1) : Int × Int × Int × Bool × Bool × List api_Entry) => mk [(0, .row 0), (1, .val (.int .i64 a_1)), (2, .val (.int .i64 b_1)), (3, .val (.int .i64 limit_1)), (4, .clo 16 0 []), (10, .val (.bool wasBalanced_1)), (11, .val (.bool wasPartitioned_1))] [(0, .row 28 6 (encL api_Entry.enc data_1))] 1) hg (sub_ [(0, 0)]) ?_
 rintro ⟨a_1, b_1, limit_1, wasBalanced_1, wasPartitioned_1, data_1⟩ m1 o1 hg hn1
 replace hg : g_slices_pdqsortCmpFunc_api_Entry.l1 rec cmp a_1 b_1 limit_1 wasBalanced_1 wasPartitioned_1 data_1 = some o1 := hg
 show awp _ _ _ _ (mk _ _ _)
 unfold g_slices_pdqsortCmpFunc_api_Entry.l1 at hg
 refine awp_block ?_
 refine sr_ 1 33 mk_U ?_
 refine go_ ?_
 refine ch_n fun hU => ?_
 refine awp_seq ?_
 refine sr_ 33 49 hU ?_
 refine go_ ?_
 refine ch_n fun hU => ?_
 refine cg_ rfl hg (fun h5 hg => ?_) fun h5 hg => ?_
 ·refine awp_seq ?_
  refine awp_region (sys _ _ []) 49 89 hU rfl rfl ?_
  refine go_ ?_
  obtain ⟨y, hy, hg⟩ := bind_some hg
  refine cb_ [0] [0] [] false (w_slices_insertionSortCmpFunc_api_Entry_clo_16_0_ data_1 a_1 b_1 cmp hf_cmp _ hy) ?_
  refine ch_n fun hU => ?_
  refine aw_r ?_
  replace hg := leave hg hn1
  obtain rfl := Option.some.inj hg
  exact fin_ [(0, 0)] ⟨rfl, rfl⟩
 ·refine awp_skip ?_
  repeat first | refine st_ ?_ | refine sn_ ?_
  refine awp_seq ?_
  refine sr_ 49 65 hU ?_
  refine go_ ?_
  refine ch_n fun hU => ?_
  refine cg_ rfl hg (fun h8 hg => ?_) fun h8 hg => ?_
  ·refine awp_seq ?_
   refine awp_region (sys _ _ []) 65 105 hU rfl rfl ?_
   refine go_ ?_
   obtain ⟨y_2, hy_2, hg⟩ := bind_some hg
   refine cb_ [0] [0] [] false (w_slices_heapSortCmpFunc_api_Entry_clo_16_0_ data_1 a_1 b_1 cmp hf_cmp _ hy_2) ?_
   refine ch_n fun hU => ?_
   refine aw_r ?_
   replace hg := leave hg hn1
   obtain rfl := Option.some.inj hg
   exact fin_ [(0, 0)] ⟨rfl, rfl⟩
  ·refine awp_skip ?_
   repeat first | refine st_ ?_ | refine sn_ ?_
   refine awp_cut (ι := Int × List api_Entry) (fun ((limit_2, data_2) : Int × List api_Entry) => mk [(0, .row 0), (1, .val (.int .i64 a_1)), (2, .val (.int .i64 b_1)), (3, .val (.int .i64 limit_2)), (4, .clo 16 0 []), (10, .val (.bool wasBalanced_1)), (11, .val (.bool wasPartitioned_1)), (12, .val (.int .i64 (W (b_1 - a_1))))] [(0, .row 28 6 (encL api_Entry.enc data_2))] 1) (fun ((limit_2, data_2) : Int × List api_Entry) => g_slices_pdqsortCmpFunc_api_Entry.j2 rec cmp a_1 b_1 wasBalanced_1 wasPartitioned_1 limit_2 data_2 = some o1) ?_ ?_
   ·refine awp_seq ?_
    refine awp_region (sys _ _ []) 65 81 hU rfl rfl ?_
    refine go_ ?_
    refine ch_n fun hU => ?_
    refine cg_ rfl hg (fun h11 hg => ?_) fun h11 hg => ?_
    ·refine awp_seq ?_
     refine awp_region (sys _ _ []) 81 121 hU rfl rfl ?_
     refine go_ ?_
     obtain ⟨y_3, hy_3, hg⟩ := bind_some hg
     refine cb_ [0] [0] [] false (w_slices_breakPatternsCmpFunc_api_Entry_clo_16_0_ data_1 a_1 b_1 cmp hf_cmp _ hy_3) ?_
     refine ch_n fun hU => ?_
     refine awp_region (sys _ _ []) 121 145 hU rfl rfl ?_
     refine go_ ?_
     refine ch_n fun hU => ?_
     exact ⟨(W (limit_1 - 1), y_3), hg, sub_ [(0, 0)]⟩
    ·refine awp_skip ?_
     repeat first | refine st_ ?_ | refine sn_ ?_
     exact ⟨(limit_1, data_1), hg, sub_ [(0, 0)]⟩
   ·rintro ⟨limit_2, data_2⟩ hg
    replace hg : g_slices_pdqsortCmpFunc_api_Entry.j2 rec cmp a_1 b_1 wasBalanced_1 wasPartitioned_1 limit_2 data_2 = some o1 := hg
    show awp _ _ _ _ (mk _ _ _)
    unfold g_slices_pdqsortCmpFunc_api_Entry.j2 at hg
    refine sr_ 1 81 mk_U ?_
    refine go_ ?_
    obtain ⟨y_4, hy_4, hg⟩ := bind_some hg
    refine cb_ [0] [] [] true (w_slices_choosePivotCmpFunc_api_Entry_clo_16_0_ data_2 a_1 b_1 cmp hf_cmp _ hy_4) ?_
    refine go_ ?_
    refine ch_n fun hU => ?_
    refine awp_cut (ι := Int × Int × List api_Entry) (fun ((pivot_3, hint_3, data_3) : Int × Int × List api_Entry) => mk [(0, .row 0), (1, .val (.int .i64 a_1)), (2, .val (.int .i64 b_1)), (3, .val (.int .i64 limit_2)), (4, .clo 16 0 []), (10, .val (.bool wasBalanced_1)), (11, .val (.bool wasPartitioned_1)), (12, .val (.int .i64 (W (b_1 - a_1)))), (13, .val (.int .i64 pivot_3)), (14, .val (.int .i64 hint_3))] [(0, .row 28 6 (encL api_Entry.enc data_3))] 1) (fun ((pivot_3, hint_3, data_3) : Int × Int × List api_Entry) => g_slices_pdqsortCmpFunc_api_Entry.j3 rec cmp a_1 b_1 wasBalanced_1 wasPartitioned_1 limit_2 pivot_3 hint_3 data_3 = some o1) ?_ ?_
    ·refine awp_seq ?_
     refine awp_region (sys _ _ []) 81 97 hU rfl rfl ?_
     refine go_ ?_
     refine ch_n fun hU => ?_
     refine cg_ rfl hg (fun h16 hg => ?_) fun h16 hg => ?_
     ·refine awp_seq ?_
      refine awp_region (sys _ _ []) 97 137 hU rfl rfl ?_
      refine go_ ?_
      obtain ⟨y_5, hy_5, hg⟩ := bind_some hg
      refine cb_ [0] [0] [] false (w_slices_reverseRangeCmpFunc_api_Entry_clo_16_0_ data_2 a_1 b_1 cmp hf_cmp _ hy_5) ?_
      refine ch_n fun hU => ?_
      refine sr_ 137 193 hU ?_
      refine go_ ?_
      refine ch_n fun hU => ?_
      refine awp_region (sys _ _ []) 193 201 hU rfl rfl ?_
      refine go_ ?_
      refine ch_n fun hU => ?_
      exact ⟨(W ((W (b_1 - 1)) - (W (y_4.1 - a_1))), 1, y_5), hg, sub_ [(0, 0)]⟩
     ·refine awp_skip ?_
      repeat first | refine st_ ?_ | refine sn_ ?_
      exact ⟨(y_4.1, y_4.2, data_2), hg, sub_ [(0, 0)]⟩
    ·rintro ⟨pivot_3, hint_3, data_3⟩ hg
     replace hg : g_slices_pdqsortCmpFunc_api_Entry.j3 rec cmp a_1 b_1 wasBalanced_1 wasPartitioned_1 limit_2 pivot_3 hint_3 data_3 = some o1 := hg
     show awp _ _ _ _ (mk _ _ _)
     unfold g_slices_pdqsortCmpFunc_api_Entry.j3 at hg
     refine awp_cut (ι := List api_Entry) (fun (data_5 : List api_Entry) => mk [(0, .row 0), (1, .val (.int .i64 a_1)), (2, .val (.int .i64 b_1)), (3, .val (.int .i64 limit_2)), (4, .clo 16 0 []), (10, .val (.bool wasBalanced_1)), (11, .val (.bool wasPartitioned_1)), (12, .val (.int .i64 (W (b_1 - a_1)))), (13, .val (.int .i64 pivot_3))] [(0, .row 28 6 (encL api_Entry.enc data_5))] 1) (fun (data_5 : List api_Entry) => g_slices_pdqsortCmpFunc_api_Entry.j5 rec cmp a_1 b_1 wasBalanced_1 wasPartitioned_1 limit_2 pivot_3 data_5 = some o1) ?_ ?_
     ·refine awp_cut (ι := Bool) (fun (x75_4 : Bool) => mk [(0, .row 0), (1, .val (.int .i64 a_1)), (2, .val (.int .i64 b_1)), (3, .val (.int .i64 limit_2)), (4, .clo 16 0 []), (10, .val (.bool wasBalanced_1)), (11, .val (.bool wasPartitioned_1)), (12, .val (.int .i64 (W (b_1 - a_1)))), (13, .val (.int .i64 pivot_3)), (75, .val (.bool x75_4))] [(0, .row 28 6 (encL api_Entry.enc data_3))] 1) (fun (x75_4 : Bool) => g_slices_pdqsortCmpFunc_api_Entry.j4 rec cmp a_1 b_1 wasBalanced_1 wasPartitioned_1 limit_2 pivot_3 data_3 x75_4 = some o1) ?_ ?_
      ·refine awp_region (sys _ _ []) 1 65 mk_U rfl rfl ?_
       refine go_ ?_
       rcases bc_ hg with ⟨h20, hg⟩ | ⟨h20, hg⟩
       ·refine go_ ?_
        rcases bc_ hg with ⟨h21, hg⟩ | ⟨h21, hg⟩
        ·refine go_ ?_
         refine ch_n fun hU => ?_
         exact ⟨decide (hint_3 = 1), hg, sub_ [(0, 0)]⟩
        ·refine go_ ?_
         refine ch_n fun hU => ?_
         exact ⟨false, hg, sub_ [(0, 0)]⟩
       ·refine go_ ?_
        refine ch_n fun hU => ?_
        exact ⟨false, hg, sub_ [(0, 0)]⟩
      ·rintro x75_4 hg
       replace hg : g_slices_pdqsortCmpFunc_api_Entry.j4 rec cmp a_1 b_1 wasBalanced_1 wasPartitioned_1 limit_2 pivot_3 data_3 x75_4 = some o1 := hg
       show awp _ _ _ _ (mk _ _ _)
       unfold g_slices_pdqsortCmpFunc_api_Entry.j4 at hg
       refine cg_ rfl hg (fun h25 hg => ?_) fun h25 hg => ?_
       ·refine awp_seq ?_
        refine awp_region (sys _ _ []) 1 41 mk_U rfl rfl ?_
        refine go_ ?_
        obtain ⟨y_6, hy_6, hg⟩ := bind_some hg
        refine cb_ [0] [0] [] false (w_slices_partialInsertionSortCmpFunc_api_Entry_clo_16_0_ data_3 a_1 b_1 cmp hf_cmp _ hy_6) ?_
        refine ch_n fun hU => ?_
        refine cg_ rfl hg (fun h27 hg => ?_) fun h27 hg => ?_
        ·refine awp_ret ?_
         repeat first | refine st_ ?_ | refine sn_ ?_
         replace hg := leave hg hn1
         obtain rfl := Option.some.inj hg
         exact fin_ [(0, 0)] ⟨rfl, rfl⟩
        ·refine awp_skip ?_
         repeat first | refine st_ ?_ | refine sn_ ?_
         exact ⟨y_6.2, hg, sub_ [(0, 0)]⟩
       ·refine awp_skip ?_
        repeat first | refine st_ ?_ | refine sn_ ?_
        exact ⟨data_3, hg, sub_ [(0, 0)]⟩
     ·rintro data_5 hg
      replace hg : g_slices_pdqsortCmpFunc_api_Entry.j5 rec cmp a_1 b_1 wasBalanced_1 wasPartitioned_1 limit_2 pivot_3 data_5 = some o1 := hg
      show awp _ _ _ _ (mk _ _ _)
      unfold g_slices_pdqsortCmpFunc_api_Entry.j5 at hg
      refine awp_seq ?_
      refine awp_cut (ι := Bool) (fun (x97_6 : Bool) => mk [(0, .row 0), (1, .val (.int .i64 a_1)), (2, .val (.int .i64 b_1)), (3, .val (.int .i64 limit_2)), (4, .clo 16 0 []), (10, .val (.bool wasBalanced_1)), (11, .val (.bool wasPartitioned_1)), (12, .val (.int .i64 (W (b_1 - a_1)))), (13, .val (.int .i64 pivot_3)), (97, .val (.bool x97_6))] [(0, .row 28 6 (encL api_Entry.enc data_5))] 1) (fun (x97_6 : Bool) => g_slices_pdqsortCmpFunc_api_Entry.j6 rec cmp a_1 b_1 wasBalanced_1 wasPartitioned_1 limit_2 pivot_3 data_5 x97_6 = some o1) ?_ ?_
      ·refine awp_draw (sys _ _ []) (by kernel_rfl) [0, 1, 3, 7, 7, 7, 39, 119, 247, 7, 7, 1543, 3591, 8191, 16383, 32767, 65535] 1 137 mk_U rfl rfl (by kernel_rfl) ?_
       refine go_ ?_
       rcases bc_ hg with ⟨h28, hg⟩ | ⟨h28, hg⟩
       ·refine go_ ?_
        obtain ⟨e, he, hg⟩ := bind_some hg
        refine go_ ?_
        refine ch_s (rd := [0]) (gdv_t rfl rfl h28) rfl (r_loadRA ty28 (enc_cells api_Entry.enc_len (getI_at he) (o := 0) (m := 6) (cs := [.str e.Alias, .int .i64 e.Key.Alg, .int .i64 e.Key.Bits, .int .i64 e.KeyId, .bool e.Secret, .sl 15 (encL api_Certificate.enc e.Chain)]) rfl (by decide) rfl) (enc_cells_le api_Entry.enc_len (getI_at he) (o := 0) (m := 6) (by decide) rfl)) rfl rfl ?_
        refine go_ ?_
        obtain ⟨e_2, he_2, hg⟩ := bind_some hg
        refine go_ ?_
        refine ch_s (rd := [0]) (gdv_t rfl rfl h28) rfl (r_loadRA ty28 (enc_cells api_Entry.enc_len (getI_at he_2) (o := 0) (m := 6) (cs := [.str e_2.Alias, .int .i64 e_2.Key.Alg, .int .i64 e_2.Key.Bits, .int .i64 e_2.KeyId, .bool e_2.Secret, .sl 15 (encL api_Certificate.enc e_2.Chain)]) rfl (by decide) rfl) (enc_cells_le api_Entry.enc_len (getI_at he_2) (o := 0) (m := 6) (by decide) rfl)) rfl rfl ?_
        obtain ⟨y_7, hy_7, hg⟩ := bind_some hg
        refine ch_callCP (rd := []) (ps := []) (gs := []) false (gdv_t rfl rfl h28) rfl (hf_cmp e e_2 _ hy_7) rfl rfl (.cons (.agg (.cons .val (.cons .val (.cons .val (.cons .val (.cons .val (.cons .sl .nil))))))) (.cons (.agg (.cons .val (.cons .val (.cons .val (.cons .val (.cons .val (.cons .sl .nil))))))) .nil)) rfl rfl (by intro h; cases h) rfl rfl rfl rfl ?_
        refine go_ ?_
        refine ch_n fun hU => ?_
        exact ⟨!(decide (y_7 < 0)), hg, sub_ [(0, 0)]⟩
       ·refine go_ ?_
        refine ch_n fun hU => ?_
        exact ⟨false, hg, sub_ [(0, 0)]⟩
      ·rintro x97_6 hg
       replace hg : g_slices_pdqsortCmpFunc_api_Entry.j6 rec cmp a_1 b_1 wasBalanced_1 wasPartitioned_1 limit_2 pivot_3 data_5 x97_6 = some o1 := hg
       show awp _ _ _ _ (mk _ _ _)
       unfold g_slices_pdqsortCmpFunc_api_Entry.j6 at hg
       refine cg_ rfl hg (fun h31 hg => ?_) fun h31 hg => ?_
       ·refine awp_seq ?_
        refine awp_region (sys _ _ []) 1 57 mk_U rfl rfl ?_
        refine go_ ?_
        obtain ⟨y_8, hy_8, hg⟩ := bind_some hg
        refine cb_ [0] [0] [] false (w_slices_partitionEqualCmpFunc_api_Entry_clo_16_0_ data_5 a_1 b_1 pivot_3 cmp hf_cmp _ hy_8) ?_
        refine go_ ?_
        refine ch_n fun hU => ?_
        refine sr_ 57 73 hU ?_
        refine go_ ?_
        refine ch_n fun hU => ?_
        refine awp_exit ?_
        repeat first | refine st_ ?_ | refine sn_ ?_
        obtain rfl := Option.some.inj hg
        exact ⟨((y_8.1, b_1, limit_2, wasBalanced_1, wasPartitioned_1, y_8.2), m1), Nat.lt_succ_self _, hn1, sub_ [(0, 0)]⟩
       ·refine awp_skip ?_
        repeat first | refine st_ ?_ | refine sn_ ?_
        refine sr_ 1 89 mk_U ?_
        refine go_ ?_
        obtain ⟨y_9, hy_9, hg⟩ := bind_some hg
        refine cb_ [0] [0] [] false (w_slices_partitionCmpFunc_api_Entry_clo_16_0_ data_5 a_1 b_1 pivot_3 cmp hf_cmp _ hy_9) ?_
        refine go_ ?_
        refine ch_n fun hU => ?_
        refine sr_ 89 105 hU ?_
        refine go_ ?_
        refine ch_n fun hU => ?_
        refine sr_ 105 169 hU ?_
        refine go_ ?_
        refine ch_n fun hU => ?_
        refine sr_ 169 193 hU ?_
        refine go_ ?_
        obtain ⟨q, hq, hg⟩ := bind_some hg
        refine c0_ rfl rfl (r_quo hq) rfl rfl ?_
        refine go_ ?_
        refine ch_n fun hU => ?_
        refine sr_ 193 217 hU ?_
        refine go_ ?_
        refine ch_n fun hU => ?_
        refine cg_ rfl hg (fun h39 hg => ?_) fun h39 hg => ?_
        ·refine awp_seq ?_
         refine awp_region (sys _ _ []) 217 249 hU rfl rfl ?_
         refine go_ ?_
         refine ch_n fun hU => ?_
         refine sr_ 249 297 hU ?_
         refine go_ ?_
         obtain ⟨y_10, hy_10, hg⟩ := bind_some hg
         refine cb_ [0] [0] [] false (hrec y_9.2.2 a_1 y_9.1 limit_2 _ hy_10) ?_
         refine ch_n fun hU => ?_
         refine awp_region (sys _ _ []) 297 321 hU rfl rfl ?_
         refine go_ ?_
         refine ch_n fun hU => ?_
         obtain rfl := Option.some.inj hg
         exact ⟨((W (y_9.1 + 1), b_1, limit_2, decide (q ≤ (W (y_9.1 - a_1))), y_9.2.1, y_10), m1), Nat.lt_succ_self _, hn1, sub_ [(0, 0)]⟩
        ·refine awp_seq ?_
         refine awp_region (sys _ _ []) 217 249 hU rfl rfl ?_
         refine go_ ?_
         refine ch_n fun hU => ?_
         refine sr_ 249 305 hU ?_
         refine go_ ?_
         obtain ⟨y_11, hy_11, hg⟩ := bind_some hg
         refine cb_ [0] [0] [] false (hrec y_9.2.2 (W (y_9.1 + 1)) b_1 limit_2 _ hy_11) ?_
         refine ch_n fun hU => ?_
         refine awp_region (sys _ _ []) 305 321 hU rfl rfl ?_
         refine go_ ?_
         refine ch_n fun hU => ?_
         obtain rfl := Option.some.inj hg
         exact ⟨((a_1, y_9.1, limit_2, decide (q ≤ (W (b_1 - y_9.1))), y_9.2.1, y_11), m1), Nat.lt_succ_self _, hn1, sub_ [(0, 0)]⟩
theorem w_slices_pdqsortCmpFunc_api_Entry_clo_16_0_ (data : List api_Entry) (a : Int) (b : Int) (limit : Int) (cmp : api_Entry → api_Entry → Option (Int)) (hf_cmp : ∀ (x0 : api_Entry) (x1 : api_Entry) (y : Int), cmp x0 x1 = some y → Fn Try.prog 16 0 [.agg (api_Entry.dv x0), .agg (api_Entry.dv x1)] [] (fun d' b' => d' = .val (.int .i64 y) ∧ b' = [])) (r : (List api_Entry)) (hg : g_slices_pdqsortCmpFunc_api_Entry data a b limit cmp = some r) : Fn Try.prog 28 1 [.row 0, .val (.int .i64 a), .val (.int .i64 b), .val (.int .i64 limit), .clo 16 0 []] [.row 28 6 (encL api_Entry.enc data)] (fun d' b' => d' = .tup [] ∧ b' = [.row 28 6 (encL api_Entry.enc r)]) :=
 fixT_ind (motive := fun (x : List api_Entry × Int × Int × Int) (r : (List api_Entry)) => Fn Try.prog 28 1 [.row 0, .val (.int .i64 x.2.1), .val (.int .i64 x.2.2.1), .val (.int .i64 x.2.2.2), .clo 16 0 []] [.row 28 6 (encL api_Entry.enc x.1)] (fun d' b' => d' = .tup [] ∧ b' = [.row 28 6 (encL api_Entry.enc r)])) (fun rec hrec x r h => w_slices_pdqsortCmpFunc_api_Entry_clo_16_0_.F cmp hf_cmp _ (fun data a b limit r h => hrec (data, a, b, limit) r h) x.1 x.2.1 x.2.2.1 x.2.2.2 r h) (data, a, b, limit) r hg
theorem w_slices_SortFunc_api_Entry_clo_16_0_ (x' : List api_Entry) (cmp : api_Entry → api_Entry → Option (Int)) (hf_cmp : ∀ (x0 : api_Entry) (x1 : api_Entry) (y : Int), cmp x0 x1 = some y → Fn Try.prog 16 0 [.agg (api_Entry.dv x0), .agg (api_Entry.dv x1)] [] (fun d' b' => d' = .val (.int .i64 y) ∧ b' = [])) (r : (List api_Entry)) (hg : g_slices_SortFunc_api_Entry x' cmp = some r) : Fn Try.prog 15 1 [.row 0, .clo 16 0 []] [.row 28 6 (encL api_Entry.enc x')] (fun d' b' => d' = .tup [] ∧ b' = [.row 28 6 (encL api_Entry.enc r)]) := by
 unfold g_slices_SortFunc_api_Entry at hg
 refine Fn.of Try.func15 rfl rfl rfl fun w0 I ρ0 => ?_
 show awp _ ⟨w0, I, ρ0, 1, 1, 14⟩ _ _ _
 refine sr_ 1 25 mk_U ?_
 refine go_ ?_
 refine ch_n fun hU => ?_
 refine awp_region (sys _ _ []) 25 81 hU rfl rfl ?_
 refine go_ ?_
 refine c0_ rfl rfl (r_convK und3 und56) rfl rfl ?_
 obtain ⟨y, hy, hg⟩ := bind_some hg
 refine ca_ (w_math_bits_Len _ _ hy) ?_
 refine go_ ?_
 obtain ⟨y_2, hy_2, hg⟩ := bind_some hg
 refine cb_ [0] [0] [] false (w_slices_pdqsortCmpFunc_api_Entry_clo_16_0_ x' 0 (x'.length : Int) y cmp hf_cmp _ hy_2) ?_
 refine ch_n fun hU => ?_
 obtain rfl := Option.some.inj hg
 exact fin_ [(0, 0)] ⟨rfl, rfl⟩
theorem w_keystore_Merge (a : (List api_Entry)) (b : (List api_Entry)) (r : (List api_Entry) × Int) (hg : g_keystore_Merge a b = some r) : Fn Try.prog 6 0 [.sl 6 (encL api_Entry.enc a), .sl 6 (encL api_Entry.enc b)] [] (fun d' b' => d' = .tup [.sl 6 (encL api_Entry.enc r.1), .val (.int .i64 r.2)] ∧ b' = []) := by
 unfold g_keystore_Merge at hg
 refine Fn.of Try.func6 rfl rfl rfl fun w0 I ρ0 => ?_
 show awp _ ⟨w0, I, ρ0, 0, 0, 71⟩ _ _ _
 refine sr_ 0 16 mk_U ?_
 refine go_ ?_
 refine ch_n fun hU => ?_
 refine awp_seq ?_
 refine awp_cut (ι := Bool) (fun (x21_1 : Bool) => mk [(0, .sl 6 (encL api_Entry.enc a)), (1, .sl 6 (encL api_Entry.enc b)), (21, .val (.bool x21_1))] [] 0) (fun (x21_1 : Bool) => g_keystore_Merge.j1 a b x21_1 = some r) ?_ ?_
 ·refine awp_region (sys _ _ []) 16 80 hU rfl rfl ?_
  refine go_ ?_
  obtain ⟨y, hy, hg⟩ := bind_some hg
  refine ca_ (w_keystore_Check _ _ hy) ?_
  refine go_ ?_
  rcases bc_ hg with ⟨h2, hg⟩ | ⟨h2, hg⟩
  ·refine go_ ?_
   refine ch_n fun hU => ?_
   exact ⟨true, hg, sub_ []⟩
  ·refine go_ ?_
   obtain ⟨y_2, hy_2, hg⟩ := bind_some hg
   refine ca_ (w_keystore_Check _ _ hy_2) ?_
   refine go_ ?_
   refine ch_n fun hU => ?_
   exact ⟨!decide (y_2 = 0), hg, sub_ []⟩
 ·rintro x21_1 hg
  replace hg : g_keystore_Merge.j1 a b x21_1 = some r := hg
  show awp _ _ _ _ (mk _ _ _)
  unfold g_keystore_Merge.j1 at hg
  refine cg_ rfl hg (fun h5 hg => ?_) fun h5 hg => ?_
  ·refine awp_seq ?_
   refine awp_region (sys _ _ []) 0 16 mk_U rfl rfl ?_
   refine go_ ?_
   refine ch_n fun hU => ?_
   refine aw_r ?_
   obtain rfl := Option.some.inj hg
   exact fin_ [] ⟨rfl, rfl⟩
  ·refine awp_skip ?_
   repeat first | refine st_ ?_ | refine sn_ ?_
   refine sr_ 0 72 mk_U ?_
   refine go_ ?_
   obtain ⟨m, hm, hg⟩ := bind_some hg
   refine ch_x (rd := []) rfl rfl (x_make (f := api_Entry.enc) (z0 := (api_Entry.mk (⟨#[]⟩ : ByteArray) (api_Use.mk 0 0) 0 false ([] : (List api_Certificate)))) sl22 api_Entry.enc_len (zt_of (ck := [none, none, none, none, none, some 15]) z28 (.cons .str (.cons .int (.cons .int (.cons .int (.cons .bool (.cons .nil .nil))))))) (by intro h; injection h with h; cases h) hm rfl) rfl rfl (fun _ => ⟨_, rfl⟩) ?_
   rintro _ rfl
   refine go_ ?_
   refine ch_n fun hU => ?_
   refine sr_ 72 96 hU ?_
   refine go_ ?_
   obtain ⟨l, hl, hg⟩ := bind_some hg
   refine ch_x (rd := [56]) rfl rfl (x_copy sl22 sl22 api_Entry.enc_len (.head _) hl) rfl rfl (fun _ => ⟨_, rfl⟩) ?_
   rintro _ rfl
   refine ch_n fun hU => ?_
   refine awp_seq ?_
   refine sr_ 96 120 hU ?_
   refine go_ ?_
   refine ch_n fun hU => ?_
   refine awp_block ?_
   refine lp_ (fun ((x35_2, l_2) : Int × List api_Entry) => mk [(1, .sl 6 (encL api_Entry.enc b)), (6, .row 0), (33, .sl 6 (encL api_Entry.enc a)), (34, .val (.int .i64 (a.length : Int))), (35, .val (.int .i64 x35_2))] [(0, .row 28 6 (encL api_Entry.enc l_2))] 1) hg (sub_ [(0, 56)]) ?_
   rintro ⟨x35_2, l_2⟩ m2 o2 hg hn2
   replace hg : g_keystore_Merge.l2 a b x35_2 l_2 = some o2 := hg
   show awp _ _ _ _ (mk _ _ _)
   unfold g_keystore_Merge.l2 at hg
   refine sr_ 1 9 mk_U ?_
   refine go_ ?_
   refine ch_n fun hU => ?_
   refine awp_seq ?_
   refine cg_ rfl hg (fun h11 hg => ?_) fun h11 hg => ?_
   ·refine awp_skip ?_
    repeat first | refine st_ ?_ | refine sn_ ?_
    refine awp_cut (ι := List api_Entry) (fun (l_3_2 : List api_Entry) => mk [(1, .sl 6 (encL api_Entry.enc b)), (6, .row 0), (33, .sl 6 (encL api_Entry.enc a)), (34, .val (.int .i64 (a.length : Int))), (35, .val (.int .i64 x35_2))] [(0, .row 28 6 (encL api_Entry.enc l_3_2))] 1) (fun (l_3_2 : List api_Entry) => g_keystore_Merge.j3 x35_2 l_3_2 = some o2) ?_ ?_
    ·refine awp_block ?_
     refine sr_ 9 41 hU ?_
     obtain ⟨e, he, hg⟩ := bind_some hg
     refine go_ ?_
     refine c0_ rfl rfl (r_loadEA ty28 (enc_cells api_Entry.enc_len (getI_at he) (o := 0) (m := 6) (cs := [.str e.Alias, .int .i64 e.Key.Alg, .int .i64 e.Key.Bits, .int .i64 e.KeyId, .bool e.Secret, .sl 15 (encL api_Certificate.enc e.Chain)]) rfl (by decide) rfl) (enc_cells_le api_Entry.enc_len (getI_at he) (o := 0) (m := 6) (by decide) rfl)) rfl rfl ?_
     refine go_ ?_
     refine ch_n fun hU => ?_
     refine sr_ 41 121 hU ?_
     refine go_ ?_
     obtain ⟨y_3, hy_3, hg⟩ := bind_some hg
     refine ca_ (w_keystore_Find _ _ _ hy_3) ?_
     refine go_ ?_
     refine ch_n fun hU => ?_
     refine sr_ 121 137 hU ?_
     refine go_ ?_
     refine ch_n fun hU => ?_
     refine cg_ rfl hg (fun h15 hg => ?_) fun h15 hg => ?_
     ·refine awp_region (sys _ _ []) 137 177 hU rfl rfl ?_
      refine go_ ?_
      refine c0_ rfl rfl (r_buildFull sl22 z28 (by decide) rfl rfl rfl rfl ck28 (cs := [.str e.Alias, .int .i64 e.Key.Alg, .int .i64 e.Key.Bits, .int .i64 e.KeyId, .bool e.Secret, .sl 15 (encL api_Certificate.enc e.Chain)]) (.cons .str (.cons .int (.cons .int (.cons .int (.cons .bool (.cons .sl .nil)))))) rfl (l := ([e] : List api_Entry)) (f := api_Entry.enc) rfl) rfl rfl ?_
      obtain ⟨l_3, hl_3, hg⟩ := bind_some hg
      refine ch_s (rd := [0, 153]) rfl rfl (r_append sl22 api_Entry.enc_len .row rfl .row rfl hl_3 rfl) rfl rfl ?_
      refine go_ ?_
      refine ch_n fun hU => ?_
      exact ⟨l_3, hg, sub_ [(0, 161)]⟩
     ·refine awp_skip ?_
      repeat first | refine st_ ?_ | refine sn_ ?_
      exact ⟨l_2, hg, sub_ [(0, 0)]⟩
    ·rintro l_3_2 hg
     replace hg : g_keystore_Merge.j3 x35_2 l_3_2 = some o2 := hg
     show awp _ _ _ _ (mk _ _ _)
     unfold g_keystore_Merge.j3 at hg
     refine awp_region (sys _ _ []) 1 17 mk_U rfl rfl ?_
     refine go_ ?_
     refine ch_n fun hU => ?_
     obtain rfl := Option.some.inj hg
     exact ⟨((W (x35_2 + 1), l_3_2), m2), Nat.lt_succ_self _, hn2, sub_ [(0, 0)]⟩
   ·refine awp_exit ?_
    repeat first | refine st_ ?_ | refine sn_ ?_
    replace hg := leave hg hn2
    refine awp_seq ?_
    refine sr_ 9 33 hU ?_
    refine go_ ?_
    refine ch_n fun hU => ?_
    refine cg_ rfl hg (fun h19 hg => ?_) fun h19 hg => ?_
    ·refine awp_seq ?_
     refine awp_region (sys _ _ []) 33 49 hU rfl rfl ?_
     refine go_ ?_
     refine ch_n fun hU => ?_
     refine aw_r ?_
     obtain rfl := Option.some.inj hg
     exact fin_ [] ⟨rfl, rfl⟩
    ·refine awp_skip ?_
     repeat first | refine st_ ?_ | refine sn_ ?_
     refine sr_ 33 49 hU ?_
     refine go_ ?_
     obtain ⟨y_4, hy_4, hg⟩ := bind_some hg
     refine cb_ [0] [0] [] false (w_slices_SortFunc_api_Entry_clo_16_0_ l_2 (fun x0 x1 => g_keystore_Merge_c1 x0 x1) (fun x0 x1 y h => w_keystore_Merge_c1 x0 x1 y h) _ hy_4) ?_
     refine ch_n fun hU => ?_
     refine sr_ 49 57 hU ?_
     refine go_ ?_
     refine ch_n fun hU => ?_
     refine awp_seq ?_
     refine sr_ 57 81 hU ?_
     refine go_ ?_
     refine ch_n fun hU => ?_
     refine awp_block ?_
     refine lp_ (fun ((x60_4, out_4) : Int × List api_Entry) => mk [(11, .row 0), (58, .row 1), (59, .val (.int .i64 (y_4.length : Int))), (60, .val (.int .i64 x60_4))] [(0, .row 28 6 (encL api_Entry.enc out_4)), (1, .row 28 6 (encL api_Entry.enc y_4))] 2) hg (sub_ [(1, 0)]) ?_
     rintro ⟨x60_4, out_4⟩ m4 o4 hg hn4
     replace hg : g_keystore_Merge.l4 y_4 x60_4 out_4 = some o4 := hg
     show awp _ _ _ _ (mk _ _ _)
     unfold g_keystore_Merge.l4 at hg
     refine sr_ 2 10 mk_U ?_
     refine go_ ?_
     refine ch_n fun hU => ?_
     refine awp_seq ?_
     refine cg_ rfl hg (fun h25 hg => ?_) fun h25 hg => ?_
     ·refine awp_skip ?_
      repeat first | refine st_ ?_ | refine sn_ ?_
      refine awp_seq ?_
      refine awp_block ?_
      refine sr_ 10 42 hU ?_
      obtain ⟨e_2, he_2, hg⟩ := bind_some hg
      refine go_ ?_
      refine ch_s (rd := [1]) rfl rfl (r_loadRA ty28 (enc_cells api_Entry.enc_len (getI_at he_2) (o := 0) (m := 6) (cs := [.str e_2.Alias, .int .i64 e_2.Key.Alg, .int .i64 e_2.Key.Bits, .int .i64 e_2.KeyId, .bool e_2.Secret, .sl 15 (encL api_Certificate.enc e_2.Chain)]) rfl (by decide) rfl) (enc_cells_le api_Entry.enc_len (getI_at he_2) (o := 0) (m := 6) (by decide) rfl)) rfl rfl ?_
      refine go_ ?_
      refine ch_n fun hU => ?_
      refine awp_region (sys _ _ []) 42 90 hU rfl rfl ?_
      refine go_ ?_
      obtain ⟨y_5, hy_5, hg⟩ := bind_some hg
      refine ca_ (w_keystore_own _ _ hy_5) ?_
      refine c0_ rfl rfl (r_buildFull sl22 z28 (by decide) rfl rfl rfl rfl ck28 (cs := [.str y_5.Alias, .int .i64 y_5.Key.Alg, .int .i64 y_5.Key.Bits, .int .i64 y_5.KeyId, .bool y_5.Secret, .sl 15 (encL api_Certificate.enc y_5.Chain)]) (.cons .str (.cons .int (.cons .int (.cons .int (.cons .bool (.cons .sl .nil)))))) rfl (l := ([y_5] : List api_Entry)) (f := api_Entry.enc) rfl) rfl rfl ?_
      obtain ⟨l_4, hl_4, hg⟩ := bind_some hg
      refine ch_s (rd := [0, 66]) rfl rfl (r_append sl22 api_Entry.enc_len .row rfl .row rfl hl_4 rfl) rfl rfl ?_
      refine go_ ?_
      refine ch_n fun hU => ?_
      refine awp_region (sys _ _ []) 90 106 hU rfl rfl ?_
      refine go_ ?_
      refine ch_n fun hU => ?_
      obtain rfl := Option.some.inj hg
      exact ⟨((W (x60_4 + 1), l_4), m4), Nat.lt_succ_self _, hn4, sub_ [(0, 74), (1, 1)]⟩
     ·refine awp_exit ?_
      repeat first | refine st_ ?_ | refine sn_ ?_
      replace hg := leave hg hn4
      refine sr_ 10 34 hU ?_
      refine go_ ?_
      refine ch_n fun hU => ?_
      refine aw_r ?_
      obtain rfl := Option.some.inj hg
      exact fin_ [] ⟨rfl, rfl⟩
theorem w_law05_awake  (r : Bool) (hg : g_law05_awake = some r) : Fn Try.prog 5 0 [] [] (fun d' b' => d' = .val (.bool r) ∧ b' = []) := by
 unfold g_law05_awake at hg
 refine Fn.of Try.func5 rfl rfl rfl fun w0 I ρ0 => ?_
 show awp _ ⟨w0, I, ρ0, 0, 0, 50⟩ _ _ _
 refine sr_ 0 8 mk_U ?_
 refine go_ ?_
 refine ch_n fun hU => ?_
 refine sr_ 8 32 hU ?_
 refine c0_ rfl rfl (.build (r := [.val (.int .i64 5), .val (.int .i64 2048)]) und25 pl25 z25 (by kernel_rfl) rfl) rfl rfl ?_
 refine go_ ?_
 refine ch_n fun hU => ?_
 refine sr_ 32 80 hU ?_
 refine go_ ?_
 refine c0_ rfl rfl (.build (r := [.val (.string (⟨#[97]⟩ : ByteArray)), .val (.int .i64 5), .val (.int .i64 2048), .val (.int .i64 0), .val (.bool false), .val (.slice none 0 0)]) und28 pl28 z28 (by kernel_rfl) rfl) rfl rfl ?_
 refine go_ ?_
 refine c0_ rfl rfl (.build (r := [.val (.string (⟨#[98]⟩ : ByteArray)), .val (.int .i64 5), .val (.int .i64 2048), .val (.int .i64 1), .val (.bool false), .val (.slice none 0 0)]) und28 pl28 z28 (by kernel_rfl) rfl) rfl rfl ?_
 refine c0_ rfl rfl (r_buildFull sl22 z28 (by decide) rfl rfl rfl rfl ck28 (cs := [.str (⟨#[97]⟩ : ByteArray), .int .i64 5, .int .i64 2048, .int .i64 0, .bool false, .sl 15 (encL api_Certificate.enc []), .str (⟨#[98]⟩ : ByteArray), .int .i64 5, .int .i64 2048, .int .i64 1, .bool false, .sl 15 (encL api_Certificate.enc [])]) (.cons .str (.cons .int (.cons .int (.cons .int (.cons .bool (.cons .nil (.cons .str (.cons .int (.cons .int (.cons .int (.cons .bool (.cons .nil .nil)))))))))))) rfl (l := ([(api_Entry.mk (⟨#[97]⟩ : ByteArray) (api_Use.mk 5 2048) 0 false ([] : (List api_Certificate))), (api_Entry.mk (⟨#[98]⟩ : ByteArray) (api_Use.mk 5 2048) 1 false ([] : (List api_Certificate)))] : List api_Entry)) (f := api_Entry.enc) rfl) rfl rfl ?_
 refine go_ ?_
 refine ch_n fun hU => ?_
 refine sr_ 80 128 hU ?_
 refine go_ ?_
 refine c0_ rfl rfl (.build (r := [.val (.string (⟨#[98]⟩ : ByteArray)), .val (.int .i64 5), .val (.int .i64 2048), .val (.int .i64 2), .val (.bool false), .val (.slice none 0 0)]) und28 pl28 z28 (by kernel_rfl) rfl) rfl rfl ?_
 refine go_ ?_
 refine c0_ rfl rfl (.build (r := [.val (.string (⟨#[99]⟩ : ByteArray)), .val (.int .i64 5), .val (.int .i64 2048), .val (.int .i64 0), .val (.bool false), .val (.slice none 0 0)]) und28 pl28 z28 (by kernel_rfl) rfl) rfl rfl ?_
 refine c0_ rfl rfl (r_buildFull sl22 z28 (by decide) rfl rfl rfl rfl ck28 (cs := [.str (⟨#[98]⟩ : ByteArray), .int .i64 5, .int .i64 2048, .int .i64 2, .bool false, .sl 15 (encL api_Certificate.enc []), .str (⟨#[99]⟩ : ByteArray), .int .i64 5, .int .i64 2048, .int .i64 0, .bool false, .sl 15 (encL api_Certificate.enc [])]) (.cons .str (.cons .int (.cons .int (.cons .int (.cons .bool (.cons .nil (.cons .str (.cons .int (.cons .int (.cons .int (.cons .bool (.cons .nil .nil)))))))))))) rfl (l := ([(api_Entry.mk (⟨#[98]⟩ : ByteArray) (api_Use.mk 5 2048) 2 false ([] : (List api_Certificate))), (api_Entry.mk (⟨#[99]⟩ : ByteArray) (api_Use.mk 5 2048) 0 false ([] : (List api_Certificate)))] : List api_Entry)) (f := api_Entry.enc) rfl) rfl rfl ?_
 refine go_ ?_
 refine ch_n fun hU => ?_
 refine awp_seq ?_
 refine awp_sub (σ' := mk [(2, .sl 6 (encL api_Entry.enc ([(api_Entry.mk (⟨#[97]⟩ : ByteArray) (api_Use.mk 5 2048) 0 false ([] : (List api_Certificate))), (api_Entry.mk (⟨#[98]⟩ : ByteArray) (api_Use.mk 5 2048) 1 false ([] : (List api_Certificate)))] : List api_Entry))), (3, .row 0)] [(0, .row 28 6 (encL api_Entry.enc ([(api_Entry.mk (⟨#[98]⟩ : ByteArray) (api_Use.mk 5 2048) 2 false ([] : (List api_Certificate))), (api_Entry.mk (⟨#[99]⟩ : ByteArray) (api_Use.mk 5 2048) 0 false ([] : (List api_Certificate)))] : List api_Entry)))] 1) (sub_ [(0, 112)]) ?_
 refine awp_sub (σ' := mk [(2, .sl 6 (encL api_Entry.enc ([(api_Entry.mk (⟨#[97]⟩ : ByteArray) (api_Use.mk 5 2048) 0 false ([] : (List api_Certificate))), (api_Entry.mk (⟨#[98]⟩ : ByteArray) (api_Use.mk 5 2048) 1 false ([] : (List api_Certificate)))] : List api_Entry))), (3, .sl 6 (encL api_Entry.enc ([(api_Entry.mk (⟨#[98]⟩ : ByteArray) (api_Use.mk 5 2048) 2 false ([] : (List api_Certificate))), (api_Entry.mk (⟨#[99]⟩ : ByteArray) (api_Use.mk 5 2048) 0 false ([] : (List api_Certificate)))] : List api_Entry)))] [] 0) (sub_ []) ?_
 refine awp_region (sys _ _ []) 0 64 mk_U rfl rfl ?_
 refine go_ ?_
 obtain ⟨y, hy, hg⟩ := bind_some hg
 refine ca_ (w_keystore_Merge _ _ _ hy) ?_
 refine go_ ?_
 refine ch_n fun hU => ?_
 refine sr_ 64 128 hU ?_
 refine go_ ?_
 obtain ⟨y_2, hy_2, hg⟩ := bind_some hg
 refine ca_ (w_keystore_Find _ _ _ hy_2) ?_
 refine go_ ?_
 refine ch_n fun hU => ?_
 refine sr_ 128 296 hU ?_
 refine go_ ?_
 rcases bc_ hg with ⟨h7, hg⟩ | ⟨h7, hg⟩
 ·refine go_ ?_
  rcases bc_ hg with ⟨h8, hg⟩ | ⟨h8, hg⟩
  ·refine go_ ?_
   rcases bc_ hg with ⟨h9, hg⟩ | ⟨h9, hg⟩
   ·refine go_ ?_
    rcases bc_ hg with ⟨h10, hg⟩ | ⟨h10, hg⟩
    ·refine go_ ?_
     obtain ⟨y_3, hy_3, hg⟩ := bind_some hg
     refine ca_ (w_keystore_Check _ _ hy_3) ?_
     refine go_ ?_
     refine ch_n fun hU => ?_
     refine aw_r ?_
     obtain rfl := Option.some.inj hg
     exact fin_ [] ⟨rfl, rfl⟩
    ·refine go_ ?_
     refine ch_n fun hU => ?_
     refine aw_r ?_
     obtain rfl := Option.some.inj hg
     exact fin_ [] ⟨rfl, rfl⟩
   ·refine go_ ?_
    refine ch_n fun hU => ?_
    refine aw_r ?_
    obtain rfl := Option.some.inj hg
    exact fin_ [] ⟨rfl, rfl⟩
  ·refine go_ ?_
   refine ch_n fun hU => ?_
   refine aw_r ?_
   obtain rfl := Option.some.inj hg
   exact fin_ [] ⟨rfl, rfl⟩
 ·refine go_ ?_
  refine ch_n fun hU => ?_
  refine aw_r ?_
  obtain rfl := Option.some.inj hg
  exact fin_ [] ⟨rfl, rfl⟩
theorem w_ref03_Name (s : ByteArray) (r : Bool) (hg : g_ref03_Name s = some r) : Fn Try.prog 21 0 [.val (.string s)] [] (fun d' b' => d' = .val (.bool r) ∧ b' = []) := by
 unfold g_ref03_Name at hg
 refine Fn.of Try.func21 rfl rfl rfl fun w0 I ρ0 => ?_
 show awp _ ⟨w0, I, ρ0, 0, 0, 28⟩ _ _ _
 refine sr_ 0 8 mk_U ?_
 refine go_ ?_
 refine ch_n fun hU => ?_
 refine awp_seq ?_
 refine awp_cut (ι := Bool) (fun (x11_1 : Bool) => mk [(0, .val (.string s)), (11, .val (.bool x11_1))] [] 0) (fun (x11_1 : Bool) => g_ref03_Name.j1 s x11_1 = some r) ?_ ?_
 ·refine awp_region (sys _ _ []) 8 72 hU rfl rfl ?_
  refine go_ ?_
  refine c0_ rfl rfl (r_lenT und9) rfl rfl ?_
  refine go_ ?_
  rcases bc_ hg with ⟨h2, hg⟩ | ⟨h2, hg⟩
  ·refine go_ ?_
   refine ch_n fun hU => ?_
   exact ⟨true, hg, sub_ []⟩
  ·refine go_ ?_
   refine c0_ (gdv_t rfl rfl h2) rfl (r_lenT und9) rfl rfl ?_
   refine go_ ?_
   refine ch_n fun hU => ?_
   exact ⟨decide (32 < (s.size : Int)), hg, sub_ []⟩
 ·rintro x11_1 hg
  replace hg : g_ref03_Name.j1 s x11_1 = some r := hg
  show awp _ _ _ _ (mk _ _ _)
  unfold g_ref03_Name.j1 at hg
  refine cg_ rfl hg (fun h5 hg => ?_) fun h5 hg => ?_
  ·refine awp_seq ?_
   refine awp_region (sys _ _ []) 0 8 mk_U rfl rfl ?_
   refine go_ ?_
   refine ch_n fun hU => ?_
   refine aw_r ?_
   obtain rfl := Option.some.inj hg
   exact fin_ [] ⟨rfl, rfl⟩
  ·refine awp_skip ?_
   repeat first | refine st_ ?_ | refine sn_ ?_
   refine awp_seq ?_
   refine sr_ 0 8 mk_U ?_
   refine go_ ?_
   refine ch_n fun hU => ?_
   refine awp_block ?_
   refine lp_ (fun (i_2 : Int) => mk [(0, .val (.string s)), (3, .val (.int .i64 i_2))] [] 0) hg (sub_ []) ?_
   rintro i_2 m2 o2 hg hn2
   replace hg : g_ref03_Name.l2 s i_2 = some o2 := hg
   show awp _ _ _ _ (mk _ _ _)
   unfold g_ref03_Name.l2 at hg
   refine awp_seq ?_
   refine sr_ 0 32 mk_U ?_
   refine go_ ?_
   refine c0_ rfl rfl (r_lenT und9) rfl rfl ?_
   refine go_ ?_
   refine ch_n fun hU => ?_
   refine cg_ rfl hg (fun h9 hg => ?_) fun h9 hg => ?_
   ·refine awp_skip ?_
    repeat first | refine st_ ?_ | refine sn_ ?_
    refine awp_seq ?_
    refine awp_block ?_
    refine awp_cut (ι := Bool) (fun (x27_3 : Bool) => mk [(0, .val (.string s)), (3, .val (.int .i64 i_2)), (27, .val (.bool x27_3))] [] 0) (fun (x27_3 : Bool) => g_ref03_Name.j3 i_2 x27_3 = some o2) ?_ ?_
    ·refine awp_region (sys _ _ []) 32 112 hU rfl rfl ?_
     refine go_ ?_
     obtain ⟨c, hc, hg⟩ := bind_some hg
     refine c0_ rfl rfl (r_idxT und9 hc) rfl rfl ?_
     refine go_ ?_
     rcases bc_ hg with ⟨h10, hg⟩ | ⟨h10, hg⟩
     ·refine go_ ?_
      refine ch_n fun hU => ?_
      exact ⟨true, hg, sub_ []⟩
     ·refine go_ ?_
      obtain ⟨c_2, hc_2, hg⟩ := bind_some hg
      refine c0_ (gdv_t rfl rfl h10) rfl (r_idxT und9 hc_2) rfl rfl ?_
      refine go_ ?_
      refine ch_n fun hU => ?_
      exact ⟨decide (126 < (c_2.toNat : Int)), hg, sub_ []⟩
    ·rintro x27_3 hg
     replace hg : g_ref03_Name.j3 i_2 x27_3 = some o2 := hg
     show awp _ _ _ _ (mk _ _ _)
     unfold g_ref03_Name.j3 at hg
     refine cg_ rfl hg (fun h13 hg => ?_) fun h13 hg => ?_
     ·refine awp_seq ?_
      refine awp_region (sys _ _ []) 0 8 mk_U rfl rfl ?_
      refine go_ ?_
      refine ch_n fun hU => ?_
      refine aw_r ?_
      replace hg := leave hg hn2
      obtain rfl := Option.some.inj hg
      exact fin_ [] ⟨rfl, rfl⟩
     ·refine awp_skip ?_
      repeat first | refine st_ ?_ | refine sn_ ?_
      refine awp_region (sys _ _ []) 0 24 mk_U rfl rfl ?_
      refine go_ ?_
      refine ch_n fun hU => ?_
      obtain rfl := Option.some.inj hg
      exact ⟨(W (i_2 + 1), m2), Nat.lt_succ_self _, hn2, sub_ []⟩
   ·refine awp_exit ?_
    repeat first | refine st_ ?_ | refine sn_ ?_
    replace hg := leave hg hn2
    refine sr_ 32 40 hU ?_
    refine go_ ?_
    refine ch_n fun hU => ?_
    refine aw_r ?_
    obtain rfl := Option.some.inj hg
    exact fin_ [] ⟨rfl, rfl⟩
theorem w_ref02_modulus (b : Int) (r : Int) (hg : g_ref02_modulus b = some r) : Fn Try.prog 80 0 [.val (.int .i64 b)] [] (fun d' b' => d' = .val (.int .i64 r) ∧ b' = []) := by
 unfold g_ref02_modulus at hg
 refine Fn.of Try.func80 rfl rfl rfl fun w0 I ρ0 => ?_
 show awp _ ⟨w0, I, ρ0, 0, 0, 25⟩ _ _ _
 refine sr_ 0 8 mk_U ?_
 refine go_ ?_
 refine ch_n fun hU => ?_
 refine awp_seq ?_
 refine awp_block ?_
 refine awp_cut (ι := Bool) (fun (x3_1 : Bool) => mk [(0, .val (.int .i64 b)), (3, .val (.bool x3_1))] [] 0) (fun (x3_1 : Bool) => g_ref02_modulus.j1 b x3_1 = some r) ?_ ?_
 ·refine awp_region (sys _ _ []) 8 64 hU rfl rfl ?_
  refine go_ ?_
  rcases bc_ hg with ⟨h2, hg⟩ | ⟨h2, hg⟩
  ·refine go_ ?_
   refine ch_n fun hU => ?_
   exact ⟨true, hg, sub_ []⟩
  ·refine go_ ?_
   refine ch_n fun hU => ?_
   exact ⟨decide (16384 < b), hg, sub_ []⟩
 ·rintro x3_1 hg
  replace hg : g_ref02_modulus.j1 b x3_1 = some r := hg
  show awp _ _ _ _ (mk _ _ _)
  unfold g_ref02_modulus.j1 at hg
  refine cg_ rfl hg (fun h5 hg => ?_) fun h5 hg => ?_
  ·refine awp_seq ?_
   refine awp_region (sys _ _ []) 0 8 mk_U rfl rfl ?_
   refine go_ ?_
   refine ch_n fun hU => ?_
   refine aw_r ?_
   obtain rfl := Option.some.inj hg
   exact fin_ [] ⟨rfl, rfl⟩
  ·refine awp_seq ?_
   refine awp_region (sys _ _ []) 0 24 mk_U rfl rfl ?_
   refine go_ ?_
   refine ch_n fun hU => ?_
   refine cg_ rfl hg (fun h8 hg => ?_) fun h8 hg => ?_
   ·refine awp_seq ?_
    refine awp_region (sys _ _ []) 24 32 hU rfl rfl ?_
    refine go_ ?_
    refine ch_n fun hU => ?_
    refine aw_r ?_
    obtain rfl := Option.some.inj hg
    exact fin_ [] ⟨rfl, rfl⟩
   ·refine awp_seq ?_
    refine awp_region (sys _ _ []) 24 48 hU rfl rfl ?_
    refine go_ ?_
    refine ch_n fun hU => ?_
    refine cg_ rfl hg (fun h11 hg => ?_) fun h11 hg => ?_
    ·refine awp_seq ?_
     refine awp_region (sys _ _ []) 48 56 hU rfl rfl ?_
     refine go_ ?_
     refine ch_n fun hU => ?_
     refine aw_r ?_
     obtain rfl := Option.some.inj hg
     exact fin_ [] ⟨rfl, rfl⟩
    ·refine awp_seq ?_
     refine awp_region (sys _ _ []) 48 72 hU rfl rfl ?_
     refine go_ ?_
     refine ch_n fun hU => ?_
     refine cg_ rfl hg (fun h14 hg => ?_) fun h14 hg => ?_
     ·refine awp_seq ?_
      refine awp_region (sys _ _ []) 72 80 hU rfl rfl ?_
      refine go_ ?_
      refine ch_n fun hU => ?_
      refine aw_r ?_
      obtain rfl := Option.some.inj hg
      exact fin_ [] ⟨rfl, rfl⟩
     ·refine awp_seq ?_
      refine awp_region (sys _ _ []) 72 96 hU rfl rfl ?_
      refine go_ ?_
      refine ch_n fun hU => ?_
      refine cg_ rfl hg (fun h17 hg => ?_) fun h17 hg => ?_
      ·refine awp_seq ?_
       refine awp_region (sys _ _ []) 96 104 hU rfl rfl ?_
       refine go_ ?_
       refine ch_n fun hU => ?_
       refine aw_r ?_
       obtain rfl := Option.some.inj hg
       exact fin_ [] ⟨rfl, rfl⟩
      ·refine awp_seq ?_
       refine awp_region (sys _ _ []) 96 120 hU rfl rfl ?_
       refine go_ ?_
       refine ch_n fun hU => ?_
       refine cg_ rfl hg (fun h20 hg => ?_) fun h20 hg => ?_
       ·refine awp_seq ?_
        refine awp_region (sys _ _ []) 120 128 hU rfl rfl ?_
        refine go_ ?_
        refine ch_n fun hU => ?_
        refine aw_r ?_
        obtain rfl := Option.some.inj hg
        exact fin_ [] ⟨rfl, rfl⟩
       ·refine awp_skip ?_
        repeat first | refine st_ ?_ | refine sn_ ?_
        refine sr_ 120 128 hU ?_
        refine go_ ?_
        refine ch_n fun hU => ?_
        refine aw_r ?_
        obtain rfl := Option.some.inj hg
        exact fin_ [] ⟨rfl, rfl⟩
theorem w_ref02_among (b : Int) (sizes : (List Int)) (strengths : (List Int)) (r : Int) (hg : g_ref02_among b sizes strengths = some r) : Fn Try.prog 81 0 [.val (.int .i64 b), .sl 1 (encL eI sizes), .sl 1 (encL eI strengths)] [] (fun d' b' => d' = .val (.int .i64 r) ∧ b' = []) := by
 unfold g_ref02_among at hg
 refine Fn.of Try.func81 rfl rfl rfl fun w0 I ρ0 => ?_
 show awp _ ⟨w0, I, ρ0, 0, 0, 24⟩ _ _ _
 refine sr_ 0 8 mk_U ?_
 refine go_ ?_
 refine ch_n fun hU => ?_
 refine awp_seq ?_
 refine sr_ 8 16 hU ?_
 refine go_ ?_
 refine ch_n fun hU => ?_
 refine awp_block ?_
 refine lp_ (fun (i_1 : Int) => mk [(0, .val (.int .i64 b)), (1, .sl 1 (encL eI sizes)), (2, .sl 1 (encL eI strengths)), (7, .val (.int .i64 i_1))] [] 0) hg (sub_ []) ?_
 rintro i_1 m1 o1 hg hn1
 replace hg : g_ref02_among.l1 b sizes strengths i_1 = some o1 := hg
 show awp _ _ _ _ (mk _ _ _)
 unfold g_ref02_among.l1 at hg
 refine awp_seq ?_
 refine sr_ 0 32 mk_U ?_
 refine go_ ?_
 refine ch_n fun hU => ?_
 refine cg_ rfl hg (fun h4 hg => ?_) fun h4 hg => ?_
 ·refine awp_skip ?_
  repeat first | refine st_ ?_ | refine sn_ ?_
  refine awp_seq ?_
  refine awp_block ?_
  refine sr_ 32 80 hU ?_
  refine go_ ?_
  obtain ⟨e, he, hg⟩ := bind_some hg
  refine go_ ?_
  refine c0_ rfl rfl (r_loadE1 ty3 (enc_cell eI_len (getI_at he) (o := 0) (c := .int .i64 e) rfl rfl)) rfl rfl ?_
  refine go_ ?_
  refine ch_n fun hU => ?_
  refine cg_ rfl hg (fun h6 hg => ?_) fun h6 hg => ?_
  ·refine awp_seq ?_
   refine awp_region (sys _ _ []) 80 120 hU rfl rfl ?_
   refine go_ ?_
   obtain ⟨e_2, he_2, hg⟩ := bind_some hg
   refine go_ ?_
   refine c0_ rfl rfl (r_loadE1 ty3 (enc_cell eI_len (getI_at he_2) (o := 0) (c := .int .i64 e_2) rfl rfl)) rfl rfl ?_
   refine go_ ?_
   refine ch_n fun hU => ?_
   refine aw_r ?_
   replace hg := leave hg hn1
   obtain rfl := Option.some.inj hg
   exact fin_ [] ⟨rfl, rfl⟩
  ·refine awp_skip ?_
   repeat first | refine st_ ?_ | refine sn_ ?_
   refine awp_region (sys _ _ []) 80 104 hU rfl rfl ?_
   refine go_ ?_
   refine ch_n fun hU => ?_
   obtain rfl := Option.some.inj hg
   exact ⟨(W (i_1 + 1), m1), Nat.lt_succ_self _, hn1, sub_ []⟩
 ·refine awp_exit ?_
  repeat first | refine st_ ?_ | refine sn_ ?_
  replace hg := leave hg hn1
  refine sr_ 32 40 hU ?_
  refine go_ ?_
  refine ch_n fun hU => ?_
  refine aw_r ?_
  obtain rfl := Option.some.inj hg
  exact fin_ [] ⟨rfl, rfl⟩
theorem w_ref02_single (alg : Int) (r : Int) (hg : g_ref02_single alg = some r) : Fn Try.prog 82 0 [.val (.int .i64 alg)] [] (fun d' b' => d' = .val (.int .i64 r) ∧ b' = []) := by
 unfold g_ref02_single at hg
 refine Fn.of Try.func82 rfl rfl rfl fun w0 I ρ0 => ?_
 show awp _ ⟨w0, I, ρ0, 0, 0, 21⟩ _ _ _
 refine sr_ 0 8 mk_U ?_
 refine go_ ?_
 refine ch_n fun hU => ?_
 refine awp_seq ?_
 refine sr_ 8 16 hU ?_
 refine go_ ?_
 refine ch_n fun hU => ?_
 refine awp_block ?_
 refine sr_ 16 32 hU ?_
 refine go_ ?_
 refine ch_n fun hU => ?_
 refine cg_ rfl hg (fun h4 hg => ?_) fun h4 hg => ?_
 ·refine awp_seq ?_
  refine awp_region (sys _ _ []) 32 40 hU rfl rfl ?_
  refine go_ ?_
  refine ch_n fun hU => ?_
  refine aw_r ?_
  obtain rfl := Option.some.inj hg
  exact fin_ [] ⟨rfl, rfl⟩
 ·refine awp_seq ?_
  refine awp_region (sys _ _ []) 32 48 hU rfl rfl ?_
  refine go_ ?_
  refine ch_n fun hU => ?_
  refine cg_ rfl hg (fun h7 hg => ?_) fun h7 hg => ?_
  ·refine awp_seq ?_
   refine awp_region (sys _ _ []) 48 56 hU rfl rfl ?_
   refine go_ ?_
   refine ch_n fun hU => ?_
   refine aw_r ?_
   obtain rfl := Option.some.inj hg
   exact fin_ [] ⟨rfl, rfl⟩
  ·refine awp_cut (ι := Bool) (fun (x8_1 : Bool) => mk [(3, .val (.int .i64 alg)), (8, .val (.bool x8_1))] [] 0) (fun (x8_1 : Bool) => g_ref02_single.j1 alg x8_1 = some r) ?_ ?_
   ·refine awp_seq ?_
    refine awp_region (sys _ _ []) 48 64 hU rfl rfl ?_
    refine go_ ?_
    refine ch_n fun hU => ?_
    refine cg_ rfl hg (fun h10 hg => ?_) fun h10 hg => ?_
    ·refine awp_skip ?_
     repeat first | refine st_ ?_ | refine sn_ ?_
     exact ⟨decide (alg = 3), hg, sub_ []⟩
    ·refine awp_seq ?_
     refine awp_region (sys _ _ []) 64 80 hU rfl rfl ?_
     refine go_ ?_
     refine ch_n fun hU => ?_
     refine cg_ rfl hg (fun h12 hg => ?_) fun h12 hg => ?_
     ·refine awp_skip ?_
      repeat first | refine st_ ?_ | refine sn_ ?_
      exact ⟨decide (alg = 8), hg, sub_ []⟩
     ·refine awp_region (sys _ _ []) 80 96 hU rfl rfl ?_
      refine go_ ?_
      refine ch_n fun hU => ?_
      exact ⟨decide (alg = 21), hg, sub_ []⟩
   ·rintro x8_1 hg
    replace hg : g_ref02_single.j1 alg x8_1 = some r := hg
    show awp _ _ _ _ (mk _ _ _)
    unfold g_ref02_single.j1 at hg
    refine cg_ rfl hg (fun h14 hg => ?_) fun h14 hg => ?_
    ·refine awp_seq ?_
     refine awp_region (sys _ _ []) 0 8 mk_U rfl rfl ?_
     refine go_ ?_
     refine ch_n fun hU => ?_
     refine aw_r ?_
     obtain rfl := Option.some.inj hg
     exact fin_ [] ⟨rfl, rfl⟩
    ·refine awp_seq ?_
     refine awp_region (sys _ _ []) 0 16 mk_U rfl rfl ?_
     refine go_ ?_
     refine ch_n fun hU => ?_
     refine cg_ rfl hg (fun h17 hg => ?_) fun h17 hg => ?_
     ·refine awp_seq ?_
      refine awp_region (sys _ _ []) 16 24 hU rfl rfl ?_
      refine go_ ?_
      refine ch_n fun hU => ?_
      refine aw_r ?_
      obtain rfl := Option.some.inj hg
      exact fin_ [] ⟨rfl, rfl⟩
     ·refine awp_cut (ι := Bool) (fun (x14_2 : Bool) => mk [(3, .val (.int .i64 alg)), (14, .val (.bool x14_2))] [] 0) (fun (x14_2 : Bool) => g_ref02_single.j2 alg x14_2 = some r) ?_ ?_
      ·refine awp_seq ?_
       refine awp_region (sys _ _ []) 16 32 hU rfl rfl ?_
       refine go_ ?_
       refine ch_n fun hU => ?_
       refine cg_ rfl hg (fun h20 hg => ?_) fun h20 hg => ?_
       ·refine awp_skip ?_
        repeat first | refine st_ ?_ | refine sn_ ?_
        exact ⟨decide (alg = 18), hg, sub_ []⟩
       ·refine awp_region (sys _ _ []) 32 48 hU rfl rfl ?_
        refine go_ ?_
        refine ch_n fun hU => ?_
        exact ⟨decide (alg = 22), hg, sub_ []⟩
      ·rintro x14_2 hg
       replace hg : g_ref02_single.j2 alg x14_2 = some r := hg
       show awp _ _ _ _ (mk _ _ _)
       unfold g_ref02_single.j2 at hg
       refine cg_ rfl hg (fun h22 hg => ?_) fun h22 hg => ?_
       ·refine awp_seq ?_
        refine awp_region (sys _ _ []) 0 8 mk_U rfl rfl ?_
        refine go_ ?_
        refine ch_n fun hU => ?_
        refine aw_r ?_
        obtain rfl := Option.some.inj hg
        exact fin_ [] ⟨rfl, rfl⟩
       ·refine awp_seq ?_
        refine awp_region (sys _ _ []) 0 16 mk_U rfl rfl ?_
        refine go_ ?_
        refine ch_n fun hU => ?_
        refine cg_ rfl hg (fun h25 hg => ?_) fun h25 hg => ?_
        ·refine awp_seq ?_
         refine awp_region (sys _ _ []) 16 24 hU rfl rfl ?_
         refine go_ ?_
         refine ch_n fun hU => ?_
         refine aw_r ?_
         obtain rfl := Option.some.inj hg
         exact fin_ [] ⟨rfl, rfl⟩
        ·refine awp_seq ?_
         refine awp_region (sys _ _ []) 16 32 hU rfl rfl ?_
         refine go_ ?_
         refine ch_n fun hU => ?_
         refine cg_ rfl hg (fun h28 hg => ?_) fun h28 hg => ?_
         ·refine awp_seq ?_
          refine awp_region (sys _ _ []) 32 40 hU rfl rfl ?_
          refine go_ ?_
          refine ch_n fun hU => ?_
          refine aw_r ?_
          obtain rfl := Option.some.inj hg
          exact fin_ [] ⟨rfl, rfl⟩
         ·refine awp_skip ?_
          repeat first | refine st_ ?_ | refine sn_ ?_
          refine sr_ 32 40 hU ?_
          refine go_ ?_
          refine ch_n fun hU => ?_
          refine aw_r ?_
          obtain rfl := Option.some.inj hg
          exact fin_ [] ⟨rfl, rfl⟩
theorem w_ref02_Strength (u : api_Use) (r : Int) (hg : g_ref02_Strength u = some r) : Fn Try.prog 76 0 [.agg [.val (.int .i64 u.Alg), .val (.int .i64 u.Bits)]] [] (fun d' b' => d' = .val (.int .i64 r) ∧ b' = []) := by
 unfold g_ref02_Strength at hg
 refine Fn.of Try.func76 rfl rfl rfl fun w0 I ρ0 => ?_
 show awp _ ⟨w0, I, ρ0, 0, 0, 76⟩ _ _ _
 refine sr_ 0 16 mk_U ?_
 refine go_ ?_
 refine ch_n fun hU => ?_
 refine sr_ 16 40 hU ?_
 refine go_ ?_
 refine ch_n fun hU => ?_
 refine awp_seq ?_
 refine sr_ 40 56 hU ?_
 refine go_ ?_
 refine ch_n fun hU => ?_
 refine awp_block ?_
 refine awp_cut (ι := Bool) (fun (x8_1 : Bool) => mk [(1, .ptr 0 0), (3, .val (.int .i64 u.Bits)), (7, .val (.int .i64 u.Alg)), (8, .val (.bool x8_1))] [(0, .box [.val (.int .i64 u.Alg), .val (.int .i64 u.Bits)] 25)] 1) (fun (x8_1 : Bool) => g_ref02_Strength.j1 u x8_1 = some r) ?_ ?_
 ·refine awp_seq ?_
  refine awp_region (sys _ _ []) 56 72 hU rfl rfl ?_
  refine go_ ?_
  refine ch_n fun hU => ?_
  refine cg_ rfl hg (fun h5 hg => ?_) fun h5 hg => ?_
  ·refine awp_skip ?_
   repeat first | refine st_ ?_ | refine sn_ ?_
   exact ⟨decide (u.Alg = 5), hg, sub_ [(0, 0)]⟩
  ·refine awp_seq ?_
   refine awp_region (sys _ _ []) 72 88 hU rfl rfl ?_
   refine go_ ?_
   refine ch_n fun hU => ?_
   refine cg_ rfl hg (fun h7 hg => ?_) fun h7 hg => ?_
   ·refine awp_skip ?_
    repeat first | refine st_ ?_ | refine sn_ ?_
    exact ⟨decide (u.Alg = 6), hg, sub_ [(0, 0)]⟩
   ·refine awp_seq ?_
    refine awp_region (sys _ _ []) 88 104 hU rfl rfl ?_
    refine go_ ?_
    refine ch_n fun hU => ?_
    refine cg_ rfl hg (fun h9 hg => ?_) fun h9 hg => ?_
    ·refine awp_skip ?_
     repeat first | refine st_ ?_ | refine sn_ ?_
     exact ⟨decide (u.Alg = 10), hg, sub_ [(0, 0)]⟩
    ·refine awp_region (sys _ _ []) 104 120 hU rfl rfl ?_
     refine go_ ?_
     refine ch_n fun hU => ?_
     exact ⟨decide (u.Alg = 11), hg, sub_ [(0, 0)]⟩
 ·rintro x8_1 hg
  replace hg : g_ref02_Strength.j1 u x8_1 = some r := hg
  show awp _ _ _ _ (mk _ _ _)
  unfold g_ref02_Strength.j1 at hg
  refine cg_ rfl hg (fun h11 hg => ?_) fun h11 hg => ?_
  ·refine awp_seq ?_
   refine awp_region (sys _ _ []) 1 25 mk_U rfl rfl ?_
   refine go_ ?_
   obtain ⟨y, hy, hg⟩ := bind_some hg
   refine ca_ (w_ref02_modulus _ _ hy) ?_
   refine go_ ?_
   refine ch_n fun hU => ?_
   refine aw_r ?_
   obtain rfl := Option.some.inj hg
   exact fin_ [] ⟨rfl, rfl⟩
  ·refine awp_cut (ι := Bool) (fun (x15_2 : Bool) => mk [(1, .ptr 0 0), (3, .val (.int .i64 u.Bits)), (7, .val (.int .i64 u.Alg)), (15, .val (.bool x15_2))] [(0, .box [.val (.int .i64 u.Alg), .val (.int .i64 u.Bits)] 25)] 1) (fun (x15_2 : Bool) => g_ref02_Strength.j2 u x15_2 = some r) ?_ ?_
   ·refine awp_seq ?_
    refine awp_region (sys _ _ []) 1 17 mk_U rfl rfl ?_
    refine go_ ?_
    refine ch_n fun hU => ?_
    refine cg_ rfl hg (fun h14 hg => ?_) fun h14 hg => ?_
    ·refine awp_skip ?_
     repeat first | refine st_ ?_ | refine sn_ ?_
     exact ⟨decide (u.Alg = 7), hg, sub_ [(0, 0)]⟩
    ·refine awp_region (sys _ _ []) 17 33 hU rfl rfl ?_
     refine go_ ?_
     refine ch_n fun hU => ?_
     exact ⟨decide (u.Alg = 12), hg, sub_ [(0, 0)]⟩
   ·rintro x15_2 hg
    replace hg : g_ref02_Strength.j2 u x15_2 = some r := hg
    show awp _ _ _ _ (mk _ _ _)
    unfold g_ref02_Strength.j2 at hg
    refine cg_ rfl hg (fun h16 hg => ?_) fun h16 hg => ?_
    ·refine awp_seq ?_
     refine awp_cut (ι := Bool) (fun (x35_3 : Bool) => mk [(3, .val (.int .i64 u.Bits)), (35, .val (.bool x35_3))] [] 0) (fun (x35_3 : Bool) => g_ref02_Strength.j3 u x35_3 = some r) ?_ ?_
     ·refine awp_region (sys _ _ []) 1 145 mk_U rfl rfl ?_
      refine go_ ?_
      rcases bc_ hg with ⟨h17, hg⟩ | ⟨h17, hg⟩
      ·refine go_ ?_
       refine ch_n fun hU => ?_
       exact ⟨true, hg, sub_ []⟩
      ·refine go_ ?_
       rcases bc_ hg with ⟨h19, hg⟩ | ⟨h19, hg⟩
       ·refine go_ ?_
        refine ch_n fun hU => ?_
        exact ⟨true, hg, sub_ []⟩
       ·refine go_ ?_
        rcases bc_ hg with ⟨h21, hg⟩ | ⟨h21, hg⟩
        ·refine go_ ?_
         refine ch_n fun hU => ?_
         exact ⟨true, hg, sub_ []⟩
        ·refine go_ ?_
         rcases bc_ hg with ⟨h23, hg⟩ | ⟨h23, hg⟩
         ·refine go_ ?_
          refine ch_n fun hU => ?_
          exact ⟨true, hg, sub_ []⟩
         ·refine go_ ?_
          refine ch_n fun hU => ?_
          exact ⟨decide (u.Bits = 521), hg, sub_ []⟩
     ·rintro x35_3 hg
      replace hg : g_ref02_Strength.j3 u x35_3 = some r := hg
      show awp _ _ _ _ (mk _ _ _)
      unfold g_ref02_Strength.j3 at hg
      refine cg_ rfl hg (fun h26 hg => ?_) fun h26 hg => ?_
      ·refine awp_seq ?_
       refine awp_region (sys _ _ []) 0 24 mk_U rfl rfl ?_
       refine go_ ?_
       obtain ⟨q, hq, hg⟩ := bind_some hg
       refine c0_ rfl rfl (r_quo hq) rfl rfl ?_
       refine go_ ?_
       refine ch_n fun hU => ?_
       refine aw_r ?_
       obtain rfl := Option.some.inj hg
       exact fin_ [] ⟨rfl, rfl⟩
      ·refine awp_skip ?_
       repeat first | refine st_ ?_ | refine sn_ ?_
       refine sr_ 0 8 mk_U ?_
       refine go_ ?_
       refine ch_n fun hU => ?_
       refine aw_r ?_
       obtain rfl := Option.some.inj hg
       exact fin_ [] ⟨rfl, rfl⟩
    ·refine awp_seq ?_
     refine awp_region (sys _ _ []) 1 17 mk_U rfl rfl ?_
     refine go_ ?_
     refine ch_n fun hU => ?_
     refine cg_ rfl hg (fun h30 hg => ?_) fun h30 hg => ?_
     ·refine awp_seq ?_
      refine awp_region (sys _ _ []) 17 57 hU rfl rfl ?_
      refine go_ ?_
      refine c0_ rfl rfl (r_buildFull sl34 z3 (by decide) rfl rfl rfl rfl ck3 (cs := [.int .i64 44, .int .i64 65, .int .i64 87]) (.cons .int (.cons .int (.cons .int .nil))) rfl (l := ([44, 65, 87] : List Int)) (f := eI) rfl) rfl rfl ?_
      refine c0_ rfl rfl (r_buildFull sl34 z3 (by decide) rfl rfl rfl rfl ck3 (cs := [.int .i64 128, .int .i64 192, .int .i64 256]) (.cons .int (.cons .int (.cons .int .nil))) rfl (l := ([128, 192, 256] : List Int)) (f := eI) rfl) rfl rfl ?_
      obtain ⟨y_2, hy_2, hg⟩ := bind_some hg
      refine cb_ [25, 33] [] [] true (w_ref02_among _ _ _ _ hy_2) ?_
      refine go_ ?_
      refine ch_n fun hU => ?_
      refine aw_r ?_
      obtain rfl := Option.some.inj hg
      exact fin_ [] ⟨rfl, rfl⟩
     ·refine awp_seq ?_
      refine awp_region (sys _ _ []) 17 33 hU rfl rfl ?_
      refine go_ ?_
      refine ch_n fun hU => ?_
      refine cg_ rfl hg (fun h33 hg => ?_) fun h33 hg => ?_
      ·refine awp_seq ?_
       refine awp_region (sys _ _ []) 33 73 hU rfl rfl ?_
       refine go_ ?_
       refine c0_ rfl rfl (r_buildFull sl34 z3 (by decide) rfl rfl rfl rfl ck3 (cs := [.int .i64 512, .int .i64 768, .int .i64 1024]) (.cons .int (.cons .int (.cons .int .nil))) rfl (l := ([512, 768, 1024] : List Int)) (f := eI) rfl) rfl rfl ?_
       refine c0_ rfl rfl (r_buildFull sl34 z3 (by decide) rfl rfl rfl rfl ck3 (cs := [.int .i64 128, .int .i64 192, .int .i64 256]) (.cons .int (.cons .int (.cons .int .nil))) rfl (l := ([128, 192, 256] : List Int)) (f := eI) rfl) rfl rfl ?_
       obtain ⟨y_3, hy_3, hg⟩ := bind_some hg
       refine cb_ [41, 49] [] [] true (w_ref02_among _ _ _ _ hy_3) ?_
       refine go_ ?_
       refine ch_n fun hU => ?_
       refine aw_r ?_
       obtain rfl := Option.some.inj hg
       exact fin_ [] ⟨rfl, rfl⟩
      ·refine awp_seq ?_
       refine awp_region (sys _ _ []) 33 49 hU rfl rfl ?_
       refine go_ ?_
       refine ch_n fun hU => ?_
       refine cg_ rfl hg (fun h36 hg => ?_) fun h36 hg => ?_
       ·refine awp_seq ?_
        refine awp_region (sys _ _ []) 49 89 hU rfl rfl ?_
        refine go_ ?_
        refine c0_ rfl rfl (r_buildFull sl34 z3 (by decide) rfl rfl rfl rfl ck3 (cs := [.int .i64 40, .int .i64 128]) (.cons .int (.cons .int .nil)) rfl (l := ([40, 128] : List Int)) (f := eI) rfl) rfl rfl ?_
        refine c0_ rfl rfl (r_buildFull sl34 z3 (by decide) rfl rfl rfl rfl ck3 (cs := [.int .i64 40, .int .i64 60]) (.cons .int (.cons .int .nil)) rfl (l := ([40, 60] : List Int)) (f := eI) rfl) rfl rfl ?_
        obtain ⟨y_4, hy_4, hg⟩ := bind_some hg
        refine cb_ [57, 65] [] [] true (w_ref02_among _ _ _ _ hy_4) ?_
        refine go_ ?_
        refine ch_n fun hU => ?_
        refine aw_r ?_
        obtain rfl := Option.some.inj hg
        exact fin_ [] ⟨rfl, rfl⟩
       ·refine awp_seq ?_
        refine awp_region (sys _ _ []) 49 65 hU rfl rfl ?_
        refine go_ ?_
        refine ch_n fun hU => ?_
        refine cg_ rfl hg (fun h39 hg => ?_) fun h39 hg => ?_
        ·refine awp_seq ?_
         refine awp_region (sys _ _ []) 65 105 hU rfl rfl ?_
         refine go_ ?_
         refine c0_ rfl rfl (r_buildFull sl34 z3 (by decide) rfl rfl rfl rfl ck3 (cs := [.int .i64 112, .int .i64 168]) (.cons .int (.cons .int .nil)) rfl (l := ([112, 168] : List Int)) (f := eI) rfl) rfl rfl ?_
         refine c0_ rfl rfl (r_buildFull sl34 z3 (by decide) rfl rfl rfl rfl ck3 (cs := [.int .i64 80, .int .i64 112]) (.cons .int (.cons .int .nil)) rfl (l := ([80, 112] : List Int)) (f := eI) rfl) rfl rfl ?_
         obtain ⟨y_5, hy_5, hg⟩ := bind_some hg
         refine cb_ [73, 81] [] [] true (w_ref02_among _ _ _ _ hy_5) ?_
         refine go_ ?_
         refine ch_n fun hU => ?_
         refine aw_r ?_
         obtain rfl := Option.some.inj hg
         exact fin_ [] ⟨rfl, rfl⟩
        ·refine awp_cut (ι := Bool) (fun (x62_4 : Bool) => mk [(1, .ptr 0 0), (3, .val (.int .i64 u.Bits)), (62, .val (.bool x62_4))] [(0, .box [.val (.int .i64 u.Alg), .val (.int .i64 u.Bits)] 25)] 1) (fun (x62_4 : Bool) => g_ref02_Strength.j4 u x62_4 = some r) ?_ ?_
         ·refine awp_seq ?_
          refine awp_region (sys _ _ []) 65 81 hU rfl rfl ?_
          refine go_ ?_
          refine ch_n fun hU => ?_
          refine cg_ rfl hg (fun h42 hg => ?_) fun h42 hg => ?_
          ·refine awp_skip ?_
           repeat first | refine st_ ?_ | refine sn_ ?_
           exact ⟨decide (u.Alg = 16), hg, sub_ [(0, 0)]⟩
          ·refine awp_region (sys _ _ []) 81 97 hU rfl rfl ?_
           refine go_ ?_
           refine ch_n fun hU => ?_
           exact ⟨decide (u.Alg = 17), hg, sub_ [(0, 0)]⟩
         ·rintro x62_4 hg
          replace hg : g_ref02_Strength.j4 u x62_4 = some r := hg
          show awp _ _ _ _ (mk _ _ _)
          unfold g_ref02_Strength.j4 at hg
          refine cg_ rfl hg (fun h44 hg => ?_) fun h44 hg => ?_
          ·refine awp_seq ?_
           refine awp_region (sys _ _ []) 1 41 mk_U rfl rfl ?_
           refine go_ ?_
           refine c0_ rfl rfl (r_buildFull sl34 z3 (by decide) rfl rfl rfl rfl ck3 (cs := [.int .i64 128, .int .i64 256]) (.cons .int (.cons .int .nil)) rfl (l := ([128, 256] : List Int)) (f := eI) rfl) rfl rfl ?_
           refine c0_ rfl rfl (r_buildFull sl34 z3 (by decide) rfl rfl rfl rfl ck3 (cs := [.int .i64 128, .int .i64 256]) (.cons .int (.cons .int .nil)) rfl (l := ([128, 256] : List Int)) (f := eI) rfl) rfl rfl ?_
           obtain ⟨y_6, hy_6, hg⟩ := bind_some hg
           refine cb_ [9, 17] [] [] true (w_ref02_among _ _ _ _ hy_6) ?_
           refine go_ ?_
           refine ch_n fun hU => ?_
           refine aw_r ?_
           obtain rfl := Option.some.inj hg
           exact fin_ [] ⟨rfl, rfl⟩
          ·refine awp_skip ?_
           repeat first | refine st_ ?_ | refine sn_ ?_
           refine sr_ 1 65 mk_U ?_
           refine go_ ?_
           refine c0_ rfl rfl (r_buildFull sl34 z3 (by decide) rfl rfl rfl rfl ck3 (cs := [.int .i64 0]) (.cons .int .nil) rfl (l := ([0] : List Int)) (f := eI) rfl) rfl rfl ?_
           refine go_ ?_
           obtain ⟨y_7, hy_7, hg⟩ := bind_some hg
           refine ca_ (w_ref02_single _ _ hy_7) ?_
           refine c0_ rfl rfl (r_buildFull sl34 z3 (by decide) rfl rfl rfl rfl ck3 (cs := [.int .i64 y_7]) (.cons .int .nil) rfl (l := ([y_7] : List Int)) (f := eI) rfl) rfl rfl ?_
           obtain ⟨y_8, hy_8, hg⟩ := bind_some hg
           refine cb_ [9, 41] [] [] true (w_ref02_among _ _ _ _ hy_8) ?_
           refine go_ ?_
           refine ch_n fun hU => ?_
           refine aw_r ?_
           obtain rfl := Option.some.inj hg
           exact fin_ [] ⟨rfl, rfl⟩
end Go.Proofs.Ytbeageaekgccgaa
