/- The program computes the plain functions. -/
import Derived.Test.YtfkgbfhpibiheaaT1
import Derived.Test.YtfkgbfhpibiheaaA1
import Derived.Test.YtfkgbfhpibiheaaA2
set_option linter.unusedVariables false
set_option linter.unusedSimpArgs false
set_option maxRecDepth 100000
set_option maxHeartbeats 1600000
namespace Go.Proofs.Ytfkgbfhpibiheaa
open Go.RowKit
theorem w_slices_partitionEqualCmpFunc_api_Hit_clo_34_0_ (data : List api_Hit) (a : Int) (b : Int) (pivot : Int) (cmp : api_Hit → api_Hit → Option (Int)) (hf_cmp : ∀ (x0 : api_Hit) (x1 : api_Hit) (y : Int), cmp x0 x1 = some y → Fn Try.prog 34 0 [.agg [.val (.int .i64 x0.Pattern), .val (.int .i64 x0.At)], .agg [.val (.int .i64 x1.Pattern), .val (.int .i64 x1.At)]] [] (fun d' b' => d' = .val (.int .i64 y) ∧ b' = [])) (r : Int × (List api_Hit)) (hg : g_slices_partitionEqualCmpFunc_api_Hit data a b pivot cmp = some r) : Fn Try.prog 69 1 [.row 0, .val (.int .i64 a), .val (.int .i64 b), .val (.int .i64 pivot), .clo 34 0 []] [.row 47 2 (encL api_Hit.enc data)] (fun d' b' => d' = .val (.int .i64 r.1) ∧ b' = [.row 47 2 (encL api_Hit.enc r.2)]) := by
 unfold g_slices_partitionEqualCmpFunc_api_Hit at hg
 refine Fn.of Try.func69 rfl rfl rfl fun w0 I ρ0 => ?_
 show awp _ ⟨w0, I, ρ0, 1, 1, 90⟩ _ _ _
 refine sr_ 1 9 mk_U ?_
 refine go_ ?_
 refine ch_n fun hU => ?_
 refine awp_seq ?_
 refine awp_draw (sys _ _ []) (by kernel_rfl) [0, 0, 0, 0, 0, 0, 48, 112, 0, 0, 768, 1792, 4083, 8179, 16383, 32767] 9 137 hU rfl rfl (by kernel_rfl) ?_
 refine go_ ?_
 obtain ⟨e, he, hg⟩ := bind_some hg
 refine go_ ?_
 refine ch_s (rd := [0]) rfl rfl (r_loadRA ty47 (enc_cells api_Hit.enc_len (getI_at he) (o := 0) (m := 2) (cs := [.int .i64 e.Pattern, .int .i64 e.At]) rfl (by decide) rfl) (enc_cells_le api_Hit.enc_len (getI_at he) (o := 0) (m := 2) (by decide) rfl)) rfl rfl ?_
 refine go_ ?_
 obtain ⟨e_2, he_2, hg⟩ := bind_some hg
 refine go_ ?_
 refine ch_s (rd := [0]) rfl rfl (r_loadRA ty47 (enc_cells api_Hit.enc_len (getI_at he_2) (o := 0) (m := 2) (cs := [.int .i64 e_2.Pattern, .int .i64 e_2.At]) rfl (by decide) rfl) (enc_cells_le api_Hit.enc_len (getI_at he_2) (o := 0) (m := 2) (by decide) rfl)) rfl rfl ?_
 refine go_ ?_
 refine ch_s (rd := [0]) rfl rfl (r_storeR ty47 rfl (enc_cells_le api_Hit.enc_len (getI_at he_2) (o := 0) (m := 2) (by decide) rfl) ck47 (cs' := [.int .i64 e.Pattern, .int .i64 e.At]) (.cons .int (.cons .int .nil)) (enc_splice api_Hit.enc_len (getI_at he_2) (o := 0) (x' := e) (Nat.le_of_ble_eq_true rfl) rfl rfl)) rfl rfl ?_
 obtain ⟨e_3, he_3, hg⟩ := bind_some hg
 refine go_ ?_
 refine ch_s (rd := [0]) rfl rfl (r_storeR ty47 rfl (enc_cells_le api_Hit.enc_len (getI_at he_3) (o := 0) (m := 2) (by decide) rfl) ck47 (cs' := [.int .i64 e_2.Pattern, .int .i64 e_2.At]) (.cons .int (.cons .int .nil)) (enc_splice api_Hit.enc_len (getI_at he_3) (o := 0) (x' := e_2) (Nat.le_of_ble_eq_true rfl) rfl rfl)) rfl rfl ?_
 refine ch_n fun hU => ?_
 refine sr_ 137 185 hU ?_
 refine go_ ?_
 refine ch_n fun hU => ?_
 refine awp_seq ?_
 refine awp_block ?_
 refine lp_ (fun ((i_1, j_1, data_1) : Int × Int × List api_Hit) => mk [(0, .row 0), (1, .val (.int .i64 a)), (4, .clo 34 0 []), (11, .val (.int .i64 i_1)), (12, .val (.int .i64 j_1))] [(0, .row 47 2 (encL api_Hit.enc data_1))] 1) hg (sub_ [(0, 0)]) ?_
 rintro ⟨i_1, j_1, data_1⟩ m1 o1 hg hn1
 replace hg : g_slices_partitionEqualCmpFunc_api_Hit.l1 a cmp i_1 j_1 data_1 = some o1 := hg
 show awp _ _ _ _ (mk _ _ _)
 unfold g_slices_partitionEqualCmpFunc_api_Hit.l1 at hg
 refine awp_block ?_
 refine awp_seq ?_
 refine awp_block ?_
 refine lp_ (fun (i_2 : Int) => mk [(0, .row 0), (1, .val (.int .i64 a)), (4, .clo 34 0 []), (11, .val (.int .i64 i_2)), (12, .val (.int .i64 j_1))] [(0, .row 47 2 (encL api_Hit.enc data_1))] 1) hg (sub_ [(0, 0)]) ?_
 rintro i_2 m2 o2 hg hn2
 replace hg : g_slices_partitionEqualCmpFunc_api_Hit.l2 a cmp j_1 data_1 i_2 = some o2 := hg
 show awp _ _ _ _ (mk _ _ _)
 unfold g_slices_partitionEqualCmpFunc_api_Hit.l2 at hg
 refine awp_seq ?_
 refine awp_cut (ι := Bool) (fun (x47_3 : Bool) => mk [(0, .row 0), (1, .val (.int .i64 a)), (4, .clo 34 0 []), (11, .val (.int .i64 i_2)), (12, .val (.int .i64 j_1)), (47, .val (.bool x47_3))] [(0, .row 47 2 (encL api_Hit.enc data_1))] 1) (fun (x47_3 : Bool) => g_slices_partitionEqualCmpFunc_api_Hit.j3 a cmp j_1 data_1 i_2 x47_3 = some o2) ?_ ?_
 ·refine awp_draw (sys _ _ []) (by kernel_rfl) [0, 0, 3, 7, 15, 15, 15, 111, 239, 15, 15, 1551, 3599, 8191, 16383, 32767, 65535] 1 137 mk_U rfl rfl (by kernel_rfl) ?_
  refine go_ ?_
  rcases bc_ hg with ⟨h4, hg⟩ | ⟨h4, hg⟩
  ·refine go_ ?_
   obtain ⟨e_4, he_4, hg⟩ := bind_some hg
   refine go_ ?_
   refine ch_s (rd := [0]) (gdv_t rfl rfl h4) rfl (r_loadRA ty47 (enc_cells api_Hit.enc_len (getI_at he_4) (o := 0) (m := 2) (cs := [.int .i64 e_4.Pattern, .int .i64 e_4.At]) rfl (by decide) rfl) (enc_cells_le api_Hit.enc_len (getI_at he_4) (o := 0) (m := 2) (by decide) rfl)) rfl rfl ?_
   refine go_ ?_
   obtain ⟨e_5, he_5, hg⟩ := bind_some hg
   refine go_ ?_
   refine ch_s (rd := [0]) (gdv_t rfl rfl h4) rfl (r_loadRA ty47 (enc_cells api_Hit.enc_len (getI_at he_5) (o := 0) (m := 2) (cs := [.int .i64 e_5.Pattern, .int .i64 e_5.At]) rfl (by decide) rfl) (enc_cells_le api_Hit.enc_len (getI_at he_5) (o := 0) (m := 2) (by decide) rfl)) rfl rfl ?_
   obtain ⟨y, hy, hg⟩ := bind_some hg
   refine ch_callCP (rd := []) (ps := []) (gs := []) false (gdv_t rfl rfl h4) rfl (hf_cmp e_4 e_5 _ hy) rfl rfl (.cons (.agg (.cons .val (.cons .val .nil))) (.cons (.agg (.cons .val (.cons .val .nil))) .nil)) rfl rfl (by intro h; cases h) rfl rfl rfl rfl ?_
   refine go_ ?_
   refine ch_n fun hU => ?_
   exact ⟨!(decide (y < 0)), hg, sub_ [(0, 0)]⟩
  ·refine go_ ?_
   refine ch_n fun hU => ?_
   exact ⟨false, hg, sub_ [(0, 0)]⟩
 ·rintro x47_3 hg
  replace hg : g_slices_partitionEqualCmpFunc_api_Hit.j3 a cmp j_1 data_1 i_2 x47_3 = some o2 := hg
  show awp _ _ _ _ (mk _ _ _)
  unfold g_slices_partitionEqualCmpFunc_api_Hit.j3 at hg
  refine cg_ rfl hg (fun h7 hg => ?_) fun h7 hg => ?_
  ·refine awp_skip ?_
   repeat first | refine st_ ?_ | refine sn_ ?_
   refine awp_block ?_
   refine awp_region (sys _ _ []) 1 25 mk_U rfl rfl ?_
   refine go_ ?_
   refine ch_n fun hU => ?_
   obtain rfl := Option.some.inj hg
   exact ⟨(W (i_2 + 1), m2), Nat.lt_succ_self _, hn2, sub_ [(0, 0)]⟩
  ·refine awp_exit ?_
   repeat first | refine st_ ?_ | refine sn_ ?_
   replace hg := leave hg hn2
   refine awp_seq ?_
   refine awp_block ?_
   refine lp_ (fun (j_4 : Int) => mk [(0, .row 0), (1, .val (.int .i64 a)), (4, .clo 34 0 []), (11, .val (.int .i64 i_2)), (12, .val (.int .i64 j_4))] [(0, .row 47 2 (encL api_Hit.enc data_1))] 1) hg (sub_ [(0, 0)]) ?_
   rintro j_4 m4 o4 hg hn4
   replace hg : g_slices_partitionEqualCmpFunc_api_Hit.l4 a cmp data_1 i_2 j_4 = some o4 := hg
   show awp _ _ _ _ (mk _ _ _)
   unfold g_slices_partitionEqualCmpFunc_api_Hit.l4 at hg
   refine awp_seq ?_
   refine awp_cut (ι := Bool) (fun (x65_5 : Bool) => mk [(0, .row 0), (1, .val (.int .i64 a)), (4, .clo 34 0 []), (11, .val (.int .i64 i_2)), (12, .val (.int .i64 j_4)), (65, .val (.bool x65_5))] [(0, .row 47 2 (encL api_Hit.enc data_1))] 1) (fun (x65_5 : Bool) => g_slices_partitionEqualCmpFunc_api_Hit.j5 data_1 i_2 j_4 x65_5 = some o4) ?_ ?_
   ·refine awp_draw (sys _ _ []) (by kernel_rfl) [0, 0, 3, 7, 15, 15, 15, 111, 239, 15, 15, 1551, 3599, 8191, 16383, 32767] 1 129 mk_U rfl rfl (by kernel_rfl) ?_
    refine go_ ?_
    rcases bc_ hg with ⟨h9, hg⟩ | ⟨h9, hg⟩
    ·refine go_ ?_
     obtain ⟨e_6, he_6, hg⟩ := bind_some hg
     refine go_ ?_
     refine ch_s (rd := [0]) (gdv_t rfl rfl h9) rfl (r_loadRA ty47 (enc_cells api_Hit.enc_len (getI_at he_6) (o := 0) (m := 2) (cs := [.int .i64 e_6.Pattern, .int .i64 e_6.At]) rfl (by decide) rfl) (enc_cells_le api_Hit.enc_len (getI_at he_6) (o := 0) (m := 2) (by decide) rfl)) rfl rfl ?_
     refine go_ ?_
     obtain ⟨e_7, he_7, hg⟩ := bind_some hg
     refine go_ ?_
     refine ch_s (rd := [0]) (gdv_t rfl rfl h9) rfl (r_loadRA ty47 (enc_cells api_Hit.enc_len (getI_at he_7) (o := 0) (m := 2) (cs := [.int .i64 e_7.Pattern, .int .i64 e_7.At]) rfl (by decide) rfl) (enc_cells_le api_Hit.enc_len (getI_at he_7) (o := 0) (m := 2) (by decide) rfl)) rfl rfl ?_
     obtain ⟨y_2, hy_2, hg⟩ := bind_some hg
     refine ch_callCP (rd := []) (ps := []) (gs := []) false (gdv_t rfl rfl h9) rfl (hf_cmp e_6 e_7 _ hy_2) rfl rfl (.cons (.agg (.cons .val (.cons .val .nil))) (.cons (.agg (.cons .val (.cons .val .nil))) .nil)) rfl rfl (by intro h; cases h) rfl rfl rfl rfl ?_
     refine go_ ?_
     refine ch_n fun hU => ?_
     exact ⟨decide (y_2 < 0), hg, sub_ [(0, 0)]⟩
    ·refine go_ ?_
     refine ch_n fun hU => ?_
     exact ⟨false, hg, sub_ [(0, 0)]⟩
   ·rintro x65_5 hg
    replace hg : g_slices_partitionEqualCmpFunc_api_Hit.j5 data_1 i_2 j_4 x65_5 = some o4 := hg
    show awp _ _ _ _ (mk _ _ _)
    unfold g_slices_partitionEqualCmpFunc_api_Hit.j5 at hg
    refine cg_ rfl hg (fun h12 hg => ?_) fun h12 hg => ?_
    ·refine awp_skip ?_
     repeat first | refine st_ ?_ | refine sn_ ?_
     refine awp_block ?_
     refine awp_region (sys _ _ []) 1 25 mk_U rfl rfl ?_
     refine go_ ?_
     refine ch_n fun hU => ?_
     obtain rfl := Option.some.inj hg
     exact ⟨(W (j_4 - 1), m4), Nat.lt_succ_self _, hn4, sub_ [(0, 0)]⟩
    ·refine awp_exit ?_
     repeat first | refine st_ ?_ | refine sn_ ?_
     replace hg := leave hg hn4
     refine awp_seq ?_
     refine sr_ 1 25 mk_U ?_
     refine go_ ?_
     refine ch_n fun hU => ?_
     refine cg_ rfl hg (fun h15 hg => ?_) fun h15 hg => ?_
     ·refine awp_exit ?_
      repeat first | refine st_ ?_ | refine sn_ ?_
      replace hg := leave hg hn1
      refine sr_ 25 41 hU ?_
      refine go_ ?_
      refine ch_n fun hU => ?_
      refine aw_r ?_
      obtain rfl := Option.some.inj hg
      exact fin_ [(0, 0)] ⟨rfl, rfl⟩
     ·refine awp_skip ?_
      repeat first | refine st_ ?_ | refine sn_ ?_
      refine awp_seq ?_
      refine awp_draw (sys _ _ []) (by kernel_rfl) [0, 0, 0, 0, 0, 0, 48, 112, 0, 0, 768, 1792, 4083, 8179, 16383, 32767] 25 153 hU rfl rfl (by kernel_rfl) ?_
      refine go_ ?_
      obtain ⟨e_8, he_8, hg⟩ := bind_some hg
      refine go_ ?_
      refine ch_s (rd := [0]) rfl rfl (r_loadRA ty47 (enc_cells api_Hit.enc_len (getI_at he_8) (o := 0) (m := 2) (cs := [.int .i64 e_8.Pattern, .int .i64 e_8.At]) rfl (by decide) rfl) (enc_cells_le api_Hit.enc_len (getI_at he_8) (o := 0) (m := 2) (by decide) rfl)) rfl rfl ?_
      refine go_ ?_
      obtain ⟨e_9, he_9, hg⟩ := bind_some hg
      refine go_ ?_
      refine ch_s (rd := [0]) rfl rfl (r_loadRA ty47 (enc_cells api_Hit.enc_len (getI_at he_9) (o := 0) (m := 2) (cs := [.int .i64 e_9.Pattern, .int .i64 e_9.At]) rfl (by decide) rfl) (enc_cells_le api_Hit.enc_len (getI_at he_9) (o := 0) (m := 2) (by decide) rfl)) rfl rfl ?_
      refine go_ ?_
      refine ch_s (rd := [0]) rfl rfl (r_storeR ty47 rfl (enc_cells_le api_Hit.enc_len (getI_at he_9) (o := 0) (m := 2) (by decide) rfl) ck47 (cs' := [.int .i64 e_8.Pattern, .int .i64 e_8.At]) (.cons .int (.cons .int .nil)) (enc_splice api_Hit.enc_len (getI_at he_9) (o := 0) (x' := e_8) (Nat.le_of_ble_eq_true rfl) rfl rfl)) rfl rfl ?_
      obtain ⟨e_10, he_10, hg⟩ := bind_some hg
      refine go_ ?_
      refine ch_s (rd := [0]) rfl rfl (r_storeR ty47 rfl (enc_cells_le api_Hit.enc_len (getI_at he_10) (o := 0) (m := 2) (by decide) rfl) ck47 (cs' := [.int .i64 e_9.Pattern, .int .i64 e_9.At]) (.cons .int (.cons .int .nil)) (enc_splice api_Hit.enc_len (getI_at he_10) (o := 0) (x' := e_9) (Nat.le_of_ble_eq_true rfl) rfl rfl)) rfl rfl ?_
      refine ch_n fun hU => ?_
      refine sr_ 153 177 hU ?_
      refine go_ ?_
      refine ch_n fun hU => ?_
      refine awp_region (sys _ _ []) 177 201 hU rfl rfl ?_
      refine go_ ?_
      refine ch_n fun hU => ?_
      obtain rfl := Option.some.inj hg
      exact ⟨((W (i_2 + 1), W (j_4 - 1), setI (setI data_1 ((i_2).toNat) e_8) ((j_4).toNat) e_9), m1), Nat.lt_succ_self _, hn1, sub_ [(0, 0)]⟩
theorem w_slices_partitionCmpFunc_api_Hit_clo_34_0_ (data : List api_Hit) (a : Int) (b : Int) (pivot : Int) (cmp : api_Hit → api_Hit → Option (Int)) (hf_cmp : ∀ (x0 : api_Hit) (x1 : api_Hit) (y : Int), cmp x0 x1 = some y → Fn Try.prog 34 0 [.agg [.val (.int .i64 x0.Pattern), .val (.int .i64 x0.At)], .agg [.val (.int .i64 x1.Pattern), .val (.int .i64 x1.At)]] [] (fun d' b' => d' = .val (.int .i64 y) ∧ b' = [])) (r : Int × Bool × (List api_Hit)) (hg : g_slices_partitionCmpFunc_api_Hit data a b pivot cmp = some r) : Fn Try.prog 70 1 [.row 0, .val (.int .i64 a), .val (.int .i64 b), .val (.int .i64 pivot), .clo 34 0 []] [.row 47 2 (encL api_Hit.enc data)] (fun d' b' => d' = .tup [.val (.int .i64 r.1), .val (.bool r.2.1)] ∧ b' = [.row 47 2 (encL api_Hit.enc r.2.2)]) := by
 unfold g_slices_partitionCmpFunc_api_Hit at hg
 refine Fn.of Try.func70 rfl rfl rfl fun w0 I ρ0 => ?_
 show awp _ ⟨w0, I, ρ0, 1, 1, 178⟩ _ _ _
 refine sr_ 1 17 mk_U ?_
 refine go_ ?_
 refine ch_n fun hU => ?_
 refine awp_seq ?_
 refine awp_draw (sys _ _ []) (by kernel_rfl) [0, 0, 0, 0, 0, 0, 48, 112, 0, 0, 768, 1792, 4083, 8179, 16383, 32767] 17 145 hU rfl rfl (by kernel_rfl) ?_
 refine go_ ?_
 obtain ⟨e, he, hg⟩ := bind_some hg
 refine go_ ?_
 refine ch_s (rd := [0]) rfl rfl (r_loadRA ty47 (enc_cells api_Hit.enc_len (getI_at he) (o := 0) (m := 2) (cs := [.int .i64 e.Pattern, .int .i64 e.At]) rfl (by decide) rfl) (enc_cells_le api_Hit.enc_len (getI_at he) (o := 0) (m := 2) (by decide) rfl)) rfl rfl ?_
 refine go_ ?_
 obtain ⟨e_2, he_2, hg⟩ := bind_some hg
 refine go_ ?_
 refine ch_s (rd := [0]) rfl rfl (r_loadRA ty47 (enc_cells api_Hit.enc_len (getI_at he_2) (o := 0) (m := 2) (cs := [.int .i64 e_2.Pattern, .int .i64 e_2.At]) rfl (by decide) rfl) (enc_cells_le api_Hit.enc_len (getI_at he_2) (o := 0) (m := 2) (by decide) rfl)) rfl rfl ?_
 refine go_ ?_
 refine ch_s (rd := [0]) rfl rfl (r_storeR ty47 rfl (enc_cells_le api_Hit.enc_len (getI_at he_2) (o := 0) (m := 2) (by decide) rfl) ck47 (cs' := [.int .i64 e.Pattern, .int .i64 e.At]) (.cons .int (.cons .int .nil)) (enc_splice api_Hit.enc_len (getI_at he_2) (o := 0) (x' := e) (Nat.le_of_ble_eq_true rfl) rfl rfl)) rfl rfl ?_
 obtain ⟨e_3, he_3, hg⟩ := bind_some hg
 refine go_ ?_
 refine ch_s (rd := [0]) rfl rfl (r_storeR ty47 rfl (enc_cells_le api_Hit.enc_len (getI_at he_3) (o := 0) (m := 2) (by decide) rfl) ck47 (cs' := [.int .i64 e_2.Pattern, .int .i64 e_2.At]) (.cons .int (.cons .int .nil)) (enc_splice api_Hit.enc_len (getI_at he_3) (o := 0) (x' := e_2) (Nat.le_of_ble_eq_true rfl) rfl rfl)) rfl rfl ?_
 refine ch_n fun hU => ?_
 refine sr_ 145 193 hU ?_
 refine go_ ?_
 refine ch_n fun hU => ?_
 refine awp_seq ?_
 refine awp_block ?_
 refine lp_ (fun (i_1 : Int) => mk [(0, .row 0), (1, .val (.int .i64 a)), (4, .clo 34 0 []), (12, .val (.int .i64 i_1)), (13, .val (.int .i64 (W (b - 1))))] [(0, .row 47 2 (encL api_Hit.enc (setI (setI data ((a).toNat) e) ((pivot).toNat) e_2)))] 1) hg (sub_ [(0, 0)]) ?_
 rintro i_1 m1 o1 hg hn1
 replace hg : g_slices_partitionCmpFunc_api_Hit.l1 data a b pivot cmp e e_2 i_1 = some o1 := hg
 show awp _ _ _ _ (mk _ _ _)
 unfold g_slices_partitionCmpFunc_api_Hit.l1 at hg
 refine awp_seq ?_
 refine awp_cut (ι := Bool) (fun (x47_2 : Bool) => mk [(0, .row 0), (1, .val (.int .i64 a)), (4, .clo 34 0 []), (12, .val (.int .i64 i_1)), (13, .val (.int .i64 (W (b - 1)))), (47, .val (.bool x47_2))] [(0, .row 47 2 (encL api_Hit.enc (setI (setI data ((a).toNat) e) ((pivot).toNat) e_2)))] 1) (fun (x47_2 : Bool) => g_slices_partitionCmpFunc_api_Hit.j2 data a b pivot cmp e e_2 i_1 x47_2 = some o1) ?_ ?_
 ·refine awp_draw (sys _ _ []) (by kernel_rfl) [0, 0, 3, 7, 15, 15, 15, 111, 239, 15, 15, 1551, 3599, 8191, 16383, 32767] 1 129 mk_U rfl rfl (by kernel_rfl) ?_
  refine go_ ?_
  rcases bc_ hg with ⟨h4, hg⟩ | ⟨h4, hg⟩
  ·refine go_ ?_
   obtain ⟨e_4, he_4, hg⟩ := bind_some hg
   refine go_ ?_
   refine ch_s (rd := [0]) (gdv_t rfl rfl h4) rfl (r_loadRA ty47 (enc_cells api_Hit.enc_len (getI_at he_4) (o := 0) (m := 2) (cs := [.int .i64 e_4.Pattern, .int .i64 e_4.At]) rfl (by decide) rfl) (enc_cells_le api_Hit.enc_len (getI_at he_4) (o := 0) (m := 2) (by decide) rfl)) rfl rfl ?_
   refine go_ ?_
   obtain ⟨e_5, he_5, hg⟩ := bind_some hg
   refine go_ ?_
   refine ch_s (rd := [0]) (gdv_t rfl rfl h4) rfl (r_loadRA ty47 (enc_cells api_Hit.enc_len (getI_at he_5) (o := 0) (m := 2) (cs := [.int .i64 e_5.Pattern, .int .i64 e_5.At]) rfl (by decide) rfl) (enc_cells_le api_Hit.enc_len (getI_at he_5) (o := 0) (m := 2) (by decide) rfl)) rfl rfl ?_
   obtain ⟨y, hy, hg⟩ := bind_some hg
   refine ch_callCP (rd := []) (ps := []) (gs := []) false (gdv_t rfl rfl h4) rfl (hf_cmp e_4 e_5 _ hy) rfl rfl (.cons (.agg (.cons .val (.cons .val .nil))) (.cons (.agg (.cons .val (.cons .val .nil))) .nil)) rfl rfl (by intro h; cases h) rfl rfl rfl rfl ?_
   refine go_ ?_
   refine ch_n fun hU => ?_
   exact ⟨decide (y < 0), hg, sub_ [(0, 0)]⟩
  ·refine go_ ?_
   refine ch_n fun hU => ?_
   exact ⟨false, hg, sub_ [(0, 0)]⟩
 ·rintro x47_2 hg
  replace hg : g_slices_partitionCmpFunc_api_Hit.j2 data a b pivot cmp e e_2 i_1 x47_2 = some o1 := hg
  show awp _ _ _ _ (mk _ _ _)
  unfold g_slices_partitionCmpFunc_api_Hit.j2 at hg
  refine cg_ rfl hg (fun h7 hg => ?_) fun h7 hg => ?_
  ·refine awp_skip ?_
   repeat first | refine st_ ?_ | refine sn_ ?_
   refine awp_block ?_
   refine awp_region (sys _ _ []) 1 25 mk_U rfl rfl ?_
   refine go_ ?_
   refine ch_n fun hU => ?_
   obtain rfl := Option.some.inj hg
   exact ⟨(W (i_1 + 1), m1), Nat.lt_succ_self _, hn1, sub_ [(0, 0)]⟩
  ·refine awp_exit ?_
   repeat first | refine st_ ?_ | refine sn_ ?_
   replace hg := leave hg hn1
   refine awp_seq ?_
   refine awp_block ?_
   refine lp_ (fun (j_3 : Int) => mk [(0, .row 0), (1, .val (.int .i64 a)), (4, .clo 34 0 []), (12, .val (.int .i64 i_1)), (13, .val (.int .i64 j_3))] [(0, .row 47 2 (encL api_Hit.enc (setI (setI data ((a).toNat) e) ((pivot).toNat) e_2)))] 1) hg (sub_ [(0, 0)]) ?_
   rintro j_3 m3 o3 hg hn3
   replace hg : g_slices_partitionCmpFunc_api_Hit.l3 data a pivot cmp e e_2 i_1 j_3 = some o3 := hg
   show awp _ _ _ _ (mk _ _ _)
   unfold g_slices_partitionCmpFunc_api_Hit.l3 at hg
   refine awp_seq ?_
   refine awp_cut (ι := Bool) (fun (x66_4 : Bool) => mk [(0, .row 0), (1, .val (.int .i64 a)), (4, .clo 34 0 []), (12, .val (.int .i64 i_1)), (13, .val (.int .i64 j_3)), (66, .val (.bool x66_4))] [(0, .row 47 2 (encL api_Hit.enc (setI (setI data ((a).toNat) e) ((pivot).toNat) e_2)))] 1) (fun (x66_4 : Bool) => g_slices_partitionCmpFunc_api_Hit.j4 data a pivot cmp e e_2 i_1 j_3 x66_4 = some o3) ?_ ?_
   ·refine awp_draw (sys _ _ []) (by kernel_rfl) [0, 0, 3, 7, 15, 15, 15, 111, 239, 15, 15, 1551, 3599, 8191, 16383, 32767, 65535] 1 137 mk_U rfl rfl (by kernel_rfl) ?_
    refine go_ ?_
    rcases bc_ hg with ⟨h9, hg⟩ | ⟨h9, hg⟩
    ·refine go_ ?_
     obtain ⟨e_6, he_6, hg⟩ := bind_some hg
     refine go_ ?_
     refine ch_s (rd := [0]) (gdv_t rfl rfl h9) rfl (r_loadRA ty47 (enc_cells api_Hit.enc_len (getI_at he_6) (o := 0) (m := 2) (cs := [.int .i64 e_6.Pattern, .int .i64 e_6.At]) rfl (by decide) rfl) (enc_cells_le api_Hit.enc_len (getI_at he_6) (o := 0) (m := 2) (by decide) rfl)) rfl rfl ?_
     refine go_ ?_
     obtain ⟨e_7, he_7, hg⟩ := bind_some hg
     refine go_ ?_
     refine ch_s (rd := [0]) (gdv_t rfl rfl h9) rfl (r_loadRA ty47 (enc_cells api_Hit.enc_len (getI_at he_7) (o := 0) (m := 2) (cs := [.int .i64 e_7.Pattern, .int .i64 e_7.At]) rfl (by decide) rfl) (enc_cells_le api_Hit.enc_len (getI_at he_7) (o := 0) (m := 2) (by decide) rfl)) rfl rfl ?_
     obtain ⟨y_2, hy_2, hg⟩ := bind_some hg
     refine ch_callCP (rd := []) (ps := []) (gs := []) false (gdv_t rfl rfl h9) rfl (hf_cmp e_6 e_7 _ hy_2) rfl rfl (.cons (.agg (.cons .val (.cons .val .nil))) (.cons (.agg (.cons .val (.cons .val .nil))) .nil)) rfl rfl (by intro h; cases h) rfl rfl rfl rfl ?_
     refine go_ ?_
     refine ch_n fun hU => ?_
     exact ⟨!(decide (y_2 < 0)), hg, sub_ [(0, 0)]⟩
    ·refine go_ ?_
     refine ch_n fun hU => ?_
     exact ⟨false, hg, sub_ [(0, 0)]⟩
   ·rintro x66_4 hg
    replace hg : g_slices_partitionCmpFunc_api_Hit.j4 data a pivot cmp e e_2 i_1 j_3 x66_4 = some o3 := hg
    show awp _ _ _ _ (mk _ _ _)
    unfold g_slices_partitionCmpFunc_api_Hit.j4 at hg
    refine cg_ rfl hg (fun h12 hg => ?_) fun h12 hg => ?_
    ·refine awp_skip ?_
     repeat first | refine st_ ?_ | refine sn_ ?_
     refine awp_block ?_
     refine awp_region (sys _ _ []) 1 25 mk_U rfl rfl ?_
     refine go_ ?_
     refine ch_n fun hU => ?_
     obtain rfl := Option.some.inj hg
     exact ⟨(W (j_3 - 1), m3), Nat.lt_succ_self _, hn3, sub_ [(0, 0)]⟩
    ·refine awp_exit ?_
     repeat first | refine st_ ?_ | refine sn_ ?_
     replace hg := leave hg hn3
     refine awp_seq ?_
     refine sr_ 1 25 mk_U ?_
     refine go_ ?_
     refine ch_n fun hU => ?_
     refine cg_ rfl hg (fun h15 hg => ?_) fun h15 hg => ?_
     ·refine awp_seq ?_
      refine awp_draw (sys _ _ []) (by kernel_rfl) [0, 0, 0, 0, 0, 0, 48, 112, 0, 0, 768, 1792, 4083, 8179, 16383, 32767] 25 153 hU rfl rfl (by kernel_rfl) ?_
      refine go_ ?_
      obtain ⟨e_8, he_8, hg⟩ := bind_some hg
      refine go_ ?_
      refine ch_s (rd := [0]) rfl rfl (r_loadRA ty47 (enc_cells api_Hit.enc_len (getI_at he_8) (o := 0) (m := 2) (cs := [.int .i64 e_8.Pattern, .int .i64 e_8.At]) rfl (by decide) rfl) (enc_cells_le api_Hit.enc_len (getI_at he_8) (o := 0) (m := 2) (by decide) rfl)) rfl rfl ?_
      refine go_ ?_
      obtain ⟨e_9, he_9, hg⟩ := bind_some hg
      refine go_ ?_
      refine ch_s (rd := [0]) rfl rfl (r_loadRA ty47 (enc_cells api_Hit.enc_len (getI_at he_9) (o := 0) (m := 2) (cs := [.int .i64 e_9.Pattern, .int .i64 e_9.At]) rfl (by decide) rfl) (enc_cells_le api_Hit.enc_len (getI_at he_9) (o := 0) (m := 2) (by decide) rfl)) rfl rfl ?_
      refine go_ ?_
      refine ch_s (rd := [0]) rfl rfl (r_storeR ty47 rfl (enc_cells_le api_Hit.enc_len (getI_at he_9) (o := 0) (m := 2) (by decide) rfl) ck47 (cs' := [.int .i64 e_8.Pattern, .int .i64 e_8.At]) (.cons .int (.cons .int .nil)) (enc_splice api_Hit.enc_len (getI_at he_9) (o := 0) (x' := e_8) (Nat.le_of_ble_eq_true rfl) rfl rfl)) rfl rfl ?_
      obtain ⟨e_10, he_10, hg⟩ := bind_some hg
      refine go_ ?_
      refine ch_s (rd := [0]) rfl rfl (r_storeR ty47 rfl (enc_cells_le api_Hit.enc_len (getI_at he_10) (o := 0) (m := 2) (by decide) rfl) ck47 (cs' := [.int .i64 e_9.Pattern, .int .i64 e_9.At]) (.cons .int (.cons .int .nil)) (enc_splice api_Hit.enc_len (getI_at he_10) (o := 0) (x' := e_9) (Nat.le_of_ble_eq_true rfl) rfl rfl)) rfl rfl ?_
      refine ch_n fun hU => ?_
      refine sr_ 153 177 hU ?_
      refine go_ ?_
      refine ch_n fun hU => ?_
      refine aw_r ?_
      obtain rfl := Option.some.inj hg
      exact fin_ [(0, 0)] ⟨rfl, rfl⟩
     ·refine awp_skip ?_
      repeat first | refine st_ ?_ | refine sn_ ?_
      refine awp_seq ?_
      refine awp_draw (sys _ _ []) (by kernel_rfl) [0, 0, 0, 0, 0, 0, 48, 112, 0, 0, 768, 1792, 4083, 8179, 16383, 32767] 25 153 hU rfl rfl (by kernel_rfl) ?_
      refine go_ ?_
      obtain ⟨e_11, he_11, hg⟩ := bind_some hg
      refine go_ ?_
      refine ch_s (rd := [0]) rfl rfl (r_loadRA ty47 (enc_cells api_Hit.enc_len (getI_at he_11) (o := 0) (m := 2) (cs := [.int .i64 e_11.Pattern, .int .i64 e_11.At]) rfl (by decide) rfl) (enc_cells_le api_Hit.enc_len (getI_at he_11) (o := 0) (m := 2) (by decide) rfl)) rfl rfl ?_
      refine go_ ?_
      obtain ⟨e_12, he_12, hg⟩ := bind_some hg
      refine go_ ?_
      refine ch_s (rd := [0]) rfl rfl (r_loadRA ty47 (enc_cells api_Hit.enc_len (getI_at he_12) (o := 0) (m := 2) (cs := [.int .i64 e_12.Pattern, .int .i64 e_12.At]) rfl (by decide) rfl) (enc_cells_le api_Hit.enc_len (getI_at he_12) (o := 0) (m := 2) (by decide) rfl)) rfl rfl ?_
      refine go_ ?_
      refine ch_s (rd := [0]) rfl rfl (r_storeR ty47 rfl (enc_cells_le api_Hit.enc_len (getI_at he_12) (o := 0) (m := 2) (by decide) rfl) ck47 (cs' := [.int .i64 e_11.Pattern, .int .i64 e_11.At]) (.cons .int (.cons .int .nil)) (enc_splice api_Hit.enc_len (getI_at he_12) (o := 0) (x' := e_11) (Nat.le_of_ble_eq_true rfl) rfl rfl)) rfl rfl ?_
      obtain ⟨e_13, he_13, hg⟩ := bind_some hg
      refine go_ ?_
      refine ch_s (rd := [0]) rfl rfl (r_storeR ty47 rfl (enc_cells_le api_Hit.enc_len (getI_at he_13) (o := 0) (m := 2) (by decide) rfl) ck47 (cs' := [.int .i64 e_12.Pattern, .int .i64 e_12.At]) (.cons .int (.cons .int .nil)) (enc_splice api_Hit.enc_len (getI_at he_13) (o := 0) (x' := e_12) (Nat.le_of_ble_eq_true rfl) rfl rfl)) rfl rfl ?_
      refine ch_n fun hU => ?_
      refine sr_ 153 177 hU ?_
      refine go_ ?_
      refine ch_n fun hU => ?_
      refine sr_ 177 201 hU ?_
      refine go_ ?_
      refine ch_n fun hU => ?_
      refine awp_seq ?_
      refine awp_block ?_
      refine lp_ (fun ((i_5, j_5, data_5) : Int × Int × List api_Hit) => mk [(0, .row 0), (1, .val (.int .i64 a)), (4, .clo 34 0 []), (12, .val (.int .i64 i_5)), (13, .val (.int .i64 j_5))] [(0, .row 47 2 (encL api_Hit.enc data_5))] 1) hg (sub_ [(0, 0)]) ?_
      rintro ⟨i_5, j_5, data_5⟩ m5 o5 hg hn5
      replace hg : g_slices_partitionCmpFunc_api_Hit.l5 a cmp i_5 j_5 data_5 = some o5 := hg
      show awp _ _ _ _ (mk _ _ _)
      unfold g_slices_partitionCmpFunc_api_Hit.l5 at hg
      refine awp_block ?_
      refine awp_seq ?_
      refine awp_block ?_
      refine lp_ (fun (i_6 : Int) => mk [(0, .row 0), (1, .val (.int .i64 a)), (4, .clo 34 0 []), (12, .val (.int .i64 i_6)), (13, .val (.int .i64 j_5))] [(0, .row 47 2 (encL api_Hit.enc data_5))] 1) hg (sub_ [(0, 0)]) ?_
      rintro i_6 m6 o6 hg hn6
      replace hg : g_slices_partitionCmpFunc_api_Hit.l6 a cmp j_5 data_5 i_6 = some o6 := hg
      show awp _ _ _ _ (mk _ _ _)
      unfold g_slices_partitionCmpFunc_api_Hit.l6 at hg
      refine awp_seq ?_
      refine awp_cut (ι := Bool) (fun (x120_7 : Bool) => mk [(0, .row 0), (1, .val (.int .i64 a)), (4, .clo 34 0 []), (12, .val (.int .i64 i_6)), (13, .val (.int .i64 j_5)), (120, .val (.bool x120_7))] [(0, .row 47 2 (encL api_Hit.enc data_5))] 1) (fun (x120_7 : Bool) => g_slices_partitionCmpFunc_api_Hit.j7 a cmp j_5 data_5 i_6 x120_7 = some o6) ?_ ?_
      ·refine awp_draw (sys _ _ []) (by kernel_rfl) [0, 0, 3, 7, 15, 15, 15, 111, 239, 15, 15, 1551, 3599, 8191, 16383, 32767] 1 129 mk_U rfl rfl (by kernel_rfl) ?_
       refine go_ ?_
       rcases bc_ hg with ⟨h21, hg⟩ | ⟨h21, hg⟩
       ·refine go_ ?_
        obtain ⟨e_14, he_14, hg⟩ := bind_some hg
        refine go_ ?_
        refine ch_s (rd := [0]) (gdv_t rfl rfl h21) rfl (r_loadRA ty47 (enc_cells api_Hit.enc_len (getI_at he_14) (o := 0) (m := 2) (cs := [.int .i64 e_14.Pattern, .int .i64 e_14.At]) rfl (by decide) rfl) (enc_cells_le api_Hit.enc_len (getI_at he_14) (o := 0) (m := 2) (by decide) rfl)) rfl rfl ?_
        refine go_ ?_
        obtain ⟨e_15, he_15, hg⟩ := bind_some hg
        refine go_ ?_
        refine ch_s (rd := [0]) (gdv_t rfl rfl h21) rfl (r_loadRA ty47 (enc_cells api_Hit.enc_len (getI_at he_15) (o := 0) (m := 2) (cs := [.int .i64 e_15.Pattern, .int .i64 e_15.At]) rfl (by decide) rfl) (enc_cells_le api_Hit.enc_len (getI_at he_15) (o := 0) (m := 2) (by decide) rfl)) rfl rfl ?_
        obtain ⟨y_3, hy_3, hg⟩ := bind_some hg
        refine ch_callCP (rd := []) (ps := []) (gs := []) false (gdv_t rfl rfl h21) rfl (hf_cmp e_14 e_15 _ hy_3) rfl rfl (.cons (.agg (.cons .val (.cons .val .nil))) (.cons (.agg (.cons .val (.cons .val .nil))) .nil)) rfl rfl (by intro h; cases h) rfl rfl rfl rfl ?_
        refine go_ ?_
        refine ch_n fun hU => ?_
        exact ⟨decide (y_3 < 0), hg, sub_ [(0, 0)]⟩
       ·refine go_ ?_
        refine ch_n fun hU => ?_
        exact ⟨false, hg, sub_ [(0, 0)]⟩
      ·rintro x120_7 hg
       replace hg : g_slices_partitionCmpFunc_api_Hit.j7 a cmp j_5 data_5 i_6 x120_7 = some o6 := hg
       show awp _ _ _ _ (mk _ _ _)
       unfold g_slices_partitionCmpFunc_api_Hit.j7 at hg
       refine cg_ rfl hg (fun h24 hg => ?_) fun h24 hg => ?_
       ·refine awp_skip ?_
        repeat first | refine st_ ?_ | refine sn_ ?_
        refine awp_block ?_
        refine awp_region (sys _ _ []) 1 25 mk_U rfl rfl ?_
        refine go_ ?_
        refine ch_n fun hU => ?_
        obtain rfl := Option.some.inj hg
        exact ⟨(W (i_6 + 1), m6), Nat.lt_succ_self _, hn6, sub_ [(0, 0)]⟩
       ·refine awp_exit ?_
        repeat first | refine st_ ?_ | refine sn_ ?_
        replace hg := leave hg hn6
        refine awp_seq ?_
        refine awp_block ?_
        refine lp_ (fun (j_8 : Int) => mk [(0, .row 0), (1, .val (.int .i64 a)), (4, .clo 34 0 []), (12, .val (.int .i64 i_6)), (13, .val (.int .i64 j_8))] [(0, .row 47 2 (encL api_Hit.enc data_5))] 1) hg (sub_ [(0, 0)]) ?_
        rintro j_8 m8 o8 hg hn8
        replace hg : g_slices_partitionCmpFunc_api_Hit.l8 a cmp data_5 i_6 j_8 = some o8 := hg
        show awp _ _ _ _ (mk _ _ _)
        unfold g_slices_partitionCmpFunc_api_Hit.l8 at hg
        refine awp_seq ?_
        refine awp_cut (ι := Bool) (fun (x139_9 : Bool) => mk [(0, .row 0), (1, .val (.int .i64 a)), (4, .clo 34 0 []), (12, .val (.int .i64 i_6)), (13, .val (.int .i64 j_8)), (139, .val (.bool x139_9))] [(0, .row 47 2 (encL api_Hit.enc data_5))] 1) (fun (x139_9 : Bool) => g_slices_partitionCmpFunc_api_Hit.j9 a data_5 i_6 j_8 x139_9 = some o8) ?_ ?_
        ·refine awp_draw (sys _ _ []) (by kernel_rfl) [0, 0, 3, 7, 15, 15, 15, 111, 239, 15, 15, 1551, 3599, 8191, 16383, 32767, 65535] 1 137 mk_U rfl rfl (by kernel_rfl) ?_
         refine go_ ?_
         rcases bc_ hg with ⟨h26, hg⟩ | ⟨h26, hg⟩
         ·refine go_ ?_
          obtain ⟨e_16, he_16, hg⟩ := bind_some hg
          refine go_ ?_
          refine ch_s (rd := [0]) (gdv_t rfl rfl h26) rfl (r_loadRA ty47 (enc_cells api_Hit.enc_len (getI_at he_16) (o := 0) (m := 2) (cs := [.int .i64 e_16.Pattern, .int .i64 e_16.At]) rfl (by decide) rfl) (enc_cells_le api_Hit.enc_len (getI_at he_16) (o := 0) (m := 2) (by decide) rfl)) rfl rfl ?_
          refine go_ ?_
          obtain ⟨e_17, he_17, hg⟩ := bind_some hg
          refine go_ ?_
          refine ch_s (rd := [0]) (gdv_t rfl rfl h26) rfl (r_loadRA ty47 (enc_cells api_Hit.enc_len (getI_at he_17) (o := 0) (m := 2) (cs := [.int .i64 e_17.Pattern, .int .i64 e_17.At]) rfl (by decide) rfl) (enc_cells_le api_Hit.enc_len (getI_at he_17) (o := 0) (m := 2) (by decide) rfl)) rfl rfl ?_
          obtain ⟨y_4, hy_4, hg⟩ := bind_some hg
          refine ch_callCP (rd := []) (ps := []) (gs := []) false (gdv_t rfl rfl h26) rfl (hf_cmp e_16 e_17 _ hy_4) rfl rfl (.cons (.agg (.cons .val (.cons .val .nil))) (.cons (.agg (.cons .val (.cons .val .nil))) .nil)) rfl rfl (by intro h; cases h) rfl rfl rfl rfl ?_
          refine go_ ?_
          refine ch_n fun hU => ?_
          exact ⟨!(decide (y_4 < 0)), hg, sub_ [(0, 0)]⟩
         ·refine go_ ?_
          refine ch_n fun hU => ?_
          exact ⟨false, hg, sub_ [(0, 0)]⟩
        ·rintro x139_9 hg
         replace hg : g_slices_partitionCmpFunc_api_Hit.j9 a data_5 i_6 j_8 x139_9 = some o8 := hg
         show awp _ _ _ _ (mk _ _ _)
         unfold g_slices_partitionCmpFunc_api_Hit.j9 at hg
         refine cg_ rfl hg (fun h29 hg => ?_) fun h29 hg => ?_
         ·refine awp_skip ?_
          repeat first | refine st_ ?_ | refine sn_ ?_
          refine awp_block ?_
          refine awp_region (sys _ _ []) 1 25 mk_U rfl rfl ?_
          refine go_ ?_
          refine ch_n fun hU => ?_
          obtain rfl := Option.some.inj hg
          exact ⟨(W (j_8 - 1), m8), Nat.lt_succ_self _, hn8, sub_ [(0, 0)]⟩
         ·refine awp_exit ?_
          repeat first | refine st_ ?_ | refine sn_ ?_
          replace hg := leave hg hn8
          refine awp_seq ?_
          refine sr_ 1 25 mk_U ?_
          refine go_ ?_
          refine ch_n fun hU => ?_
          refine cg_ rfl hg (fun h32 hg => ?_) fun h32 hg => ?_
          ·refine awp_exit ?_
           repeat first | refine st_ ?_ | refine sn_ ?_
           replace hg := leave hg hn5
           refine awp_seq ?_
           refine awp_draw (sys _ _ []) (by kernel_rfl) [0, 0, 0, 0, 0, 0, 48, 112, 0, 0, 768, 1792, 4083, 8179, 16383, 32767] 25 153 hU rfl rfl (by kernel_rfl) ?_
           refine go_ ?_
           obtain ⟨e_21, he_21, hg⟩ := bind_some hg
           refine go_ ?_
           refine ch_s (rd := [0]) rfl rfl (r_loadRA ty47 (enc_cells api_Hit.enc_len (getI_at he_21) (o := 0) (m := 2) (cs := [.int .i64 e_21.Pattern, .int .i64 e_21.At]) rfl (by decide) rfl) (enc_cells_le api_Hit.enc_len (getI_at he_21) (o := 0) (m := 2) (by decide) rfl)) rfl rfl ?_
           refine go_ ?_
           obtain ⟨e_22, he_22, hg⟩ := bind_some hg
           refine go_ ?_
           refine ch_s (rd := [0]) rfl rfl (r_loadRA ty47 (enc_cells api_Hit.enc_len (getI_at he_22) (o := 0) (m := 2) (cs := [.int .i64 e_22.Pattern, .int .i64 e_22.At]) rfl (by decide) rfl) (enc_cells_le api_Hit.enc_len (getI_at he_22) (o := 0) (m := 2) (by decide) rfl)) rfl rfl ?_
           refine go_ ?_
           refine ch_s (rd := [0]) rfl rfl (r_storeR ty47 rfl (enc_cells_le api_Hit.enc_len (getI_at he_22) (o := 0) (m := 2) (by decide) rfl) ck47 (cs' := [.int .i64 e_21.Pattern, .int .i64 e_21.At]) (.cons .int (.cons .int .nil)) (enc_splice api_Hit.enc_len (getI_at he_22) (o := 0) (x' := e_21) (Nat.le_of_ble_eq_true rfl) rfl rfl)) rfl rfl ?_
           obtain ⟨e_23, he_23, hg⟩ := bind_some hg
           refine go_ ?_
           refine ch_s (rd := [0]) rfl rfl (r_storeR ty47 rfl (enc_cells_le api_Hit.enc_len (getI_at he_23) (o := 0) (m := 2) (by decide) rfl) ck47 (cs' := [.int .i64 e_22.Pattern, .int .i64 e_22.At]) (.cons .int (.cons .int .nil)) (enc_splice api_Hit.enc_len (getI_at he_23) (o := 0) (x' := e_22) (Nat.le_of_ble_eq_true rfl) rfl rfl)) rfl rfl ?_
           refine ch_n fun hU => ?_
           refine sr_ 153 177 hU ?_
           refine go_ ?_
           refine ch_n fun hU => ?_
           refine aw_r ?_
           obtain rfl := Option.some.inj hg
           exact fin_ [(0, 0)] ⟨rfl, rfl⟩
          ·refine awp_skip ?_
           repeat first | refine st_ ?_ | refine sn_ ?_
           refine awp_seq ?_
           refine awp_draw (sys _ _ []) (by kernel_rfl) [0, 0, 0, 0, 0, 0, 48, 112, 0, 0, 768, 1792, 4083, 8179, 16383, 32767] 25 153 hU rfl rfl (by kernel_rfl) ?_
           refine go_ ?_
           obtain ⟨e_18, he_18, hg⟩ := bind_some hg
           refine go_ ?_
           refine ch_s (rd := [0]) rfl rfl (r_loadRA ty47 (enc_cells api_Hit.enc_len (getI_at he_18) (o := 0) (m := 2) (cs := [.int .i64 e_18.Pattern, .int .i64 e_18.At]) rfl (by decide) rfl) (enc_cells_le api_Hit.enc_len (getI_at he_18) (o := 0) (m := 2) (by decide) rfl)) rfl rfl ?_
           refine go_ ?_
           obtain ⟨e_19, he_19, hg⟩ := bind_some hg
           refine go_ ?_
           refine ch_s (rd := [0]) rfl rfl (r_loadRA ty47 (enc_cells api_Hit.enc_len (getI_at he_19) (o := 0) (m := 2) (cs := [.int .i64 e_19.Pattern, .int .i64 e_19.At]) rfl (by decide) rfl) (enc_cells_le api_Hit.enc_len (getI_at he_19) (o := 0) (m := 2) (by decide) rfl)) rfl rfl ?_
           refine go_ ?_
           refine ch_s (rd := [0]) rfl rfl (r_storeR ty47 rfl (enc_cells_le api_Hit.enc_len (getI_at he_19) (o := 0) (m := 2) (by decide) rfl) ck47 (cs' := [.int .i64 e_18.Pattern, .int .i64 e_18.At]) (.cons .int (.cons .int .nil)) (enc_splice api_Hit.enc_len (getI_at he_19) (o := 0) (x' := e_18) (Nat.le_of_ble_eq_true rfl) rfl rfl)) rfl rfl ?_
           obtain ⟨e_20, he_20, hg⟩ := bind_some hg
           refine go_ ?_
           refine ch_s (rd := [0]) rfl rfl (r_storeR ty47 rfl (enc_cells_le api_Hit.enc_len (getI_at he_20) (o := 0) (m := 2) (by decide) rfl) ck47 (cs' := [.int .i64 e_19.Pattern, .int .i64 e_19.At]) (.cons .int (.cons .int .nil)) (enc_splice api_Hit.enc_len (getI_at he_20) (o := 0) (x' := e_19) (Nat.le_of_ble_eq_true rfl) rfl rfl)) rfl rfl ?_
           refine ch_n fun hU => ?_
           refine sr_ 153 177 hU ?_
           refine go_ ?_
           refine ch_n fun hU => ?_
           refine awp_region (sys _ _ []) 177 201 hU rfl rfl ?_
           refine go_ ?_
           refine ch_n fun hU => ?_
           obtain rfl := Option.some.inj hg
           exact ⟨((W (i_6 + 1), W (j_8 - 1), setI (setI data_5 ((i_6).toNat) e_18) ((j_8).toNat) e_19), m5), Nat.lt_succ_self _, hn5, sub_ [(0, 0)]⟩
theorem w_slices_pdqsortCmpFunc_api_Hit_clo_34_0_.F (cmp : api_Hit → api_Hit → Option (Int)) (hf_cmp : ∀ (x0 : api_Hit) (x1 : api_Hit) (y : Int), cmp x0 x1 = some y → Fn Try.prog 34 0 [.agg [.val (.int .i64 x0.Pattern), .val (.int .i64 x0.At)], .agg [.val (.int .i64 x1.Pattern), .val (.int .i64 x1.At)]] [] (fun d' b' => d' = .val (.int .i64 y) ∧ b' = [])) (rec : (List api_Hit) → Int → Int → Int → Option ((List api_Hit))) (hrec : ∀ (data : List api_Hit) (a : Int) (b : Int) (limit : Int) (r : (List api_Hit)), rec data a b limit = some r → Fn Try.prog 50 1 [.row 0, .val (.int .i64 a), .val (.int .i64 b), .val (.int .i64 limit), .clo 34 0 []] [.row 47 2 (encL api_Hit.enc data)] (fun d' b' => d' = .tup [] ∧ b' = [.row 47 2 (encL api_Hit.enc r)])) (data : List api_Hit) (a : Int) (b : Int) (limit : Int) (r : (List api_Hit)) (hg : g_slices_pdqsortCmpFunc_api_Hit.F rec data a b limit cmp = some r) : Fn Try.prog 50 1 [.row 0, .val (.int .i64 a), .val (.int .i64 b), .val (.int .i64 limit), .clo 34 0 []] [.row 47 2 (encL api_Hit.enc data)] (fun d' b' => d' = .tup [] ∧ b' = [.row 47 2 (encL api_Hit.enc r)]) := by
 unfold g_slices_pdqsortCmpFunc_api_Hit.F at hg
 refine Fn.of Try.func50 rfl rfl rfl fun w0 I ρ0 => ?_
 show awp _ ⟨w0, I, ρ0, 1, 1, 148⟩ _ _ _
 refine sr_ 1 9 mk_U ?_
 refine go_ ?_
 refine ch_n fun hU => ?_
 refine sr_ 9 17 hU ?_
 refine go_ ?_
 refine ch_n fun hU => ?_
 refine awp_block ?_
 refine lp_ (fun ((a_1, b_1, limit_1, wasBalanced_1, wasPartitioned_1, data_1) : Int × Int × Int × Bool × Bool × List api_Hit) => mk [(0, .row 0), (1, .val (.int .i64 a_1)), (2, .val (.int .i64 b_1)), (3, .val (.int .i64 limit_1)), (4, .clo 34 0 []), (10, .val (.bool wasBalanced_1)), (11, .val (.bool wasPartitioned_1))] [(0, .row 47 2 (encL api_Hit.enc data_1))] 1) hg (sub_ [(0, 0)]) ?_
 rintro ⟨a_1, b_1, limit_1, wasBalanced_1, wasPartitioned_1, data_1⟩ m1 o1 hg hn1
 replace hg : g_slices_pdqsortCmpFunc_api_Hit.l1 rec cmp a_1 b_1 limit_1 wasBalanced_1 wasPartitioned_1 data_1 = some o1 := hg
 show awp _ _ _ _ (mk _ _ _)
 unfold g_slices_pdqsortCmpFunc_api_Hit.l1 at hg
 refine awp_block ?_
 refine sr_ 1 33 mk_U ?_
 refine go_ ?_
 refine ch_n fun hU => ?_
 refine awp_seq ?_
 refine sr_ 33 49 hU ?_
 refine go_ ?_
 refine ch_n fun hU => ?_
 refine cg_ rfl hg (fun h5 hg => ?_) fun h5 hg => ?_
 ·refine awp_seq ?_
  refine awp_region (sys _ _ []) 49 89 hU rfl rfl ?_
  refine go_ ?_
  obtain ⟨y, hy, hg⟩ := bind_some hg
  refine cb_ [0] [0] [] false (w_slices_insertionSortCmpFunc_api_Hit_clo_34_0_ data_1 a_1 b_1 cmp hf_cmp _ hy) ?_
  refine ch_n fun hU => ?_
  refine aw_r ?_
  replace hg := leave hg hn1
  obtain rfl := Option.some.inj hg
  exact fin_ [(0, 0)] ⟨rfl, rfl⟩
 ·refine awp_skip ?_
  repeat first | refine st_ ?_ | refine sn_ ?_
  refine awp_seq ?_
  refine sr_ 49 65 hU ?_
  refine go_ ?_
  refine ch_n fun hU => ?_
  refine cg_ rfl hg (fun h8 hg => ?_) fun h8 hg => ?_
  ·refine awp_seq ?_
   refine awp_region (sys _ _ []) 65 105 hU rfl rfl ?_
   refine go_ ?_
   obtain ⟨y_2, hy_2, hg⟩ := bind_some hg
   refine cb_ [0] [0] [] false (w_slices_heapSortCmpFunc_api_Hit_clo_34_0_ data_1 a_1 b_1 cmp hf_cmp _ hy_2) ?_
   refine ch_n fun hU => ?_
   refine aw_r ?_
   replace hg := leave hg hn1
   obtain rfl := Option.some.inj hg
   exact fin_ [(0, 0)] ⟨rfl, rfl⟩
  ·refine awp_skip ?_
   repeat first | refine st_ ?_ | refine sn_ ?_
   refine awp_cut (ι := Int × List api_Hit) (fun ((limit_2, data_2) : Int × List api_Hit) => mk [(0, .row 0), (1, .val (.int .i64 a_1)), (2, .val (.int .i64 b_1)), (3, .val (.int .i64 limit_2)), (4, .clo 34 0 []), (10, .val (.bool wasBalanced_1)), (11, .val (.bool wasPartitioned_1)), (12, .val (.int .i64 (W (b_1 - a_1))))] [(0, .row 47 2 (encL api_Hit.enc data_2))] 1) (fun ((limit_2, data_2) : Int × List api_Hit) => g_slices_pdqsortCmpFunc_api_Hit.j2 rec cmp a_1 b_1 wasBalanced_1 wasPartitioned_1 limit_2 data_2 = some o1) ?_ ?_
   ·refine awp_seq ?_
    refine awp_region (sys _ _ []) 65 81 hU rfl rfl ?_
    refine go_ ?_
    refine ch_n fun hU => ?_
    refine cg_ rfl hg (fun h11 hg => ?_) fun h11 hg => ?_
    ·refine awp_seq ?_
     refine awp_region (sys _ _ []) 81 121 hU rfl rfl ?_
     refine go_ ?_
     obtain ⟨y_3, hy_3, hg⟩ := bind_some hg
     refine cb_ [0] [0] [] false (w_slices_breakPatternsCmpFunc_api_Hit_clo_34_0_ data_1 a_1 b_1 cmp hf_cmp _ hy_3) ?_
     refine ch_n fun hU => ?_
     refine awp_region (sys _ _ []) 121 145 hU rfl rfl ?_
     refine go_ ?_
     refine ch_n fun hU => ?_
     exact ⟨(W (limit_1 - 1), y_3), hg, sub_ [(0, 0)]⟩
    ·refine awp_skip ?_
     repeat first | refine st_ ?_ | refine sn_ ?_
     exact ⟨(limit_1, data_1), hg, sub_ [(0, 0)]⟩
   ·rintro ⟨limit_2, data_2⟩ hg
    replace hg : g_slices_pdqsortCmpFunc_api_Hit.j2 rec cmp a_1 b_1 wasBalanced_1 wasPartitioned_1 limit_2 data_2 = some o1 := hg
    show awp _ _ _ _ (mk _ _ _)
    unfold g_slices_pdqsortCmpFunc_api_Hit.j2 at hg
    refine sr_ 1 81 mk_U ?_
    refine go_ ?_
    obtain ⟨y_4, hy_4, hg⟩ := bind_some hg
    refine cb_ [0] [] [] true (w_slices_choosePivotCmpFunc_api_Hit_clo_34_0_ data_2 a_1 b_1 cmp hf_cmp _ hy_4) ?_
    refine go_ ?_
    refine ch_n fun hU => ?_
    refine awp_cut (ι := Int × Int × List api_Hit) (fun ((pivot_3, hint_3, data_3) : Int × Int × List api_Hit) => mk [(0, .row 0), (1, .val (.int .i64 a_1)), (2, .val (.int .i64 b_1)), (3, .val (.int .i64 limit_2)), (4, .clo 34 0 []), (10, .val (.bool wasBalanced_1)), (11, .val (.bool wasPartitioned_1)), (12, .val (.int .i64 (W (b_1 - a_1)))), (13, .val (.int .i64 pivot_3)), (14, .val (.int .i64 hint_3))] [(0, .row 47 2 (encL api_Hit.enc data_3))] 1) (fun ((pivot_3, hint_3, data_3) : Int × Int × List api_Hit) => g_slices_pdqsortCmpFunc_api_Hit.j3 rec cmp a_1 b_1 wasBalanced_1 wasPartitioned_1 limit_2 pivot_3 hint_3 data_3 = some o1) ?_ ?_
    ·refine awp_seq ?_
     refine awp_region (sys _ _ []) 81 97 hU rfl rfl ?_
     refine go_ ?_
     refine ch_n fun hU => ?_
     refine cg_ rfl hg (fun h16 hg => ?_) fun h16 hg => ?_
     ·refine awp_seq ?_
      refine awp_region (sys _ _ []) 97 137 hU rfl rfl ?_
      refine go_ ?_
      obtain ⟨y_5, hy_5, hg⟩ := bind_some hg
      refine cb_ [0] [0] [] false (w_slices_reverseRangeCmpFunc_api_Hit_clo_34_0_ data_2 a_1 b_1 cmp hf_cmp _ hy_5) ?_
      refine ch_n fun hU => ?_
      refine sr_ 137 193 hU ?_
      refine go_ ?_
      refine ch_n fun hU => ?_
      refine awp_region (sys _ _ []) 193 201 hU rfl rfl ?_
      refine go_ ?_
      refine ch_n fun hU => ?_
      exact ⟨(W ((W (b_1 - 1)) - (W (y_4.1 - a_1))), 1, y_5), hg, sub_ [(0, 0)]⟩
     ·refine awp_skip ?_
      repeat first | refine st_ ?_ | refine sn_ ?_
      exact ⟨(y_4.1, y_4.2, data_2), hg, sub_ [(0, 0)]⟩
    ·rintro ⟨pivot_3, hint_3, data_3⟩ hg
     replace hg : g_slices_pdqsortCmpFunc_api_Hit.j3 rec cmp a_1 b_1 wasBalanced_1 wasPartitioned_1 limit_2 pivot_3 hint_3 data_3 = some o1 := hg
     show awp _ _ _ _ (mk _ _ _)
     unfold g_slices_pdqsortCmpFunc_api_Hit.j3 at hg
     refine awp_cut (ι := List api_Hit) (fun (data_5 : List api_Hit) => mk [(0, .row 0), (1, .val (.int .i64 a_1)), (2, .val (.int .i64 b_1)), (3, .val (.int .i64 limit_2)), (4, .clo 34 0 []), (10, .val (.bool wasBalanced_1)), (11, .val (.bool wasPartitioned_1)), (12, .val (.int .i64 (W (b_1 - a_1)))), (13, .val (.int .i64 pivot_3))] [(0, .row 47 2 (encL api_Hit.enc data_5))] 1) (fun (data_5 : List api_Hit) => g_slices_pdqsortCmpFunc_api_Hit.j5 rec cmp a_1 b_1 wasBalanced_1 wasPartitioned_1 limit_2 pivot_3 data_5 = some o1) ?_ ?_
     ·refine awp_cut (ι := Bool) (fun (x75_4 : Bool) => mk [(0, .row 0), (1, .val (.int .i64 a_1)), (2, .val (.int .i64 b_1)), (3, .val (.int .i64 limit_2)), (4, .clo 34 0 []), (10, .val (.bool wasBalanced_1)), (11, .val (.bool wasPartitioned_1)), (12, .val (.int .i64 (W (b_1 - a_1)))), (13, .val (.int .i64 pivot_3)), (75, .val (.bool x75_4))] [(0, .row 47 2 (encL api_Hit.enc data_3))] 1) (fun (x75_4 : Bool) => g_slices_pdqsortCmpFunc_api_Hit.j4 rec cmp a_1 b_1 wasBalanced_1 wasPartitioned_1 limit_2 pivot_3 data_3 x75_4 = some o1) ?_ ?_
      ·refine awp_region (sys _ _ []) 1 65 mk_U rfl rfl ?_
       refine go_ ?_
       rcases bc_ hg with ⟨h20, hg⟩ | ⟨h20, hg⟩
       ·refine go_ ?_
        rcases bc_ hg with ⟨h21, hg⟩ | ⟨h21, hg⟩
        ·refine go_ ?_
         refine ch_n fun hU => ?_
         exact ⟨decide (hint_3 = 1), hg, sub_ [(0, 0)]⟩
        ·refine go_ ?_
         refine ch_n fun hU => ?_
         exact ⟨false, hg, sub_ [(0, 0)]⟩
       ·refine go_ ?_
        refine ch_n fun hU => ?_
        exact ⟨false, hg, sub_ [(0, 0)]⟩
      ·rintro x75_4 hg
       replace hg : g_slices_pdqsortCmpFunc_api_Hit.j4 rec cmp a_1 b_1 wasBalanced_1 wasPartitioned_1 limit_2 pivot_3 data_3 x75_4 = some o1 := hg
       show awp _ _ _ _ (mk _ _ _)
       unfold g_slices_pdqsortCmpFunc_api_Hit.j4 at hg
       refine cg_ rfl hg (fun h25 hg => ?_) fun h25 hg => ?_
       ·refine awp_seq ?_
        refine awp_region (sys _ _ []) 1 41 mk_U rfl rfl ?_
        refine go_ ?_
        obtain ⟨y_6, hy_6, hg⟩ := bind_some hg
        refine cb_ [0] [0] [] false (w_slices_partialInsertionSortCmpFunc_api_Hit_clo_34_0_ data_3 a_1 b_1 cmp hf_cmp _ hy_6) ?_
        refine ch_n fun hU => ?_
        refine cg_ rfl hg (fun h27 hg => ?_) fun h27 hg => ?_
        ·refine awp_ret ?_
         repeat first | refine st_ ?_ | refine sn_ ?_
         replace hg := leave hg hn1
         obtain rfl := Option.some.inj hg
         exact fin_ [(0, 0)] ⟨rfl, rfl⟩
        ·refine awp_skip ?_
         repeat first | refine st_ ?_ | refine sn_ ?_
         exact ⟨y_6.2, hg, sub_ [(0, 0)]⟩
       ·refine awp_skip ?_
        repeat first | refine st_ ?_ | refine sn_ ?_
        exact ⟨data_3, hg, sub_ [(0, 0)]⟩
     ·rintro data_5 hg
      replace hg : g_slices_pdqsortCmpFunc_api_Hit.j5 rec cmp a_1 b_1 wasBalanced_1 wasPartitioned_1 limit_2 pivot_3 data_5 = some o1 := hg
      show awp _ _ _ _ (mk _ _ _)
      unfold g_slices_pdqsortCmpFunc_api_Hit.j5 at hg
      refine awp_seq ?_
      refine awp_cut (ι := Bool) (fun (x97_6 : Bool) => mk [(0, .row 0), (1, .val (.int .i64 a_1)), (2, .val (.int .i64 b_1)), (3, .val (.int .i64 limit_2)), (4, .clo 34 0 []), (10, .val (.bool wasBalanced_1)), (11, .val (.bool wasPartitioned_1)), (12, .val (.int .i64 (W (b_1 - a_1)))), (13, .val (.int .i64 pivot_3)), (97, .val (.bool x97_6))] [(0, .row 47 2 (encL api_Hit.enc data_5))] 1) (fun (x97_6 : Bool) => g_slices_pdqsortCmpFunc_api_Hit.j6 rec cmp a_1 b_1 wasBalanced_1 wasPartitioned_1 limit_2 pivot_3 data_5 x97_6 = some o1) ?_ ?_
      ·refine awp_draw (sys _ _ []) (by kernel_rfl) [0, 1, 3, 7, 7, 7, 39, 119, 247, 7, 7, 1543, 3591, 8191, 16383, 32767, 65535] 1 137 mk_U rfl rfl (by kernel_rfl) ?_
       refine go_ ?_
       rcases bc_ hg with ⟨h28, hg⟩ | ⟨h28, hg⟩
       ·refine go_ ?_
        obtain ⟨e, he, hg⟩ := bind_some hg
        refine go_ ?_
        refine ch_s (rd := [0]) (gdv_t rfl rfl h28) rfl (r_loadRA ty47 (enc_cells api_Hit.enc_len (getI_at he) (o := 0) (m := 2) (cs := [.int .i64 e.Pattern, .int .i64 e.At]) rfl (by decide) rfl) (enc_cells_le api_Hit.enc_len (getI_at he) (o := 0) (m := 2) (by decide) rfl)) rfl rfl ?_
        refine go_ ?_
        obtain ⟨e_2, he_2, hg⟩ := bind_some hg
        refine go_ ?_
        refine ch_s (rd := [0]) (gdv_t rfl rfl h28) rfl (r_loadRA ty47 (enc_cells api_Hit.enc_len (getI_at he_2) (o := 0) (m := 2) (cs := [.int .i64 e_2.Pattern, .int .i64 e_2.At]) rfl (by decide) rfl) (enc_cells_le api_Hit.enc_len (getI_at he_2) (o := 0) (m := 2) (by decide) rfl)) rfl rfl ?_
        obtain ⟨y_7, hy_7, hg⟩ := bind_some hg
        refine ch_callCP (rd := []) (ps := []) (gs := []) false (gdv_t rfl rfl h28) rfl (hf_cmp e e_2 _ hy_7) rfl rfl (.cons (.agg (.cons .val (.cons .val .nil))) (.cons (.agg (.cons .val (.cons .val .nil))) .nil)) rfl rfl (by intro h; cases h) rfl rfl rfl rfl ?_
        refine go_ ?_
        refine ch_n fun hU => ?_
        exact ⟨!(decide (y_7 < 0)), hg, sub_ [(0, 0)]⟩
       ·refine go_ ?_
        refine ch_n fun hU => ?_
        exact ⟨false, hg, sub_ [(0, 0)]⟩
      ·rintro x97_6 hg
       replace hg : g_slices_pdqsortCmpFunc_api_Hit.j6 rec cmp a_1 b_1 wasBalanced_1 wasPartitioned_1 limit_2 pivot_3 data_5 x97_6 = some o1 := hg
       show awp _ _ _ _ (mk _ _ _)
       unfold g_slices_pdqsortCmpFunc_api_Hit.j6 at hg
       refine cg_ rfl hg (fun h31 hg => ?_) fun h31 hg => ?_
       ·refine awp_seq ?_
        refine awp_region (sys _ _ []) 1 57 mk_U rfl rfl ?_
        refine go_ ?_
        obtain ⟨y_8, hy_8, hg⟩ := bind_some hg
        refine cb_ [0] [0] [] false (w_slices_partitionEqualCmpFunc_api_Hit_clo_34_0_ data_5 a_1 b_1 pivot_3 cmp hf_cmp _ hy_8) ?_
        refine go_ ?_
        refine ch_n fun hU => ?_
        refine sr_ 57 73 hU ?_
        refine go_ ?_
        refine ch_n fun hU => ?_
        refine awp_exit ?_
        repeat first | refine st_ ?_ | refine sn_ ?_
        obtain rfl := Option.some.inj hg
        exact ⟨((y_8.1, b_1, limit_2, wasBalanced_1, wasPartitioned_1, y_8.2), m1), Nat.lt_succ_self _, hn1, sub_ [(0, 0)]⟩
       ·refine awp_skip ?_
        repeat first | refine st_ ?_ | refine sn_ ?_
        refine sr_ 1 89 mk_U ?_
        refine go_ ?_
        obtain ⟨y_9, hy_9, hg⟩ := bind_some hg
        refine cb_ [0] [0] [] false (w_slices_partitionCmpFunc_api_Hit_clo_34_0_ data_5 a_1 b_1 pivot_3 cmp hf_cmp _ hy_9) ?_
        refine go_ ?_
        refine ch_n fun hU => ?_
        refine sr_ 89 105 hU ?_
        refine go_ ?_
        refine ch_n fun hU => ?_
        refine sr_ 105 169 hU ?_
        refine go_ ?_
        refine ch_n fun hU => ?_
        refine sr_ 169 193 hU ?_
        refine go_ ?_
        obtain ⟨q, hq, hg⟩ := bind_some hg
        refine c0_ rfl rfl (r_quo hq) rfl rfl ?_
        refine go_ ?_
        refine ch_n fun hU => ?_
        refine sr_ 193 217 hU ?_
        refine go_ ?_
        refine ch_n fun hU => ?_
        refine cg_ rfl hg (fun h39 hg => ?_) fun h39 hg => ?_
        ·refine awp_seq ?_
         refine awp_region (sys _ _ []) 217 249 hU rfl rfl ?_
         refine go_ ?_
         refine ch_n fun hU => ?_
         refine sr_ 249 297 hU ?_
         refine go_ ?_
         obtain ⟨y_10, hy_10, hg⟩ := bind_some hg
         refine cb_ [0] [0] [] false (hrec y_9.2.2 a_1 y_9.1 limit_2 _ hy_10) ?_
         refine ch_n fun hU => ?_
         refine awp_region (sys _ _ []) 297 321 hU rfl rfl ?_
         refine go_ ?_
         refine ch_n fun hU => ?_
         obtain rfl := Option.some.inj hg
         exact ⟨((W (y_9.1 + 1), b_1, limit_2, decide (q ≤ (W (y_9.1 - a_1))), y_9.2.1, y_10), m1), Nat.lt_succ_self _, hn1, sub_ [(0, 0)]⟩
        ·refine awp_seq ?_
         refine awp_region (sys _ _ []) 217 249 hU rfl rfl ?_
         refine go_ ?_
         refine ch_n fun hU => ?_
         refine sr_ 249 305 hU ?_
         refine go_ ?_
         obtain ⟨y_11, hy_11, hg⟩ := bind_some hg
         refine cb_ [0] [0] [] false (hrec y_9.2.2 (W (y_9.1 + 1)) b_1 limit_2 _ hy_11) ?_
         refine ch_n fun hU => ?_
         refine awp_region (sys _ _ []) 305 321 hU rfl rfl ?_
         refine go_ ?_
         refine ch_n fun hU => ?_
         obtain rfl := Option.some.inj hg
         exact ⟨((a_1, y_9.1, limit_2, decide (q ≤ (W (b_1 - y_9.1))), y_9.2.1, y_11), m1), Nat.lt_succ_self _, hn1, sub_ [(0, 0)]⟩
theorem w_slices_pdqsortCmpFunc_api_Hit_clo_34_0_ (data : List api_Hit) (a : Int) (b : Int) (limit : Int) (cmp : api_Hit → api_Hit → Option (Int)) (hf_cmp : ∀ (x0 : api_Hit) (x1 : api_Hit) (y : Int), cmp x0 x1 = some y → Fn Try.prog 34 0 [.agg [.val (.int .i64 x0.Pattern), .val (.int .i64 x0.At)], .agg [.val (.int .i64 x1.Pattern), .val (.int .i64 x1.At)]] [] (fun d' b' => d' = .val (.int .i64 y) ∧ b' = [])) (r : (List api_Hit)) (hg : g_slices_pdqsortCmpFunc_api_Hit data a b limit cmp = some r) : Fn Try.prog 50 1 [.row 0, .val (.int .i64 a), .val (.int .i64 b), .val (.int .i64 limit), .clo 34 0 []] [.row 47 2 (encL api_Hit.enc data)] (fun d' b' => d' = .tup [] ∧ b' = [.row 47 2 (encL api_Hit.enc r)]) :=
 fixT_ind (motive := fun (x : List api_Hit × Int × Int × Int) (r : (List api_Hit)) => Fn Try.prog 50 1 [.row 0, .val (.int .i64 x.2.1), .val (.int .i64 x.2.2.1), .val (.int .i64 x.2.2.2), .clo 34 0 []] [.row 47 2 (encL api_Hit.enc x.1)] (fun d' b' => d' = .tup [] ∧ b' = [.row 47 2 (encL api_Hit.enc r)])) (fun rec hrec x r h => w_slices_pdqsortCmpFunc_api_Hit_clo_34_0_.F cmp hf_cmp _ (fun data a b limit r h => hrec (data, a, b, limit) r h) x.1 x.2.1 x.2.2.1 x.2.2.2 r h) (data, a, b, limit) r hg
theorem w_slices_SortFunc_api_Hit_clo_34_0_ (x' : List api_Hit) (cmp : api_Hit → api_Hit → Option (Int)) (hf_cmp : ∀ (x0 : api_Hit) (x1 : api_Hit) (y : Int), cmp x0 x1 = some y → Fn Try.prog 34 0 [.agg [.val (.int .i64 x0.Pattern), .val (.int .i64 x0.At)], .agg [.val (.int .i64 x1.Pattern), .val (.int .i64 x1.At)]] [] (fun d' b' => d' = .val (.int .i64 y) ∧ b' = [])) (r : (List api_Hit)) (hg : g_slices_SortFunc_api_Hit x' cmp = some r) : Fn Try.prog 33 1 [.row 0, .clo 34 0 []] [.row 47 2 (encL api_Hit.enc x')] (fun d' b' => d' = .tup [] ∧ b' = [.row 47 2 (encL api_Hit.enc r)]) := by
 unfold g_slices_SortFunc_api_Hit at hg
 refine Fn.of Try.func33 rfl rfl rfl fun w0 I ρ0 => ?_
 show awp _ ⟨w0, I, ρ0, 1, 1, 14⟩ _ _ _
 refine sr_ 1 25 mk_U ?_
 refine go_ ?_
 refine ch_n fun hU => ?_
 refine awp_region (sys _ _ []) 25 81 hU rfl rfl ?_
 refine go_ ?_
 refine c0_ rfl rfl (r_convK und3 und91) rfl rfl ?_
 obtain ⟨y, hy, hg⟩ := bind_some hg
 refine ca_ (w_math_bits_Len _ _ hy) ?_
 refine go_ ?_
 obtain ⟨y_2, hy_2, hg⟩ := bind_some hg
 refine cb_ [0] [0] [] false (w_slices_pdqsortCmpFunc_api_Hit_clo_34_0_ x' 0 (x'.length : Int) y cmp hf_cmp _ hy_2) ?_
 refine ch_n fun hU => ?_
 obtain rfl := Option.some.inj hg
 exact fin_ [(0, 0)] ⟨rfl, rfl⟩
theorem w_pattern_Find (p : (List api_Pattern)) (b : (List UInt8)) (r : (List api_Hit) × Int) (hg : g_pattern_Find p b = some r) : Fn Try.prog 13 0 [.sl 3 (encL api_Pattern.enc p), .sl 1 (encL e8 b)] [] (fun d' b' => d' = .tup [.sl 2 (encL api_Hit.enc r.1), .val (.int .i64 r.2)] ∧ b' = []) := by
 unfold g_pattern_Find at hg
 refine Fn.of Try.func13 rfl rfl rfl fun w0 I ρ0 => ?_
 show awp _ ⟨w0, I, ρ0, 0, 0, 24⟩ _ _ _
 refine sr_ 0 16 mk_U ?_
 refine go_ ?_
 refine ch_n fun hU => ?_
 refine awp_seq ?_
 refine sr_ 16 48 hU ?_
 refine go_ ?_
 obtain ⟨y, hy, hg⟩ := bind_some hg
 refine ca_ (w_pattern_early _ _ _ hy) ?_
 refine go_ ?_
 refine ch_n fun hU => ?_
 refine sr_ 48 64 hU ?_
 refine go_ ?_
 refine ch_n fun hU => ?_
 refine cg_ rfl hg (fun h4 hg => ?_) fun h4 hg => ?_
 ·refine awp_seq ?_
  refine awp_region (sys _ _ []) 64 88 hU rfl rfl ?_
  refine go_ ?_
  refine ch_n fun hU => ?_
  refine aw_r ?_
  obtain rfl := Option.some.inj hg
  exact fin_ [] ⟨rfl, rfl⟩
 ·refine awp_skip ?_
  repeat first | refine st_ ?_ | refine sn_ ?_
  refine sr_ 64 72 hU ?_
  refine go_ ?_
  refine ch_n fun hU => ?_
  refine awp_seq ?_
  refine awp_sub (σ' := mk [(0, .sl 3 (encL api_Pattern.enc p)), (1, .sl 1 (encL e8 b)), (7, .ptr 0 0)] [(0, .box [.row 1] 31), (1, .row 47 2 (encL api_Hit.enc ([] : List api_Hit)))] 2) (sub_ [(0, 64)]) ?_
  refine awp_region (sys _ _ []) 2 34 mk_U rfl rfl ?_
  refine go_ ?_
  obtain ⟨y_2, hy_2, hg⟩ := bind_some hg
  refine ch_call (rd := [0, 1]) (ps := [0]) (gs := [1]) false rfl (w_pattern_hits_List_api_Hit_clo_32_0_boxw_31 p b (fun x0 b0 => g_pattern_Find_c1 x0 b0) ([] : List api_Hit) (fun x0 b0 y h => w_pattern_Find_c1 x0 b0 y h) _ hy_2) rfl rfl (.cons .sl (.cons .sl (.cons (.clo (.cons (.ptr rfl) .nil)) .nil))) ⟨_, _, _, rfl, .head _, ⟨_, rfl, (by repeat' (first | exact AgL.nil | apply AgL.cons | exact Ag.val | exact Ag.sl | exact Ag.nils | exact Ag.ptr rfl | exact Ag.rowK rfl))⟩, ⟨_, _, _, rfl, .tail _ (.head _), rfl, rfl⟩⟩ rfl (by intro h; cases h) rfl (by intro h; first | (cases h; done) | exact ⟨_, _, ⟨rfl, rfl⟩, by simp, by simp⟩) ?_
  rintro _ _ ⟨rfl, rfl⟩
  refine ch_n fun hU => ?_
  refine awp_seq ?_
  refine sr_ 34 58 hU ?_
  refine go_ ?_
  refine ch_n fun hU => ?_
  refine cg_ rfl hg (fun h9 hg => ?_) fun h9 hg => ?_
  ·refine awp_seq ?_
   refine awp_region (sys _ _ []) 58 74 hU rfl rfl ?_
   refine go_ ?_
   refine ch_n fun hU => ?_
   refine aw_r ?_
   obtain rfl := Option.some.inj hg
   exact fin_ [] ⟨rfl, rfl⟩
  ·refine awp_skip ?_
   repeat first | refine st_ ?_ | refine sn_ ?_
   refine sr_ 58 74 hU ?_
   refine go_ ?_
   obtain ⟨y_3, hy_3, hg⟩ := bind_some hg
   refine cb_ [26] [26] [] false (w_slices_SortFunc_api_Hit_clo_34_0_ y_2 (fun x0 x1 => g_pattern_Find_c2 x0 x1) (fun x0 x1 y h => w_pattern_Find_c2 x0 x1 y h) _ hy_3) ?_
   refine ch_n fun hU => ?_
   refine sr_ 74 98 hU ?_
   refine go_ ?_
   refine ch_n fun hU => ?_
   refine aw_r ?_
   obtain rfl := Option.some.inj hg
   exact fin_ [] ⟨rfl, rfl⟩
theorem w_pattern_Prefix (b : (List UInt8)) (r : (List Int)) (hg : g_pattern_Prefix b = some r) : Fn Try.prog 12 0 [.sl 1 (encL e8 b)] [] (fun d' b' => d' = .sl 1 (encL eI r) ∧ b' = []) := by
 unfold g_pattern_Prefix at hg
 refine Fn.of Try.func12 rfl rfl rfl fun w0 I ρ0 => ?_
 show awp _ ⟨w0, I, ρ0, 0, 0, 54⟩ _ _ _
 refine sr_ 0 8 mk_U ?_
 refine go_ ?_
 refine ch_n fun hU => ?_
 refine sr_ 8 40 hU ?_
 refine go_ ?_
 obtain ⟨m, hm, hg⟩ := bind_some hg
 refine c0_ rfl rfl (r_makeSl (f := eI) sl22 z3 ck3 (.cons .int .nil) rfl hm rfl) rfl rfl ?_
 refine go_ ?_
 refine ch_n fun hU => ?_
 refine awp_seq ?_
 refine sr_ 40 48 hU ?_
 refine go_ ?_
 refine ch_n fun hU => ?_
 refine awp_block ?_
 refine lp_ (fun ((i_1, out_1) : Int × List Int) => mk [(0, .sl 1 (encL e8 b)), (3, .row 0), (4, .val (.int .i64 i_1))] [(0, .row 3 1 (encL eI out_1))] 1) hg (sub_ [(0, 24)]) ?_
 rintro ⟨i_1, out_1⟩ m1 o1 hg hn1
 replace hg : g_pattern_Prefix.l1 b i_1 out_1 = some o1 := hg
 show awp _ _ _ _ (mk _ _ _)
 unfold g_pattern_Prefix.l1 at hg
 refine awp_seq ?_
 refine sr_ 1 33 mk_U ?_
 refine go_ ?_
 refine ch_n fun hU => ?_
 refine cg_ rfl hg (fun h5 hg => ?_) fun h5 hg => ?_
 ·refine awp_skip ?_
  repeat first | refine st_ ?_ | refine sn_ ?_
  refine awp_seq ?_
  refine awp_block ?_
  refine sr_ 33 81 hU ?_
  refine go_ ?_
  obtain ⟨e, he, hg⟩ := bind_some hg
  refine go_ ?_
  refine ch_s (rd := [0]) rfl rfl (.loadR1 ty3 (enc_cell eI_len (getI_at he) (o := 0) (c := .int .i64 e) rfl rfl)) rfl rfl ?_
  refine go_ ?_
  refine ch_n fun hU => ?_
  refine awp_seq ?_
  refine awp_block ?_
  refine lp_ (fun (n_2 : Int) => mk [(0, .sl 1 (encL e8 b)), (3, .row 0), (4, .val (.int .i64 i_1)), (5, .val (.int .i64 n_2))] [(0, .row 3 1 (encL eI out_1))] 1) hg (sub_ [(0, 0)]) ?_
  rintro n_2 m2 o2 hg hn2
  replace hg : g_pattern_Prefix.l2 b i_1 out_1 n_2 = some o2 := hg
  show awp _ _ _ _ (mk _ _ _)
  unfold g_pattern_Prefix.l2 at hg
  refine awp_seq ?_
  refine awp_cut (ι := Bool) (fun (x32_3 : Bool) => mk [(0, .sl 1 (encL e8 b)), (3, .row 0), (4, .val (.int .i64 i_1)), (5, .val (.int .i64 n_2)), (32, .val (.bool x32_3))] [(0, .row 3 1 (encL eI out_1))] 1) (fun (x32_3 : Bool) => g_pattern_Prefix.j3 b i_1 out_1 n_2 x32_3 = some o2) ?_ ?_
  ·refine awp_draw (sys _ _ []) (by kernel_rfl) [0, 1, 3, 7, 7, 31, 63, 7, 7, 391, 903, 2047, 4095] 1 105 mk_U rfl rfl (by kernel_rfl) ?_
   refine go_ ?_
   rcases bc_ hg with ⟨h7, hg⟩ | ⟨h7, hg⟩
   ·refine go_ ?_
    obtain ⟨e_2, he_2, hg⟩ := bind_some hg
    refine go_ ?_
    refine c0_ (gdv_t rfl rfl h7) rfl (r_loadE1 ty5 (enc_cell e8_len (getI_at he_2) (o := 0) (c := .int .u8 (e_2.toNat : Int)) rfl rfl)) rfl rfl ?_
    refine go_ ?_
    obtain ⟨e_3, he_3, hg⟩ := bind_some hg
    refine go_ ?_
    refine c0_ (gdv_t rfl rfl h7) rfl (r_loadE1 ty5 (enc_cell e8_len (getI_at he_3) (o := 0) (c := .int .u8 (e_3.toNat : Int)) rfl rfl)) rfl rfl ?_
    refine go_ ?_
    refine ch_n fun hU => ?_
    exact ⟨!decide ((e_2.toNat : Int) = (e_3.toNat : Int)), hg, sub_ [(0, 0)]⟩
   ·refine go_ ?_
    refine ch_n fun hU => ?_
    exact ⟨false, hg, sub_ [(0, 0)]⟩
  ·rintro x32_3 hg
   replace hg : g_pattern_Prefix.j3 b i_1 out_1 n_2 x32_3 = some o2 := hg
   show awp _ _ _ _ (mk _ _ _)
   unfold g_pattern_Prefix.j3 at hg
   refine cg_ rfl hg (fun h10 hg => ?_) fun h10 hg => ?_
   ·refine awp_skip ?_
    repeat first | refine st_ ?_ | refine sn_ ?_
    refine awp_block ?_
    refine awp_region (sys _ _ []) 1 49 mk_U rfl rfl ?_
    refine go_ ?_
    obtain ⟨e_4, he_4, hg⟩ := bind_some hg
    refine go_ ?_
    refine ch_s (rd := [0]) rfl rfl (.loadR1 ty3 (enc_cell eI_len (getI_at he_4) (o := 0) (c := .int .i64 e_4) rfl rfl)) rfl rfl ?_
    refine go_ ?_
    refine ch_n fun hU => ?_
    obtain rfl := Option.some.inj hg
    exact ⟨(e_4, m2), Nat.lt_succ_self _, hn2, sub_ [(0, 0)]⟩
   ·refine awp_exit ?_
    repeat first | refine st_ ?_ | refine sn_ ?_
    replace hg := leave hg hn2
    refine awp_cut (ι := Int) (fun (n_4 : Int) => mk [(0, .sl 1 (encL e8 b)), (3, .row 0), (4, .val (.int .i64 i_1)), (5, .val (.int .i64 n_4))] [(0, .row 3 1 (encL eI out_1))] 1) (fun (n_4 : Int) => g_pattern_Prefix.j4 i_1 out_1 n_4 = some o1) ?_ ?_
    ·refine awp_seq ?_
     refine awp_draw (sys _ _ []) (by kernel_rfl) [0, 0, 3, 7, 0, 0, 48, 112, 255] 1 73 mk_U rfl rfl (by kernel_rfl) ?_
     refine go_ ?_
     obtain ⟨e_5, he_5, hg⟩ := bind_some hg
     refine go_ ?_
     refine c0_ rfl rfl (r_loadE1 ty5 (enc_cell e8_len (getI_at he_5) (o := 0) (c := .int .u8 (e_5.toNat : Int)) rfl rfl)) rfl rfl ?_
     refine go_ ?_
     obtain ⟨e_6, he_6, hg⟩ := bind_some hg
     refine go_ ?_
     refine c0_ rfl rfl (r_loadE1 ty5 (enc_cell e8_len (getI_at he_6) (o := 0) (c := .int .u8 (e_6.toNat : Int)) rfl rfl)) rfl rfl ?_
     refine go_ ?_
     refine ch_n fun hU => ?_
     refine cg_ rfl hg (fun h13 hg => ?_) fun h13 hg => ?_
     ·refine awp_region (sys _ _ []) 73 97 hU rfl rfl ?_
      refine go_ ?_
      refine ch_n fun hU => ?_
      exact ⟨W (n_2 + 1), hg, sub_ [(0, 0)]⟩
     ·refine awp_skip ?_
      repeat first | refine st_ ?_ | refine sn_ ?_
      exact ⟨n_2, hg, sub_ [(0, 0)]⟩
    ·rintro n_4 hg
     replace hg : g_pattern_Prefix.j4 i_1 out_1 n_4 = some o1 := hg
     show awp _ _ _ _ (mk _ _ _)
     unfold g_pattern_Prefix.j4 at hg
     refine awp_region (sys _ _ []) 1 41 mk_U rfl rfl ?_
     refine go_ ?_
     obtain ⟨e_7, he_7, hg⟩ := bind_some hg
     refine go_ ?_
     refine ch_s (rd := [0]) rfl rfl (r_storeR ty3 rfl (enc_cells_le eI_len (getI_at he_7) (o := 0) (m := 1) (by decide) rfl) ck3 (cs' := [.int .i64 n_4]) (.cons .int .nil) (enc_splice eI_len (getI_at he_7) (o := 0) (x' := n_4) (Nat.le_of_ble_eq_true rfl) rfl rfl)) rfl rfl ?_
     refine ch_n fun hU => ?_
     refine awp_region (sys _ _ []) 41 65 hU rfl rfl ?_
     refine go_ ?_
     refine ch_n fun hU => ?_
     obtain rfl := Option.some.inj hg
     exact ⟨((W (i_1 + 1), setI out_1 ((i_1).toNat) n_4), m1), Nat.lt_succ_self _, hn1, sub_ [(0, 0)]⟩
 ·refine awp_exit ?_
  repeat first | refine st_ ?_ | refine sn_ ?_
  replace hg := leave hg hn1
  refine sr_ 33 49 hU ?_
  refine go_ ?_
  refine ch_n fun hU => ?_
  refine aw_r ?_
  obtain rfl := Option.some.inj hg
  exact fin_ [] ⟨rfl, rfl⟩
end Go.Proofs.Ytfkgbfhpibiheaa
