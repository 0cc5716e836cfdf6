/- The program computes the plain functions. -/
import Derived.Test.YtbeageaekgccgaaT1
import Derived.Test.YtbeageaekgccgaaA2
set_option linter.unusedVariables false
set_option linter.unusedSimpArgs false
set_option maxRecDepth 100000
set_option maxHeartbeats 1600000
namespace Go.Proofs.Ytbeageaekgccgaa
open Go.RowKit
theorem w_slices_reverseRangeCmpFunc_api_Entry_clo_16_0_ (data : List api_Entry) (a : Int) (b : Int) (cmp : api_Entry → api_Entry → Option (Int)) (hf_cmp : ∀ (x0 : api_Entry) (x1 : api_Entry) (y : Int), cmp x0 x1 = some y → Fn Try.prog 16 0 [.agg (api_Entry.dv x0), .agg (api_Entry.dv x1)] [] (fun d' b' => d' = .val (.int .i64 y) ∧ b' = [])) (r : (List api_Entry)) (hg : g_slices_reverseRangeCmpFunc_api_Entry data a b cmp = some r) : Fn Try.prog 47 1 [.row 0, .val (.int .i64 a), .val (.int .i64 b), .clo 16 0 []] [.row 28 6 (encL api_Entry.enc data)] (fun d' b' => d' = .tup [] ∧ b' = [.row 28 6 (encL api_Entry.enc r)]) := by
 unfold g_slices_reverseRangeCmpFunc_api_Entry at hg
 refine Fn.of Try.func47 rfl rfl rfl fun w0 I ρ0 => ?_
 show awp _ ⟨w0, I, ρ0, 1, 1, 34⟩ _ _ _
 refine sr_ 1 17 mk_U ?_
 refine go_ ?_
 refine ch_n fun hU => ?_
 refine sr_ 17 41 hU ?_
 refine go_ ?_
 refine ch_n fun hU => ?_
 refine awp_block ?_
 refine lp_ (fun ((i_1, j_1, data_1) : Int × Int × List api_Entry) => mk [(0, .row 0), (8, .val (.int .i64 i_1)), (9, .val (.int .i64 j_1))] [(0, .row 28 6 (encL api_Entry.enc data_1))] 1) hg (sub_ [(0, 0)]) ?_
 rintro ⟨i_1, j_1, data_1⟩ m1 o1 hg hn1
 replace hg : g_slices_reverseRangeCmpFunc_api_Entry.l1 i_1 j_1 data_1 = some o1 := hg
 show awp _ _ _ _ (mk _ _ _)
 unfold g_slices_reverseRangeCmpFunc_api_Entry.l1 at hg
 refine awp_seq ?_
 refine sr_ 1 25 mk_U ?_
 refine go_ ?_
 refine ch_n fun hU => ?_
 refine cg_ rfl hg (fun h4 hg => ?_) fun h4 hg => ?_
 ·refine awp_skip ?_
  repeat first | refine st_ ?_ | refine sn_ ?_
  refine awp_block ?_
  refine awp_seq ?_
  refine awp_draw (sys _ _ []) (by kernel_rfl) [0, 0, 0, 0, 0, 0, 48, 112, 0, 0, 768, 1792, 4083, 8179, 16383, 32767] 25 153 hU rfl rfl (by kernel_rfl) ?_
  refine go_ ?_
  obtain ⟨e, he, hg⟩ := bind_some hg
  refine go_ ?_
  refine ch_s (rd := [0]) rfl rfl (r_loadRA ty28 (enc_cells api_Entry.enc_len (getI_at he) (o := 0) (m := 6) (cs := [.str e.Alias, .int .i64 e.Key.Alg, .int .i64 e.Key.Bits, .int .i64 e.KeyId, .bool e.Secret, .sl 15 (encL api_Certificate.enc e.Chain)]) rfl (by decide) rfl) (enc_cells_le api_Entry.enc_len (getI_at he) (o := 0) (m := 6) (by decide) rfl)) rfl rfl ?_
  refine go_ ?_
  obtain ⟨e_2, he_2, hg⟩ := bind_some hg
  refine go_ ?_
  refine ch_s (rd := [0]) rfl rfl (r_loadRA ty28 (enc_cells api_Entry.enc_len (getI_at he_2) (o := 0) (m := 6) (cs := [.str e_2.Alias, .int .i64 e_2.Key.Alg, .int .i64 e_2.Key.Bits, .int .i64 e_2.KeyId, .bool e_2.Secret, .sl 15 (encL api_Certificate.enc e_2.Chain)]) rfl (by decide) rfl) (enc_cells_le api_Entry.enc_len (getI_at he_2) (o := 0) (m := 6) (by decide) rfl)) rfl rfl ?_
  refine go_ ?_
  refine ch_s (rd := [0]) rfl rfl (r_storeR ty28 rfl (enc_cells_le api_Entry.enc_len (getI_at he_2) (o := 0) (m := 6) (by decide) rfl) ck28 (cs' := [.str e.Alias, .int .i64 e.Key.Alg, .int .i64 e.Key.Bits, .int .i64 e.KeyId, .bool e.Secret, .sl 15 (encL api_Certificate.enc e.Chain)]) (.cons .str (.cons .int (.cons .int (.cons .int (.cons .bool (.cons .sl .nil)))))) (enc_splice api_Entry.enc_len (getI_at he_2) (o := 0) (x' := e) (Nat.le_of_ble_eq_true rfl) rfl rfl)) rfl rfl ?_
  obtain ⟨e_3, he_3, hg⟩ := bind_some hg
  refine go_ ?_
  refine ch_s (rd := [0]) rfl rfl (r_storeR ty28 rfl (enc_cells_le api_Entry.enc_len (getI_at he_3) (o := 0) (m := 6) (by decide) rfl) ck28 (cs' := [.str e_2.Alias, .int .i64 e_2.Key.Alg, .int .i64 e_2.Key.Bits, .int .i64 e_2.KeyId, .bool e_2.Secret, .sl 15 (encL api_Certificate.enc e_2.Chain)]) (.cons .str (.cons .int (.cons .int (.cons .int (.cons .bool (.cons .sl .nil)))))) (enc_splice api_Entry.enc_len (getI_at he_3) (o := 0) (x' := e_2) (Nat.le_of_ble_eq_true rfl) rfl rfl)) rfl rfl ?_
  refine ch_n fun hU => ?_
  refine sr_ 153 177 hU ?_
  refine go_ ?_
  refine ch_n fun hU => ?_
  refine awp_region (sys _ _ []) 177 201 hU rfl rfl ?_
  refine go_ ?_
  refine ch_n fun hU => ?_
  obtain rfl := Option.some.inj hg
  exact ⟨((W (i_1 + 1), W (j_1 - 1), setI (setI data_1 ((i_1).toNat) e) ((j_1).toNat) e_2), m1), Nat.lt_succ_self _, hn1, sub_ [(0, 0)]⟩
 ·refine awp_exit ?_
  repeat first | refine st_ ?_ | refine sn_ ?_
  replace hg := leave hg hn1
  obtain rfl := Option.some.inj hg
  exact fin_ [(0, 0)] ⟨rfl, rfl⟩
theorem w_slices_partialInsertionSortCmpFunc_api_Entry_clo_16_0_ (data : List api_Entry) (a : Int) (b : Int) (cmp : api_Entry → api_Entry → Option (Int)) (hf_cmp : ∀ (x0 : api_Entry) (x1 : api_Entry) (y : Int), cmp x0 x1 = some y → Fn Try.prog 16 0 [.agg (api_Entry.dv x0), .agg (api_Entry.dv x1)] [] (fun d' b' => d' = .val (.int .i64 y) ∧ b' = [])) (r : Bool × (List api_Entry)) (hg : g_slices_partialInsertionSortCmpFunc_api_Entry data a b cmp = some r) : Fn Try.prog 48 1 [.row 0, .val (.int .i64 a), .val (.int .i64 b), .clo 16 0 []] [.row 28 6 (encL api_Entry.enc data)] (fun d' b' => d' = .val (.bool r.1) ∧ b' = [.row 28 6 (encL api_Entry.enc r.2)]) := by
 unfold g_slices_partialInsertionSortCmpFunc_api_Entry at hg
 refine Fn.of Try.func48 rfl rfl rfl fun w0 I ρ0 => ?_
 show awp _ ⟨w0, I, ρ0, 1, 1, 141⟩ _ _ _
 refine sr_ 1 9 mk_U ?_
 refine go_ ?_
 refine ch_n fun hU => ?_
 refine sr_ 9 33 hU ?_
 refine go_ ?_
 refine ch_n fun hU => ?_
 refine awp_seq ?_
 refine sr_ 33 41 hU ?_
 refine go_ ?_
 refine ch_n fun hU => ?_
 refine awp_block ?_
 refine lp_ (fun ((i_1, j_1, data_1) : Int × Int × List api_Entry) => mk [(0, .row 0), (1, .val (.int .i64 a)), (2, .val (.int .i64 b)), (3, .clo 16 0 []), (9, .val (.int .i64 i_1)), (10, .val (.int .i64 j_1))] [(0, .row 28 6 (encL api_Entry.enc data_1))] 1) hg (sub_ [(0, 0)]) ?_
 rintro ⟨i_1, j_1, data_1⟩ m1 o1 hg hn1
 replace hg : g_slices_partialInsertionSortCmpFunc_api_Entry.l1 a b cmp i_1 j_1 data_1 = some o1 := hg
 show awp _ _ _ _ (mk _ _ _)
 unfold g_slices_partialInsertionSortCmpFunc_api_Entry.l1 at hg
 refine awp_seq ?_
 refine sr_ 1 17 mk_U ?_
 refine go_ ?_
 refine ch_n fun hU => ?_
 refine cg_ rfl hg (fun h5 hg => ?_) fun h5 hg => ?_
 ·refine awp_skip ?_
  repeat first | refine st_ ?_ | refine sn_ ?_
  refine awp_cut (ι := Int × List api_Entry) (fun ((i_7, data_7) : Int × List api_Entry) => mk [(0, .row 0), (1, .val (.int .i64 a)), (2, .val (.int .i64 b)), (3, .clo 16 0 []), (9, .val (.int .i64 i_7)), (10, .val (.int .i64 j_1))] [(0, .row 28 6 (encL api_Entry.enc data_7))] 1) (fun ((i_7, data_7) : Int × List api_Entry) => g_slices_partialInsertionSortCmpFunc_api_Entry.j7 j_1 i_7 data_7 = some o1) ?_ ?_
  ·refine awp_block ?_
   refine awp_seq ?_
   refine awp_block ?_
   refine lp_ (fun (i_2 : Int) => mk [(0, .row 0), (1, .val (.int .i64 a)), (2, .val (.int .i64 b)), (3, .clo 16 0 []), (9, .val (.int .i64 i_2)), (10, .val (.int .i64 j_1))] [(0, .row 28 6 (encL api_Entry.enc data_1))] 1) hg (sub_ [(0, 0)]) ?_
   rintro i_2 m2 o2 hg hn2
   replace hg : g_slices_partialInsertionSortCmpFunc_api_Entry.l2 a b cmp j_1 data_1 i_2 = some o2 := hg
   show awp _ _ _ _ (mk _ _ _)
   unfold g_slices_partialInsertionSortCmpFunc_api_Entry.l2 at hg
   refine awp_seq ?_
   refine awp_cut (ι := Bool) (fun (x36_3 : Bool) => mk [(0, .row 0), (1, .val (.int .i64 a)), (2, .val (.int .i64 b)), (3, .clo 16 0 []), (9, .val (.int .i64 i_2)), (10, .val (.int .i64 j_1)), (36, .val (.bool x36_3))] [(0, .row 28 6 (encL api_Entry.enc data_1))] 1) (fun (x36_3 : Bool) => g_slices_partialInsertionSortCmpFunc_api_Entry.j3 a b cmp j_1 data_1 i_2 x36_3 = some o2) ?_ ?_
   ·refine awp_draw (sys _ _ []) (by kernel_rfl) [0, 0, 3, 7, 15, 15, 15, 111, 239, 15, 15, 1039, 3599, 7695, 16383, 32767, 65535, 131071] 1 145 mk_U rfl rfl (by kernel_rfl) ?_
    refine go_ ?_
    rcases bc_ hg with ⟨h6, hg⟩ | ⟨h6, hg⟩
    ·refine go_ ?_
     obtain ⟨e, he, hg⟩ := bind_some hg
     refine go_ ?_
     refine ch_s (rd := [0]) (gdv_t rfl rfl h6) rfl (r_loadRA ty28 (enc_cells api_Entry.enc_len (getI_at he) (o := 0) (m := 6) (cs := [.str e.Alias, .int .i64 e.Key.Alg, .int .i64 e.Key.Bits, .int .i64 e.KeyId, .bool e.Secret, .sl 15 (encL api_Certificate.enc e.Chain)]) rfl (by decide) rfl) (enc_cells_le api_Entry.enc_len (getI_at he) (o := 0) (m := 6) (by decide) rfl)) rfl rfl ?_
     refine go_ ?_
     obtain ⟨e_2, he_2, hg⟩ := bind_some hg
     refine go_ ?_
     refine ch_s (rd := [0]) (gdv_t rfl rfl h6) rfl (r_loadRA ty28 (enc_cells api_Entry.enc_len (getI_at he_2) (o := 0) (m := 6) (cs := [.str e_2.Alias, .int .i64 e_2.Key.Alg, .int .i64 e_2.Key.Bits, .int .i64 e_2.KeyId, .bool e_2.Secret, .sl 15 (encL api_Certificate.enc e_2.Chain)]) rfl (by decide) rfl) (enc_cells_le api_Entry.enc_len (getI_at he_2) (o := 0) (m := 6) (by decide) rfl)) rfl rfl ?_
     obtain ⟨y, hy, hg⟩ := bind_some hg
     refine ch_callCP (rd := []) (ps := []) (gs := []) false (gdv_t rfl rfl h6) rfl (hf_cmp e e_2 _ hy) rfl rfl (.cons (.agg (.cons .val (.cons .val (.cons .val (.cons .val (.cons .val (.cons .sl .nil))))))) (.cons (.agg (.cons .val (.cons .val (.cons .val (.cons .val (.cons .val (.cons .sl .nil))))))) .nil)) rfl rfl (by intro h; cases h) rfl rfl rfl rfl ?_
     refine go_ ?_
     refine ch_n fun hU => ?_
     exact ⟨!(decide (y < 0)), hg, sub_ [(0, 0)]⟩
    ·refine go_ ?_
     refine ch_n fun hU => ?_
     exact ⟨false, hg, sub_ [(0, 0)]⟩
   ·rintro x36_3 hg
    replace hg : g_slices_partialInsertionSortCmpFunc_api_Entry.j3 a b cmp j_1 data_1 i_2 x36_3 = some o2 := hg
    show awp _ _ _ _ (mk _ _ _)
    unfold g_slices_partialInsertionSortCmpFunc_api_Entry.j3 at hg
    refine cg_ rfl hg (fun h9 hg => ?_) fun h9 hg => ?_
    ·refine awp_skip ?_
     repeat first | refine st_ ?_ | refine sn_ ?_
     refine awp_block ?_
     refine awp_region (sys _ _ []) 1 25 mk_U rfl rfl ?_
     refine go_ ?_
     refine ch_n fun hU => ?_
     obtain rfl := Option.some.inj hg
     exact ⟨(W (i_2 + 1), m2), Nat.lt_succ_self _, hn2, sub_ [(0, 0)]⟩
    ·refine awp_exit ?_
     repeat first | refine st_ ?_ | refine sn_ ?_
     replace hg := leave hg hn2
     refine awp_seq ?_
     refine sr_ 1 25 mk_U ?_
     refine go_ ?_
     refine ch_n fun hU => ?_
     refine cg_ rfl hg (fun h12 hg => ?_) fun h12 hg => ?_
     ·refine awp_seq ?_
      refine awp_region (sys _ _ []) 25 33 hU rfl rfl ?_
      refine go_ ?_
      refine ch_n fun hU => ?_
      refine aw_r ?_
      replace hg := leave hg hn1
      obtain rfl := Option.some.inj hg
      exact fin_ [(0, 0)] ⟨rfl, rfl⟩
     ·refine awp_skip ?_
      repeat first | refine st_ ?_ | refine sn_ ?_
      refine awp_seq ?_
      refine sr_ 25 57 hU ?_
      refine go_ ?_
      refine ch_n fun hU => ?_
      refine cg_ rfl hg (fun h15 hg => ?_) fun h15 hg => ?_
      ·refine awp_seq ?_
       refine awp_region (sys _ _ []) 57 65 hU rfl rfl ?_
       refine go_ ?_
       refine ch_n fun hU => ?_
       refine aw_r ?_
       replace hg := leave hg hn1
       obtain rfl := Option.some.inj hg
       exact fin_ [(0, 0)] ⟨rfl, rfl⟩
      ·refine awp_skip ?_
       repeat first | refine st_ ?_ | refine sn_ ?_
       refine awp_seq ?_
       refine awp_draw (sys _ _ []) (by kernel_rfl) [0, 0, 0, 0, 8, 0, 0, 64, 224, 480, 0, 0, 3072, 7168, 16355, 32739, 65535, 131071] 57 201 hU rfl rfl (by kernel_rfl) ?_
       refine go_ ?_
       obtain ⟨e_3, he_3, hg⟩ := bind_some hg
       refine go_ ?_
       refine ch_s (rd := [0]) rfl rfl (r_loadRA ty28 (enc_cells api_Entry.enc_len (getI_at he_3) (o := 0) (m := 6) (cs := [.str e_3.Alias, .int .i64 e_3.Key.Alg, .int .i64 e_3.Key.Bits, .int .i64 e_3.KeyId, .bool e_3.Secret, .sl 15 (encL api_Certificate.enc e_3.Chain)]) rfl (by decide) rfl) (enc_cells_le api_Entry.enc_len (getI_at he_3) (o := 0) (m := 6) (by decide) rfl)) rfl rfl ?_
       refine go_ ?_
       obtain ⟨e_4, he_4, hg⟩ := bind_some hg
       refine go_ ?_
       refine ch_s (rd := [0]) rfl rfl (r_loadRA ty28 (enc_cells api_Entry.enc_len (getI_at he_4) (o := 0) (m := 6) (cs := [.str e_4.Alias, .int .i64 e_4.Key.Alg, .int .i64 e_4.Key.Bits, .int .i64 e_4.KeyId, .bool e_4.Secret, .sl 15 (encL api_Certificate.enc e_4.Chain)]) rfl (by decide) rfl) (enc_cells_le api_Entry.enc_len (getI_at he_4) (o := 0) (m := 6) (by decide) rfl)) rfl rfl ?_
       refine go_ ?_
       refine ch_s (rd := [0]) rfl rfl (r_storeR ty28 rfl (enc_cells_le api_Entry.enc_len (getI_at he_4) (o := 0) (m := 6) (by decide) rfl) ck28 (cs' := [.str e_3.Alias, .int .i64 e_3.Key.Alg, .int .i64 e_3.Key.Bits, .int .i64 e_3.KeyId, .bool e_3.Secret, .sl 15 (encL api_Certificate.enc e_3.Chain)]) (.cons .str (.cons .int (.cons .int (.cons .int (.cons .bool (.cons .sl .nil)))))) (enc_splice api_Entry.enc_len (getI_at he_4) (o := 0) (x' := e_3) (Nat.le_of_ble_eq_true rfl) rfl rfl)) rfl rfl ?_
       obtain ⟨e_5, he_5, hg⟩ := bind_some hg
       refine go_ ?_
       refine ch_s (rd := [0]) rfl rfl (r_storeR ty28 rfl (enc_cells_le api_Entry.enc_len (getI_at he_5) (o := 0) (m := 6) (by decide) rfl) ck28 (cs' := [.str e_4.Alias, .int .i64 e_4.Key.Alg, .int .i64 e_4.Key.Bits, .int .i64 e_4.KeyId, .bool e_4.Secret, .sl 15 (encL api_Certificate.enc e_4.Chain)]) (.cons .str (.cons .int (.cons .int (.cons .int (.cons .bool (.cons .sl .nil)))))) (enc_splice api_Entry.enc_len (getI_at he_5) (o := 0) (x' := e_4) (Nat.le_of_ble_eq_true rfl) rfl rfl)) rfl rfl ?_
       refine ch_n fun hU => ?_
       refine awp_cut (ι := List api_Entry) (fun (data_5 : List api_Entry) => mk [(0, .row 0), (1, .val (.int .i64 a)), (2, .val (.int .i64 b)), (3, .clo 16 0 []), (9, .val (.int .i64 i_2)), (10, .val (.int .i64 j_1))] [(0, .row 28 6 (encL api_Entry.enc data_5))] 1) (fun (data_5 : List api_Entry) => g_slices_partialInsertionSortCmpFunc_api_Entry.j5 b cmp j_1 i_2 data_5 = some o1) ?_ ?_
       ·refine awp_seq ?_
        refine awp_region (sys _ _ []) 201 233 hU rfl rfl ?_
        refine go_ ?_
        refine ch_n fun hU => ?_
        refine cg_ rfl hg (fun h19 hg => ?_) fun h19 hg => ?_
        ·refine awp_seq ?_
         refine awp_region (sys _ _ []) 233 257 hU rfl rfl ?_
         refine go_ ?_
         refine ch_n fun hU => ?_
         refine awp_block ?_
         refine lp_ (fun ((j_4, data_4) : Int × List api_Entry) => mk [(0, .row 0), (1, .val (.int .i64 a)), (2, .val (.int .i64 b)), (3, .clo 16 0 []), (9, .val (.int .i64 i_2)), (10, .val (.int .i64 j_1)), (11, .val (.int .i64 j_4))] [(0, .row 28 6 (encL api_Entry.enc data_4))] 1) hg (sub_ [(0, 0)]) ?_
         rintro ⟨j_4, data_4⟩ m4 o4 hg hn4
         replace hg : g_slices_partialInsertionSortCmpFunc_api_Entry.l4 b cmp j_1 i_2 j_4 data_4 = some o4 := hg
         show awp _ _ _ _ (mk _ _ _)
         unfold g_slices_partialInsertionSortCmpFunc_api_Entry.l4 at hg
         refine awp_seq ?_
         refine sr_ 1 17 mk_U ?_
         refine go_ ?_
         refine ch_n fun hU => ?_
         refine cg_ rfl hg (fun h22 hg => ?_) fun h22 hg => ?_
         ·refine awp_skip ?_
          repeat first | refine st_ ?_ | refine sn_ ?_
          refine awp_seq ?_
          refine awp_block ?_
          refine awp_seq ?_
          refine awp_seq ?_
          refine awp_draw (sys _ _ []) (by kernel_rfl) [0, 0, 0, 6, 14, 0, 0, 64, 224, 480, 1023, 2047, 4095] 17 121 hU rfl rfl (by kernel_rfl) ?_
          refine go_ ?_
          obtain ⟨e_6, he_6, hg⟩ := bind_some hg
          refine go_ ?_
          refine ch_s (rd := [0]) rfl rfl (r_loadRA ty28 (enc_cells api_Entry.enc_len (getI_at he_6) (o := 0) (m := 6) (cs := [.str e_6.Alias, .int .i64 e_6.Key.Alg, .int .i64 e_6.Key.Bits, .int .i64 e_6.KeyId, .bool e_6.Secret, .sl 15 (encL api_Certificate.enc e_6.Chain)]) rfl (by decide) rfl) (enc_cells_le api_Entry.enc_len (getI_at he_6) (o := 0) (m := 6) (by decide) rfl)) rfl rfl ?_
          refine go_ ?_
          obtain ⟨e_7, he_7, hg⟩ := bind_some hg
          refine go_ ?_
          refine ch_s (rd := [0]) rfl rfl (r_loadRA ty28 (enc_cells api_Entry.enc_len (getI_at he_7) (o := 0) (m := 6) (cs := [.str e_7.Alias, .int .i64 e_7.Key.Alg, .int .i64 e_7.Key.Bits, .int .i64 e_7.KeyId, .bool e_7.Secret, .sl 15 (encL api_Certificate.enc e_7.Chain)]) rfl (by decide) rfl) (enc_cells_le api_Entry.enc_len (getI_at he_7) (o := 0) (m := 6) (by decide) rfl)) rfl rfl ?_
          obtain ⟨y_2, hy_2, hg⟩ := bind_some hg
          refine ch_callCP (rd := []) (ps := []) (gs := []) false rfl rfl (hf_cmp e_6 e_7 _ hy_2) rfl rfl (.cons (.agg (.cons .val (.cons .val (.cons .val (.cons .val (.cons .val (.cons .sl .nil))))))) (.cons (.agg (.cons .val (.cons .val (.cons .val (.cons .val (.cons .val (.cons .sl .nil))))))) .nil)) rfl rfl (by intro h; cases h) rfl rfl rfl rfl ?_
          refine go_ ?_
          refine ch_n fun hU => ?_
          refine cg_ rfl hg (fun h24 hg => ?_) fun h24 hg => ?_
          ·refine awp_exit ?_
           repeat first | refine st_ ?_ | refine sn_ ?_
           replace hg := leave hg hn4
           exact ⟨data_4, hg, sub_ [(0, 0)]⟩
          ·refine awp_skip ?_
           repeat first | refine st_ ?_ | refine sn_ ?_
           refine awp_draw (sys _ _ []) (by kernel_rfl) [0, 0, 0, 0, 8, 0, 0, 64, 224, 480, 0, 0, 3072, 7168, 16355, 32739, 65535, 131071] 121 265 hU rfl rfl (by kernel_rfl) ?_
           refine go_ ?_
           refine ch_s (rd := [0]) rfl rfl (r_loadRA ty28 (enc_cells api_Entry.enc_len (getI_at he_7) (o := 0) (m := 6) (cs := [.str e_7.Alias, .int .i64 e_7.Key.Alg, .int .i64 e_7.Key.Bits, .int .i64 e_7.KeyId, .bool e_7.Secret, .sl 15 (encL api_Certificate.enc e_7.Chain)]) rfl (by decide) rfl) (enc_cells_le api_Entry.enc_len (getI_at he_7) (o := 0) (m := 6) (by decide) rfl)) rfl rfl ?_
           refine go_ ?_
           refine ch_s (rd := [0]) rfl rfl (r_loadRA ty28 (enc_cells api_Entry.enc_len (getI_at he_6) (o := 0) (m := 6) (cs := [.str e_6.Alias, .int .i64 e_6.Key.Alg, .int .i64 e_6.Key.Bits, .int .i64 e_6.KeyId, .bool e_6.Secret, .sl 15 (encL api_Certificate.enc e_6.Chain)]) rfl (by decide) rfl) (enc_cells_le api_Entry.enc_len (getI_at he_6) (o := 0) (m := 6) (by decide) rfl)) rfl rfl ?_
           refine go_ ?_
           refine ch_s (rd := [0]) rfl rfl (r_storeR ty28 rfl (enc_cells_le api_Entry.enc_len (getI_at he_6) (o := 0) (m := 6) (by decide) rfl) ck28 (cs' := [.str e_7.Alias, .int .i64 e_7.Key.Alg, .int .i64 e_7.Key.Bits, .int .i64 e_7.KeyId, .bool e_7.Secret, .sl 15 (encL api_Certificate.enc e_7.Chain)]) (.cons .str (.cons .int (.cons .int (.cons .int (.cons .bool (.cons .sl .nil)))))) (enc_splice api_Entry.enc_len (getI_at he_6) (o := 0) (x' := e_7) (Nat.le_of_ble_eq_true rfl) rfl rfl)) rfl rfl ?_
           obtain ⟨e_8, he_8, hg⟩ := bind_some hg
           refine go_ ?_
           refine ch_s (rd := [0]) rfl rfl (r_storeR ty28 rfl (enc_cells_le api_Entry.enc_len (getI_at he_8) (o := 0) (m := 6) (by decide) rfl) ck28 (cs' := [.str e_6.Alias, .int .i64 e_6.Key.Alg, .int .i64 e_6.Key.Bits, .int .i64 e_6.KeyId, .bool e_6.Secret, .sl 15 (encL api_Certificate.enc e_6.Chain)]) (.cons .str (.cons .int (.cons .int (.cons .int (.cons .bool (.cons .sl .nil)))))) (enc_splice api_Entry.enc_len (getI_at he_8) (o := 0) (x' := e_6) (Nat.le_of_ble_eq_true rfl) rfl rfl)) rfl rfl ?_
           refine ch_n fun hU => ?_
           refine awp_region (sys _ _ []) 265 289 hU rfl rfl ?_
           refine go_ ?_
           refine ch_n fun hU => ?_
           obtain rfl := Option.some.inj hg
           exact ⟨((W (j_4 - 1), setI (setI data_4 ((j_4).toNat) e_7) ((W (j_4 - 1)).toNat) e_6), m4), Nat.lt_succ_self _, hn4, sub_ [(0, 0)]⟩
         ·refine awp_exit ?_
          repeat first | refine st_ ?_ | refine sn_ ?_
          replace hg := leave hg hn4
          exact ⟨data_4, hg, sub_ [(0, 0)]⟩
        ·refine awp_skip ?_
         repeat first | refine st_ ?_ | refine sn_ ?_
         exact ⟨setI (setI data_1 ((i_2).toNat) e_3) ((W (i_2 - 1)).toNat) e_4, hg, sub_ [(0, 0)]⟩
       ·rintro data_5 hg
        replace hg : g_slices_partialInsertionSortCmpFunc_api_Entry.j5 b cmp j_1 i_2 data_5 = some o1 := hg
        show awp _ _ _ _ (mk _ _ _)
        unfold g_slices_partialInsertionSortCmpFunc_api_Entry.j5 at hg
        refine sr_ 1 33 mk_U ?_
        refine go_ ?_
        refine ch_n fun hU => ?_
        refine cg_ rfl hg (fun h28 hg => ?_) fun h28 hg => ?_
        ·refine awp_seq ?_
         refine awp_region (sys _ _ []) 33 57 hU rfl rfl ?_
         refine go_ ?_
         refine ch_n fun hU => ?_
         refine awp_block ?_
         refine lp_ (fun ((j_6, data_6) : Int × List api_Entry) => mk [(0, .row 0), (1, .val (.int .i64 a)), (2, .val (.int .i64 b)), (3, .clo 16 0 []), (9, .val (.int .i64 i_2)), (10, .val (.int .i64 j_1)), (12, .val (.int .i64 j_6))] [(0, .row 28 6 (encL api_Entry.enc data_6))] 1) hg (sub_ [(0, 0)]) ?_
         rintro ⟨j_6, data_6⟩ m6 o6 hg hn6
         replace hg : g_slices_partialInsertionSortCmpFunc_api_Entry.l6 b cmp j_1 i_2 j_6 data_6 = some o6 := hg
         show awp _ _ _ _ (mk _ _ _)
         unfold g_slices_partialInsertionSortCmpFunc_api_Entry.l6 at hg
         refine awp_seq ?_
         refine sr_ 1 25 mk_U ?_
         refine go_ ?_
         refine ch_n fun hU => ?_
         refine cg_ rfl hg (fun h31 hg => ?_) fun h31 hg => ?_
         ·refine awp_skip ?_
          repeat first | refine st_ ?_ | refine sn_ ?_
          refine awp_seq ?_
          refine awp_block ?_
          refine awp_seq ?_
          refine awp_seq ?_
          refine awp_draw (sys _ _ []) (by kernel_rfl) [0, 0, 0, 6, 14, 0, 0, 64, 224, 480, 1023, 2047, 4095] 25 129 hU rfl rfl (by kernel_rfl) ?_
          refine go_ ?_
          obtain ⟨e_9, he_9, hg⟩ := bind_some hg
          refine go_ ?_
          refine ch_s (rd := [0]) rfl rfl (r_loadRA ty28 (enc_cells api_Entry.enc_len (getI_at he_9) (o := 0) (m := 6) (cs := [.str e_9.Alias, .int .i64 e_9.Key.Alg, .int .i64 e_9.Key.Bits, .int .i64 e_9.KeyId, .bool e_9.Secret, .sl 15 (encL api_Certificate.enc e_9.Chain)]) rfl (by decide) rfl) (enc_cells_le api_Entry.enc_len (getI_at he_9) (o := 0) (m := 6) (by decide) rfl)) rfl rfl ?_
          refine go_ ?_
          obtain ⟨e_10, he_10, hg⟩ := bind_some hg
          refine go_ ?_
          refine ch_s (rd := [0]) rfl rfl (r_loadRA ty28 (enc_cells api_Entry.enc_len (getI_at he_10) (o := 0) (m := 6) (cs := [.str e_10.Alias, .int .i64 e_10.Key.Alg, .int .i64 e_10.Key.Bits, .int .i64 e_10.KeyId, .bool e_10.Secret, .sl 15 (encL api_Certificate.enc e_10.Chain)]) rfl (by decide) rfl) (enc_cells_le api_Entry.enc_len (getI_at he_10) (o := 0) (m := 6) (by decide) rfl)) rfl rfl ?_
          obtain ⟨y_3, hy_3, hg⟩ := bind_some hg
          refine ch_callCP (rd := []) (ps := []) (gs := []) false rfl rfl (hf_cmp e_9 e_10 _ hy_3) rfl rfl (.cons (.agg (.cons .val (.cons .val (.cons .val (.cons .val (.cons .val (.cons .sl .nil))))))) (.cons (.agg (.cons .val (.cons .val (.cons .val (.cons .val (.cons .val (.cons .sl .nil))))))) .nil)) rfl rfl (by intro h; cases h) rfl rfl rfl rfl ?_
          refine go_ ?_
          refine ch_n fun hU => ?_
          refine cg_ rfl hg (fun h33 hg => ?_) fun h33 hg => ?_
          ·refine awp_exit ?_
           repeat first | refine st_ ?_ | refine sn_ ?_
           replace hg := leave hg hn6
           exact ⟨(i_2, data_6), hg, sub_ [(0, 0)]⟩
          ·refine awp_skip ?_
           repeat first | refine st_ ?_ | refine sn_ ?_
           refine awp_draw (sys _ _ []) (by kernel_rfl) [0, 0, 0, 0, 8, 0, 0, 64, 224, 480, 0, 0, 3072, 7168, 16355, 32739, 65535, 131071] 129 273 hU rfl rfl (by kernel_rfl) ?_
           refine go_ ?_
           refine ch_s (rd := [0]) rfl rfl (r_loadRA ty28 (enc_cells api_Entry.enc_len (getI_at he_10) (o := 0) (m := 6) (cs := [.str e_10.Alias, .int .i64 e_10.Key.Alg, .int .i64 e_10.Key.Bits, .int .i64 e_10.KeyId, .bool e_10.Secret, .sl 15 (encL api_Certificate.enc e_10.Chain)]) rfl (by decide) rfl) (enc_cells_le api_Entry.enc_len (getI_at he_10) (o := 0) (m := 6) (by decide) rfl)) rfl rfl ?_
           refine go_ ?_
           refine ch_s (rd := [0]) rfl rfl (r_loadRA ty28 (enc_cells api_Entry.enc_len (getI_at he_9) (o := 0) (m := 6) (cs := [.str e_9.Alias, .int .i64 e_9.Key.Alg, .int .i64 e_9.Key.Bits, .int .i64 e_9.KeyId, .bool e_9.Secret, .sl 15 (encL api_Certificate.enc e_9.Chain)]) rfl (by decide) rfl) (enc_cells_le api_Entry.enc_len (getI_at he_9) (o := 0) (m := 6) (by decide) rfl)) rfl rfl ?_
           refine go_ ?_
           refine ch_s (rd := [0]) rfl rfl (r_storeR ty28 rfl (enc_cells_le api_Entry.enc_len (getI_at he_9) (o := 0) (m := 6) (by decide) rfl) ck28 (cs' := [.str e_10.Alias, .int .i64 e_10.Key.Alg, .int .i64 e_10.Key.Bits, .int .i64 e_10.KeyId, .bool e_10.Secret, .sl 15 (encL api_Certificate.enc e_10.Chain)]) (.cons .str (.cons .int (.cons .int (.cons .int (.cons .bool (.cons .sl .nil)))))) (enc_splice api_Entry.enc_len (getI_at he_9) (o := 0) (x' := e_10) (Nat.le_of_ble_eq_true rfl) rfl rfl)) rfl rfl ?_
           obtain ⟨e_11, he_11, hg⟩ := bind_some hg
           refine go_ ?_
           refine ch_s (rd := [0]) rfl rfl (r_storeR ty28 rfl (enc_cells_le api_Entry.enc_len (getI_at he_11) (o := 0) (m := 6) (by decide) rfl) ck28 (cs' := [.str e_9.Alias, .int .i64 e_9.Key.Alg, .int .i64 e_9.Key.Bits, .int .i64 e_9.KeyId, .bool e_9.Secret, .sl 15 (encL api_Certificate.enc e_9.Chain)]) (.cons .str (.cons .int (.cons .int (.cons .int (.cons .bool (.cons .sl .nil)))))) (enc_splice api_Entry.enc_len (getI_at he_11) (o := 0) (x' := e_9) (Nat.le_of_ble_eq_true rfl) rfl rfl)) rfl rfl ?_
           refine ch_n fun hU => ?_
           refine awp_region (sys _ _ []) 273 297 hU rfl rfl ?_
           refine go_ ?_
           refine ch_n fun hU => ?_
           obtain rfl := Option.some.inj hg
           exact ⟨((W (j_6 + 1), setI (setI data_6 ((j_6).toNat) e_10) ((W (j_6 - 1)).toNat) e_9), m6), Nat.lt_succ_self _, hn6, sub_ [(0, 0)]⟩
         ·refine awp_exit ?_
          repeat first | refine st_ ?_ | refine sn_ ?_
          replace hg := leave hg hn6
          exact ⟨(i_2, data_6), hg, sub_ [(0, 0)]⟩
        ·refine awp_skip ?_
         repeat first | refine st_ ?_ | refine sn_ ?_
         exact ⟨(i_2, data_5), hg, sub_ [(0, 0)]⟩
  ·rintro ⟨i_7, data_7⟩ hg
   replace hg : g_slices_partialInsertionSortCmpFunc_api_Entry.j7 j_1 i_7 data_7 = some o1 := hg
   show awp _ _ _ _ (mk _ _ _)
   unfold g_slices_partialInsertionSortCmpFunc_api_Entry.j7 at hg
   refine awp_region (sys _ _ []) 1 25 mk_U rfl rfl ?_
   refine go_ ?_
   refine ch_n fun hU => ?_
   obtain rfl := Option.some.inj hg
   exact ⟨((i_7, W (j_1 + 1), data_7), m1), Nat.lt_succ_self _, hn1, sub_ [(0, 0)]⟩
 ·refine awp_exit ?_
  repeat first | refine st_ ?_ | refine sn_ ?_
  replace hg := leave hg hn1
  refine sr_ 17 25 hU ?_
  refine go_ ?_
  refine ch_n fun hU => ?_
  refine aw_r ?_
  obtain rfl := Option.some.inj hg
  exact fin_ [(0, 0)] ⟨rfl, rfl⟩
theorem w_slices_partitionEqualCmpFunc_api_Entry_clo_16_0_ (data : List api_Entry) (a : Int) (b : Int) (pivot : Int) (cmp : api_Entry → api_Entry → Option (Int)) (hf_cmp : ∀ (x0 : api_Entry) (x1 : api_Entry) (y : Int), cmp x0 x1 = some y → Fn Try.prog 16 0 [.agg (api_Entry.dv x0), .agg (api_Entry.dv x1)] [] (fun d' b' => d' = .val (.int .i64 y) ∧ b' = [])) (r : Int × (List api_Entry)) (hg : g_slices_partitionEqualCmpFunc_api_Entry data a b pivot cmp = some r) : Fn Try.prog 49 1 [.row 0, .val (.int .i64 a), .val (.int .i64 b), .val (.int .i64 pivot), .clo 16 0 []] [.row 28 6 (encL api_Entry.enc data)] (fun d' b' => d' = .val (.int .i64 r.1) ∧ b' = [.row 28 6 (encL api_Entry.enc r.2)]) := by
 unfold g_slices_partitionEqualCmpFunc_api_Entry at hg
 refine Fn.of Try.func49 rfl rfl rfl fun w0 I ρ0 => ?_
 show awp _ ⟨w0, I, ρ0, 1, 1, 90⟩ _ _ _
 refine sr_ 1 9 mk_U ?_
 refine go_ ?_
 refine ch_n fun hU => ?_
 refine awp_seq ?_
 refine awp_draw (sys _ _ []) (by kernel_rfl) [0, 0, 0, 0, 0, 0, 48, 112, 0, 0, 768, 1792, 4083, 8179, 16383, 32767] 9 137 hU rfl rfl (by kernel_rfl) ?_
 refine go_ ?_
 obtain ⟨e, he, hg⟩ := bind_some hg
 refine go_ ?_
 refine ch_s (rd := [0]) rfl rfl (r_loadRA ty28 (enc_cells api_Entry.enc_len (getI_at he) (o := 0) (m := 6) (cs := [.str e.Alias, .int .i64 e.Key.Alg, .int .i64 e.Key.Bits, .int .i64 e.KeyId, .bool e.Secret, .sl 15 (encL api_Certificate.enc e.Chain)]) rfl (by decide) rfl) (enc_cells_le api_Entry.enc_len (getI_at he) (o := 0) (m := 6) (by decide) rfl)) rfl rfl ?_
 refine go_ ?_
 obtain ⟨e_2, he_2, hg⟩ := bind_some hg
 refine go_ ?_
 refine ch_s (rd := [0]) rfl rfl (r_loadRA ty28 (enc_cells api_Entry.enc_len (getI_at he_2) (o := 0) (m := 6) (cs := [.str e_2.Alias, .int .i64 e_2.Key.Alg, .int .i64 e_2.Key.Bits, .int .i64 e_2.KeyId, .bool e_2.Secret, .sl 15 (encL api_Certificate.enc e_2.Chain)]) rfl (by decide) rfl) (enc_cells_le api_Entry.enc_len (getI_at he_2) (o := 0) (m := 6) (by decide) rfl)) rfl rfl ?_
 refine go_ ?_
 refine ch_s (rd := [0]) rfl rfl (r_storeR ty28 rfl (enc_cells_le api_Entry.enc_len (getI_at he_2) (o := 0) (m := 6) (by decide) rfl) ck28 (cs' := [.str e.Alias, .int .i64 e.Key.Alg, .int .i64 e.Key.Bits, .int .i64 e.KeyId, .bool e.Secret, .sl 15 (encL api_Certificate.enc e.Chain)]) (.cons .str (.cons .int (.cons .int (.cons .int (.cons .bool (.cons .sl .nil)))))) (enc_splice api_Entry.enc_len (getI_at he_2) (o := 0) (x' := e) (Nat.le_of_ble_eq_true rfl) rfl rfl)) rfl rfl ?_
 obtain ⟨e_3, he_3, hg⟩ := bind_some hg
 refine go_ ?_
 refine ch_s (rd := [0]) rfl rfl (r_storeR ty28 rfl (enc_cells_le api_Entry.enc_len (getI_at he_3) (o := 0) (m := 6) (by decide) rfl) ck28 (cs' := [.str e_2.Alias, .int .i64 e_2.Key.Alg, .int .i64 e_2.Key.Bits, .int .i64 e_2.KeyId, .bool e_2.Secret, .sl 15 (encL api_Certificate.enc e_2.Chain)]) (.cons .str (.cons .int (.cons .int (.cons .int (.cons .bool (.cons .sl .nil)))))) (enc_splice api_Entry.enc_len (getI_at he_3) (o := 0) (x' := e_2) (Nat.le_of_ble_eq_true rfl) rfl rfl)) rfl rfl ?_
 refine ch_n fun hU => ?_
 refine sr_ 137 185 hU ?_
 refine go_ ?_
 refine ch_n fun hU => ?_
 refine awp_seq ?_
 refine awp_block ?_
 refine lp_ (fun ((i_1, j_1, data_1) : Int × Int × List api_Entry) => mk [(0, .row 0), (1, .val (.int .i64 a)), (4, .clo 16 0 []), (11, .val (.int .i64 i_1)), (12, .val (.int .i64 j_1))] [(0, .row 28 6 (encL api_Entry.enc data_1))] 1) hg (sub_ [(0, 0)]) ?_
 rintro ⟨i_1, j_1, data_1⟩ m1 o1 hg hn1
 replace hg : g_slices_partitionEqualCmpFunc_api_Entry.l1 a cmp i_1 j_1 data_1 = some o1 := hg
 show awp _ _ _ _ (mk _ _ _)
 unfold g_slices_partitionEqualCmpFunc_api_Entry.l1 at hg
 refine awp_block ?_
 refine awp_seq ?_
 refine awp_block ?_
 refine lp_ (fun (i_2 : Int) => mk [(0, .row 0), (1, .val (.int .i64 a)), (4, .clo 16 0 []), (11, .val (.int .i64 i_2)), (12, .val (.int .i64 j_1))] [(0, .row 28 6 (encL api_Entry.enc data_1))] 1) hg (sub_ [(0, 0)]) ?_
 rintro i_2 m2 o2 hg hn2
 replace hg : g_slices_partitionEqualCmpFunc_api_Entry.l2 a cmp j_1 data_1 i_2 = some o2 := hg
 show awp _ _ _ _ (mk _ _ _)
 unfold g_slices_partitionEqualCmpFunc_api_Entry.l2 at hg
 refine awp_seq ?_
 refine awp_cut (ι := Bool) (fun (x47_3 : Bool) => mk [(0, .row 0), (1, .val (.int .i64 a)), (4, .clo 16 0 []), (11, .val (.int .i64 i_2)), (12, .val (.int .i64 j_1)), (47, .val (.bool x47_3))] [(0, .row 28 6 (encL api_Entry.enc data_1))] 1) (fun (x47_3 : Bool) => g_slices_partitionEqualCmpFunc_api_Entry.j3 a cmp j_1 data_1 i_2 x47_3 = some o2) ?_ ?_
 ·refine awp_draw (sys _ _ []) (by kernel_rfl) [0, 0, 3, 7, 15, 15, 15, 111, 239, 15, 15, 1551, 3599, 8191, 16383, 32767, 65535] 1 137 mk_U rfl rfl (by kernel_rfl) ?_
  refine go_ ?_
  rcases bc_ hg with ⟨h4, hg⟩ | ⟨h4, hg⟩
  ·refine go_ ?_
   obtain ⟨e_4, he_4, hg⟩ := bind_some hg
   refine go_ ?_
   refine ch_s (rd := [0]) (gdv_t rfl rfl h4) rfl (r_loadRA ty28 (enc_cells api_Entry.enc_len (getI_at he_4) (o := 0) (m := 6) (cs := [.str e_4.Alias, .int .i64 e_4.Key.Alg, .int .i64 e_4.Key.Bits, .int .i64 e_4.KeyId, .bool e_4.Secret, .sl 15 (encL api_Certificate.enc e_4.Chain)]) rfl (by decide) rfl) (enc_cells_le api_Entry.enc_len (getI_at he_4) (o := 0) (m := 6) (by decide) rfl)) rfl rfl ?_
   refine go_ ?_
   obtain ⟨e_5, he_5, hg⟩ := bind_some hg
   refine go_ ?_
   refine ch_s (rd := [0]) (gdv_t rfl rfl h4) rfl (r_loadRA ty28 (enc_cells api_Entry.enc_len (getI_at he_5) (o := 0) (m := 6) (cs := [.str e_5.Alias, .int .i64 e_5.Key.Alg, .int .i64 e_5.Key.Bits, .int .i64 e_5.KeyId, .bool e_5.Secret, .sl 15 (encL api_Certificate.enc e_5.Chain)]) rfl (by decide) rfl) (enc_cells_le api_Entry.enc_len (getI_at he_5) (o := 0) (m := 6) (by decide) rfl)) rfl rfl ?_
   obtain ⟨y, hy, hg⟩ := bind_some hg
   refine ch_callCP (rd := []) (ps := []) (gs := []) false (gdv_t rfl rfl h4) rfl (hf_cmp e_4 e_5 _ hy) rfl rfl (.cons (.agg (.cons .val (.cons .val (.cons .val (.cons .val (.cons .val (.cons .sl .nil))))))) (.cons (.agg (.cons .val (.cons .val (.cons .val (.cons .val (.cons .val (.cons .sl .nil))))))) .nil)) rfl rfl (by intro h; cases h) rfl rfl rfl rfl ?_
   refine go_ ?_
   refine ch_n fun hU => ?_
   exact ⟨!(decide (y < 0)), hg, sub_ [(0, 0)]⟩
  ·refine go_ ?_
   refine ch_n fun hU => ?_
   exact ⟨false, hg, sub_ [(0, 0)]⟩
 ·rintro x47_3 hg
  replace hg : g_slices_partitionEqualCmpFunc_api_Entry.j3 a cmp j_1 data_1 i_2 x47_3 = some o2 := hg
  show awp _ _ _ _ (mk _ _ _)
  unfold g_slices_partitionEqualCmpFunc_api_Entry.j3 at hg
  refine cg_ rfl hg (fun h7 hg => ?_) fun h7 hg => ?_
  ·refine awp_skip ?_
   repeat first | refine st_ ?_ | refine sn_ ?_
   refine awp_block ?_
   refine awp_region (sys _ _ []) 1 25 mk_U rfl rfl ?_
   refine go_ ?_
   refine ch_n fun hU => ?_
   obtain rfl := Option.some.inj hg
   exact ⟨(W (i_2 + 1), m2), Nat.lt_succ_self _, hn2, sub_ [(0, 0)]⟩
  ·refine awp_exit ?_
   repeat first | refine st_ ?_ | refine sn_ ?_
   replace hg := leave hg hn2
   refine awp_seq ?_
   refine awp_block ?_
   refine lp_ (fun (j_4 : Int) => mk [(0, .row 0), (1, .val (.int .i64 a)), (4, .clo 16 0 []), (11, .val (.int .i64 i_2)), (12, .val (.int .i64 j_4))] [(0, .row 28 6 (encL api_Entry.enc data_1))] 1) hg (sub_ [(0, 0)]) ?_
   rintro j_4 m4 o4 hg hn4
   replace hg : g_slices_partitionEqualCmpFunc_api_Entry.l4 a cmp data_1 i_2 j_4 = some o4 := hg
   show awp _ _ _ _ (mk _ _ _)
   unfold g_slices_partitionEqualCmpFunc_api_Entry.l4 at hg
   refine awp_seq ?_
   refine awp_cut (ι := Bool) (fun (x65_5 : Bool) => mk [(0, .row 0), (1, .val (.int .i64 a)), (4, .clo 16 0 []), (11, .val (.int .i64 i_2)), (12, .val (.int .i64 j_4)), (65, .val (.bool x65_5))] [(0, .row 28 6 (encL api_Entry.enc data_1))] 1) (fun (x65_5 : Bool) => g_slices_partitionEqualCmpFunc_api_Entry.j5 data_1 i_2 j_4 x65_5 = some o4) ?_ ?_
   ·refine awp_draw (sys _ _ []) (by kernel_rfl) [0, 0, 3, 7, 15, 15, 15, 111, 239, 15, 15, 1551, 3599, 8191, 16383, 32767] 1 129 mk_U rfl rfl (by kernel_rfl) ?_
    refine go_ ?_
    rcases bc_ hg with ⟨h9, hg⟩ | ⟨h9, hg⟩
    ·refine go_ ?_
     obtain ⟨e_6, he_6, hg⟩ := bind_some hg
     refine go_ ?_
     refine ch_s (rd := [0]) (gdv_t rfl rfl h9) rfl (r_loadRA ty28 (enc_cells api_Entry.enc_len (getI_at he_6) (o := 0) (m := 6) (cs := [.str e_6.Alias, .int .i64 e_6.Key.Alg, .int .i64 e_6.Key.Bits, .int .i64 e_6.KeyId, .bool e_6.Secret, .sl 15 (encL api_Certificate.enc e_6.Chain)]) rfl (by decide) rfl) (enc_cells_le api_Entry.enc_len (getI_at he_6) (o := 0) (m := 6) (by decide) rfl)) rfl rfl ?_
     refine go_ ?_
     obtain ⟨e_7, he_7, hg⟩ := bind_some hg
     refine go_ ?_
     refine ch_s (rd := [0]) (gdv_t rfl rfl h9) rfl (r_loadRA ty28 (enc_cells api_Entry.enc_len (getI_at he_7) (o := 0) (m := 6) (cs := [.str e_7.Alias, .int .i64 e_7.Key.Alg, .int .i64 e_7.Key.Bits, .int .i64 e_7.KeyId, .bool e_7.Secret, .sl 15 (encL api_Certificate.enc e_7.Chain)]) rfl (by decide) rfl) (enc_cells_le api_Entry.enc_len (getI_at he_7) (o := 0) (m := 6) (by decide) rfl)) rfl rfl ?_
     obtain ⟨y_2, hy_2, hg⟩ := bind_some hg
     refine ch_callCP (rd := []) (ps := []) (gs := []) false (gdv_t rfl rfl h9) rfl (hf_cmp e_6 e_7 _ hy_2) rfl rfl (.cons (.agg (.cons .val (.cons .val (.cons .val (.cons .val (.cons .val (.cons .sl .nil))))))) (.cons (.agg (.cons .val (.cons .val (.cons .val (.cons .val (.cons .val (.cons .sl .nil))))))) .nil)) rfl rfl (by intro h; cases h) rfl rfl rfl rfl ?_
     refine go_ ?_
     refine ch_n fun hU => ?_
     exact ⟨decide (y_2 < 0), hg, sub_ [(0, 0)]⟩
    ·refine go_ ?_
     refine ch_n fun hU => ?_
     exact ⟨false, hg, sub_ [(0, 0)]⟩
   ·rintro x65_5 hg
    replace hg : g_slices_partitionEqualCmpFunc_api_Entry.j5 data_1 i_2 j_4 x65_5 = some o4 := hg
    show awp _ _ _ _ (mk _ _ _)
    unfold g_slices_partitionEqualCmpFunc_api_Entry.j5 at hg
    refine cg_ rfl hg (fun h12 hg => ?_) fun h12 hg => ?_
    ·refine awp_skip ?_
     repeat first | refine st_ ?_ | refine sn_ ?_
     refine awp_block ?_
     refine awp_region (sys _ _ []) 1 25 mk_U rfl rfl ?_
     refine go_ ?_
     refine ch_n fun hU => ?_
     obtain rfl := Option.some.inj hg
     exact ⟨(W (j_4 - 1), m4), Nat.lt_succ_self _, hn4, sub_ [(0, 0)]⟩
    ·refine awp_exit ?_
     repeat first | refine st_ ?_ | refine sn_ ?_
     replace hg := leave hg hn4
     refine awp_seq ?_
     refine sr_ 1 25 mk_U ?_
     refine go_ ?_
     refine ch_n fun hU => ?_
     refine cg_ rfl hg (fun h15 hg => ?_) fun h15 hg => ?_
     ·refine awp_exit ?_
      repeat first | refine st_ ?_ | refine sn_ ?_
      replace hg := leave hg hn1
      refine sr_ 25 41 hU ?_
      refine go_ ?_
      refine ch_n fun hU => ?_
      refine aw_r ?_
      obtain rfl := Option.some.inj hg
      exact fin_ [(0, 0)] ⟨rfl, rfl⟩
     ·refine awp_skip ?_
      repeat first | refine st_ ?_ | refine sn_ ?_
      refine awp_seq ?_
      refine awp_draw (sys _ _ []) (by kernel_rfl) [0, 0, 0, 0, 0, 0, 48, 112, 0, 0, 768, 1792, 4083, 8179, 16383, 32767] 25 153 hU rfl rfl (by kernel_rfl) ?_
      refine go_ ?_
      obtain ⟨e_8, he_8, hg⟩ := bind_some hg
      refine go_ ?_
      refine ch_s (rd := [0]) rfl rfl (r_loadRA ty28 (enc_cells api_Entry.enc_len (getI_at he_8) (o := 0) (m := 6) (cs := [.str e_8.Alias, .int .i64 e_8.Key.Alg, .int .i64 e_8.Key.Bits, .int .i64 e_8.KeyId, .bool e_8.Secret, .sl 15 (encL api_Certificate.enc e_8.Chain)]) rfl (by decide) rfl) (enc_cells_le api_Entry.enc_len (getI_at he_8) (o := 0) (m := 6) (by decide) rfl)) rfl rfl ?_
      refine go_ ?_
      obtain ⟨e_9, he_9, hg⟩ := bind_some hg
      refine go_ ?_
      refine ch_s (rd := [0]) rfl rfl (r_loadRA ty28 (enc_cells api_Entry.enc_len (getI_at he_9) (o := 0) (m := 6) (cs := [.str e_9.Alias, .int .i64 e_9.Key.Alg, .int .i64 e_9.Key.Bits, .int .i64 e_9.KeyId, .bool e_9.Secret, .sl 15 (encL api_Certificate.enc e_9.Chain)]) rfl (by decide) rfl) (enc_cells_le api_Entry.enc_len (getI_at he_9) (o := 0) (m := 6) (by decide) rfl)) rfl rfl ?_
      refine go_ ?_
      refine ch_s (rd := [0]) rfl rfl (r_storeR ty28 rfl (enc_cells_le api_Entry.enc_len (getI_at he_9) (o := 0) (m := 6) (by decide) rfl) ck28 (cs' := [.str e_8.Alias, .int .i64 e_8.Key.Alg, .int .i64 e_8.Key.Bits, .int .i64 e_8.KeyId, .bool e_8.Secret, .sl 15 (encL api_Certificate.enc e_8.Chain)]) (.cons .str (.cons .int (.cons .int (.cons .int (.cons .bool (.cons .sl .nil)))))) (enc_splice api_Entry.enc_len (getI_at he_9) (o := 0) (x' := e_8) (Nat.le_of_ble_eq_true rfl) rfl rfl)) rfl rfl ?_
      obtain ⟨e_10, he_10, hg⟩ := bind_some hg
      refine go_ ?_
      refine ch_s (rd := [0]) rfl rfl (r_storeR ty28 rfl (enc_cells_le api_Entry.enc_len (getI_at he_10) (o := 0) (m := 6) (by decide) rfl) ck28 (cs' := [.str e_9.Alias, .int .i64 e_9.Key.Alg, .int .i64 e_9.Key.Bits, .int .i64 e_9.KeyId, .bool e_9.Secret, .sl 15 (encL api_Certificate.enc e_9.Chain)]) (.cons .str (.cons .int (.cons .int (.cons .int (.cons .bool (.cons .sl .nil)))))) (enc_splice api_Entry.enc_len (getI_at he_10) (o := 0) (x' := e_9) (Nat.le_of_ble_eq_true rfl) rfl rfl)) rfl rfl ?_
      refine ch_n fun hU => ?_
      refine sr_ 153 177 hU ?_
      refine go_ ?_
      refine ch_n fun hU => ?_
      refine awp_region (sys _ _ []) 177 201 hU rfl rfl ?_
      refine go_ ?_
      refine ch_n fun hU => ?_
      obtain rfl := Option.some.inj hg
      exact ⟨((W (i_2 + 1), W (j_4 - 1), setI (setI data_1 ((i_2).toNat) e_8) ((j_4).toNat) e_9), m1), Nat.lt_succ_self _, hn1, sub_ [(0, 0)]⟩
theorem w_slices_partitionCmpFunc_api_Entry_clo_16_0_ (data : List api_Entry) (a : Int) (b : Int) (pivot : Int) (cmp : api_Entry → api_Entry → Option (Int)) (hf_cmp : ∀ (x0 : api_Entry) (x1 : api_Entry) (y : Int), cmp x0 x1 = some y → Fn Try.prog 16 0 [.agg (api_Entry.dv x0), .agg (api_Entry.dv x1)] [] (fun d' b' => d' = .val (.int .i64 y) ∧ b' = [])) (r : Int × Bool × (List api_Entry)) (hg : g_slices_partitionCmpFunc_api_Entry data a b pivot cmp = some r) : Fn Try.prog 50 1 [.row 0, .val (.int .i64 a), .val (.int .i64 b), .val (.int .i64 pivot), .clo 16 0 []] [.row 28 6 (encL api_Entry.enc data)] (fun d' b' => d' = .tup [.val (.int .i64 r.1), .val (.bool r.2.1)] ∧ b' = [.row 28 6 (encL api_Entry.enc r.2.2)]) := by
 unfold g_slices_partitionCmpFunc_api_Entry at hg
 refine Fn.of Try.func50 rfl rfl rfl fun w0 I ρ0 => ?_
 show awp _ ⟨w0, I, ρ0, 1, 1, 178⟩ _ _ _
 refine sr_ 1 17 mk_U ?_
 refine go_ ?_
 refine ch_n fun hU => ?_
 refine awp_seq ?_
 refine awp_draw (sys _ _ []) (by kernel_rfl) [0, 0, 0, 0, 0, 0, 48, 112, 0, 0, 768, 1792, 4083, 8179, 16383, 32767] 17 145 hU rfl rfl (by kernel_rfl) ?_
 refine go_ ?_
 obtain ⟨e, he, hg⟩ := bind_some hg
 refine go_ ?_
 refine ch_s (rd := [0]) rfl rfl (r_loadRA ty28 (enc_cells api_Entry.enc_len (getI_at he) (o := 0) (m := 6) (cs := [.str e.Alias, .int .i64 e.Key.Alg, .int .i64 e.Key.Bits, .int .i64 e.KeyId, .bool e.Secret, .sl 15 (encL api_Certificate.enc e.Chain)]) rfl (by decide) rfl) (enc_cells_le api_Entry.enc_len (getI_at he) (o := 0) (m := 6) (by decide) rfl)) rfl rfl ?_
 refine go_ ?_
 obtain ⟨e_2, he_2, hg⟩ := bind_some hg
 refine go_ ?_
 refine ch_s (rd := [0]) rfl rfl (r_loadRA ty28 (enc_cells api_Entry.enc_len (getI_at he_2) (o := 0) (m := 6) (cs := [.str e_2.Alias, .int .i64 e_2.Key.Alg, .int .i64 e_2.Key.Bits, .int .i64 e_2.KeyId, .bool e_2.Secret, .sl 15 (encL api_Certificate.enc e_2.Chain)]) rfl (by decide) rfl) (enc_cells_le api_Entry.enc_len (getI_at he_2) (o := 0) (m := 6) (by decide) rfl)) rfl rfl ?_
 refine go_ ?_
 refine ch_s (rd := [0]) rfl rfl (r_storeR ty28 rfl (enc_cells_le api_Entry.enc_len (getI_at he_2) (o := 0) (m := 6) (by decide) rfl) ck28 (cs' := [.str e.Alias, .int .i64 e.Key.Alg, .int .i64 e.Key.Bits, .int .i64 e.KeyId, .bool e.Secret, .sl 15 (encL api_Certificate.enc e.Chain)]) (.cons .str (.cons .int (.cons .int (.cons .int (.cons .bool (.cons .sl .nil)))))) (enc_splice api_Entry.enc_len (getI_at he_2) (o := 0) (x' := e) (Nat.le_of_ble_eq_true rfl) rfl rfl)) rfl rfl ?_
 obtain ⟨e_3, he_3, hg⟩ := bind_some hg
 refine go_ ?_
 refine ch_s (rd := [0]) rfl rfl (r_storeR ty28 rfl (enc_cells_le api_Entry.enc_len (getI_at he_3) (o := 0) (m := 6) (by decide) rfl) ck28 (cs' := [.str e_2.Alias, .int .i64 e_2.Key.Alg, .int .i64 e_2.Key.Bits, .int .i64 e_2.KeyId, .bool e_2.Secret, .sl 15 (encL api_Certificate.enc e_2.Chain)]) (.cons .str (.cons .int (.cons .int (.cons .int (.cons .bool (.cons .sl .nil)))))) (enc_splice api_Entry.enc_len (getI_at he_3) (o := 0) (x' := e_2) (Nat.le_of_ble_eq_true rfl) rfl rfl)) rfl rfl ?_
 refine ch_n fun hU => ?_
 refine sr_ 145 193 hU ?_
 refine go_ ?_
 refine ch_n fun hU => ?_
 refine awp_seq ?_
 refine awp_block ?_
 refine lp_ (fun (i_1 : Int) => mk [(0, .row 0), (1, .val (.int .i64 a)), (4, .clo 16 0 []), (12, .val (.int .i64 i_1)), (13, .val (.int .i64 (W (b - 1))))] [(0, .row 28 6 (encL api_Entry.enc (setI (setI data ((a).toNat) e) ((pivot).toNat) e_2)))] 1) hg (sub_ [(0, 0)]) ?_
 rintro i_1 m1 o1 hg hn1
 replace hg : g_slices_partitionCmpFunc_api_Entry.l1 data a b pivot cmp e e_2 i_1 = some o1 := hg
 show awp _ _ _ _ (mk _ _ _)
 unfold g_slices_partitionCmpFunc_api_Entry.l1 at hg
 refine awp_seq ?_
 refine awp_cut (ι := Bool) (fun (x47_2 : Bool) => mk [(0, .row 0), (1, .val (.int .i64 a)), (4, .clo 16 0 []), (12, .val (.int .i64 i_1)), (13, .val (.int .i64 (W (b - 1)))), (47, .val (.bool x47_2))] [(0, .row 28 6 (encL api_Entry.enc (setI (setI data ((a).toNat) e) ((pivot).toNat) e_2)))] 1) (fun (x47_2 : Bool) => g_slices_partitionCmpFunc_api_Entry.j2 data a b pivot cmp e e_2 i_1 x47_2 = some o1) ?_ ?_
 ·refine awp_draw (sys _ _ []) (by kernel_rfl) [0, 0, 3, 7, 15, 15, 15, 111, 239, 15, 15, 1551, 3599, 8191, 16383, 32767] 1 129 mk_U rfl rfl (by kernel_rfl) ?_
  refine go_ ?_
  rcases bc_ hg with ⟨h4, hg⟩ | ⟨h4, hg⟩
  ·refine go_ ?_
   obtain ⟨e_4, he_4, hg⟩ := bind_some hg
   refine go_ ?_
   refine ch_s (rd := [0]) (gdv_t rfl rfl h4) rfl (r_loadRA ty28 (enc_cells api_Entry.enc_len (getI_at he_4) (o := 0) (m := 6) (cs := [.str e_4.Alias, .int .i64 e_4.Key.Alg, .int .i64 e_4.Key.Bits, .int .i64 e_4.KeyId, .bool e_4.Secret, .sl 15 (encL api_Certificate.enc e_4.Chain)]) rfl (by decide) rfl) (enc_cells_le api_Entry.enc_len (getI_at he_4) (o := 0) (m := 6) (by decide) rfl)) rfl rfl ?_
   refine go_ ?_
   obtain ⟨e_5, he_5, hg⟩ := bind_some hg
   refine go_ ?_
   refine ch_s (rd := [0]) (gdv_t rfl rfl h4) rfl (r_loadRA ty28 (enc_cells api_Entry.enc_len (getI_at he_5) (o := 0) (m := 6) (cs := [.str e_5.Alias, .int .i64 e_5.Key.Alg, .int .i64 e_5.Key.Bits, .int .i64 e_5.KeyId, .bool e_5.Secret, .sl 15 (encL api_Certificate.enc e_5.Chain)]) rfl (by decide) rfl) (enc_cells_le api_Entry.enc_len (getI_at he_5) (o := 0) (m := 6) (by decide) rfl)) rfl rfl ?_
   obtain ⟨y, hy, hg⟩ := bind_some hg
   refine ch_callCP (rd := []) (ps := []) (gs := []) false (gdv_t rfl rfl h4) rfl (hf_cmp e_4 e_5 _ hy) rfl rfl (.cons (.agg (.cons .val (.cons .val (.cons .val (.cons .val (.cons .val (.cons .sl .nil))))))) (.cons (.agg (.cons .val (.cons .val (.cons .val (.cons .val (.cons .val (.cons .sl .nil))))))) .nil)) rfl rfl (by intro h; cases h) rfl rfl rfl rfl ?_
   refine go_ ?_
   refine ch_n fun hU => ?_
   exact ⟨decide (y < 0), hg, sub_ [(0, 0)]⟩
  ·refine go_ ?_
   refine ch_n fun hU => ?_
   exact ⟨false, hg, sub_ [(0, 0)]⟩
 ·rintro x47_2 hg
  replace hg : g_slices_partitionCmpFunc_api_Entry.j2 data a b pivot cmp e e_2 i_1 x47_2 = some o1 := hg
  show awp _ _ _ _ (mk _ _ _)
  unfold g_slices_partitionCmpFunc_api_Entry.j2 at hg
  refine cg_ rfl hg (fun h7 hg => ?_) fun h7 hg => ?_
  ·refine awp_skip ?_
   repeat first | refine st_ ?_ | refine sn_ ?_
   refine awp_block ?_
   refine awp_region (sys _ _ []) 1 25 mk_U rfl rfl ?_
   refine go_ ?_
   refine ch_n fun hU => ?_
   obtain rfl := Option.some.inj hg
   exact ⟨(W (i_1 + 1), m1), Nat.lt_succ_self _, hn1, sub_ [(0, 0)]⟩
  ·refine awp_exit ?_
   repeat first | refine st_ ?_ | refine sn_ ?_
   replace hg := leave hg hn1
   refine awp_seq ?_
   refine awp_block ?_
   refine lp_ (fun (j_3 : Int) => mk [(0, .row 0), (1, .val (.int .i64 a)), (4, .clo 16 0 []), (12, .val (.int .i64 i_1)), (13, .val (.int .i64 j_3))] [(0, .row 28 6 (encL api_Entry.enc (setI (setI data ((a).toNat) e) ((pivot).toNat) e_2)))] 1) hg (sub_ [(0, 0)]) ?_
   rintro j_3 m3 o3 hg hn3
   replace hg : g_slices_partitionCmpFunc_api_Entry.l3 data a pivot cmp e e_2 i_1 j_3 = some o3 := hg
   show awp _ _ _ _ (mk _ _ _)
   unfold g_slices_partitionCmpFunc_api_Entry.l3 at hg
   refine awp_seq ?_
   refine awp_cut (ι := Bool) (fun (x66_4 : Bool) => mk [(0, .row 0), (1, .val (.int .i64 a)), (4, .clo 16 0 []), (12, .val (.int .i64 i_1)), (13, .val (.int .i64 j_3)), (66, .val (.bool x66_4))] [(0, .row 28 6 (encL api_Entry.enc (setI (setI data ((a).toNat) e) ((pivot).toNat) e_2)))] 1) (fun (x66_4 : Bool) => g_slices_partitionCmpFunc_api_Entry.j4 data a pivot cmp e e_2 i_1 j_3 x66_4 = some o3) ?_ ?_
   ·refine awp_draw (sys _ _ []) (by kernel_rfl) [0, 0, 3, 7, 15, 15, 15, 111, 239, 15, 15, 1551, 3599, 8191, 16383, 32767, 65535] 1 137 mk_U rfl rfl (by kernel_rfl) ?_
    refine go_ ?_
    rcases bc_ hg with ⟨h9, hg⟩ | ⟨h9, hg⟩
    ·refine go_ ?_
     obtain ⟨e_6, he_6, hg⟩ := bind_some hg
     refine go_ ?_
     refine ch_s (rd := [0]) (gdv_t rfl rfl h9) rfl (r_loadRA ty28 (enc_cells api_Entry.enc_len (getI_at he_6) (o := 0) (m := 6) (cs := [.str e_6.Alias, .int .i64 e_6.Key.Alg, .int .i64 e_6.Key.Bits, .int .i64 e_6.KeyId, .bool e_6.Secret, .sl 15 (encL api_Certificate.enc e_6.Chain)]) rfl (by decide) rfl) (enc_cells_le api_Entry.enc_len (getI_at he_6) (o := 0) (m := 6) (by decide) rfl)) rfl rfl ?_
     refine go_ ?_
     obtain ⟨e_7, he_7, hg⟩ := bind_some hg
     refine go_ ?_
     refine ch_s (rd := [0]) (gdv_t rfl rfl h9) rfl (r_loadRA ty28 (enc_cells api_Entry.enc_len (getI_at he_7) (o := 0) (m := 6) (cs := [.str e_7.Alias, .int .i64 e_7.Key.Alg, .int .i64 e_7.Key.Bits, .int .i64 e_7.KeyId, .bool e_7.Secret, .sl 15 (encL api_Certificate.enc e_7.Chain)]) rfl (by decide) rfl) (enc_cells_le api_Entry.enc_len (getI_at he_7) (o := 0) (m := 6) (by decide) rfl)) rfl rfl ?_
     obtain ⟨y_2, hy_2, hg⟩ := bind_some hg
     refine ch_callCP (rd := []) (ps := []) (gs := []) false (gdv_t rfl rfl h9) rfl (hf_cmp e_6 e_7 _ hy_2) rfl rfl (.cons (.agg (.cons .val (.cons .val (.cons .val (.cons .val (.cons .val (.cons .sl .nil))))))) (.cons (.agg (.cons .val (.cons .val (.cons .val (.cons .val (.cons .val (.cons .sl .nil))))))) .nil)) rfl rfl (by intro h; cases h) rfl rfl rfl rfl ?_
     refine go_ ?_
     refine ch_n fun hU => ?_
     exact ⟨!(decide (y_2 < 0)), hg, sub_ [(0, 0)]⟩
    ·refine go_ ?_
     refine ch_n fun hU => ?_
     exact ⟨false, hg, sub_ [(0, 0)]⟩
   ·rintro x66_4 hg
    replace hg : g_slices_partitionCmpFunc_api_Entry.j4 data a pivot cmp e e_2 i_1 j_3 x66_4 = some o3 := hg
    show awp _ _ _ _ (mk _ _ _)
    unfold g_slices_partitionCmpFunc_api_Entry.j4 at hg
    refine cg_ rfl hg (fun h12 hg => ?_) fun h12 hg => ?_
    ·refine awp_skip ?_
     repeat first | refine st_ ?_ | refine sn_ ?_
     refine awp_block ?_
     refine awp_region (sys _ _ []) 1 25 mk_U rfl rfl ?_
     refine go_ ?_
     refine ch_n fun hU => ?_
     obtain rfl := Option.some.inj hg
     exact ⟨(W (j_3 - 1), m3), Nat.lt_succ_self _, hn3, sub_ [(0, 0)]⟩
    ·refine awp_exit ?_
     repeat first | refine st_ ?_ | refine sn_ ?_
     replace hg := leave hg hn3
     refine awp_seq ?_
     refine sr_ 1 25 mk_U ?_
     refine go_ ?_
     refine ch_n fun hU => ?_
     refine cg_ rfl hg (fun h15 hg => ?_) fun h15 hg => ?_
     ·refine awp_seq ?_
      refine awp_draw (sys _ _ []) (by kernel_rfl) [0, 0, 0, 0, 0, 0, 48, 112, 0, 0, 768, 1792, 4083, 8179, 16383, 32767] 25 153 hU rfl rfl (by kernel_rfl) ?_
      refine go_ ?_
      obtain ⟨e_8, he_8, hg⟩ := bind_some hg
      refine go_ ?_
      refine ch_s (rd := [0]) rfl rfl (r_loadRA ty28 (enc_cells api_Entry.enc_len (getI_at he_8) (o := 0) (m := 6) (cs := [.str e_8.Alias, .int .i64 e_8.Key.Alg, .int .i64 e_8.Key.Bits, .int .i64 e_8.KeyId, .bool e_8.Secret, .sl 15 (encL api_Certificate.enc e_8.Chain)]) rfl (by decide) rfl) (enc_cells_le api_Entry.enc_len (getI_at he_8) (o := 0) (m := 6) (by decide) rfl)) rfl rfl ?_
      refine go_ ?_
      obtain ⟨e_9, he_9, hg⟩ := bind_some hg
      refine go_ ?_
      refine ch_s (rd := [0]) rfl rfl (r_loadRA ty28 (enc_cells api_Entry.enc_len (getI_at he_9) (o := 0) (m := 6) (cs := [.str e_9.Alias, .int .i64 e_9.Key.Alg, .int .i64 e_9.Key.Bits, .int .i64 e_9.KeyId, .bool e_9.Secret, .sl 15 (encL api_Certificate.enc e_9.Chain)]) rfl (by decide) rfl) (enc_cells_le api_Entry.enc_len (getI_at he_9) (o := 0) (m := 6) (by decide) rfl)) rfl rfl ?_
      refine go_ ?_
      refine ch_s (rd := [0]) rfl rfl (r_storeR ty28 rfl (enc_cells_le api_Entry.enc_len (getI_at he_9) (o := 0) (m := 6) (by decide) rfl) ck28 (cs' := [.str e_8.Alias, .int .i64 e_8.Key.Alg, .int .i64 e_8.Key.Bits, .int .i64 e_8.KeyId, .bool e_8.Secret, .sl 15 (encL api_Certificate.enc e_8.Chain)]) (.cons .str (.cons .int (.cons .int (.cons .int (.cons .bool (.cons .sl .nil)))))) (enc_splice api_Entry.enc_len (getI_at he_9) (o := 0) (x' := e_8) (Nat.le_of_ble_eq_true rfl) rfl rfl)) rfl rfl ?_
      obtain ⟨e_10, he_10, hg⟩ := bind_some hg
      refine go_ ?_
      refine ch_s (rd := [0]) rfl rfl (r_storeR ty28 rfl (enc_cells_le api_Entry.enc_len (getI_at he_10) (o := 0) (m := 6) (by decide) rfl) ck28 (cs' := [.str e_9.Alias, .int .i64 e_9.Key.Alg, .int .i64 e_9.Key.Bits, .int .i64 e_9.KeyId, .bool e_9.Secret, .sl 15 (encL api_Certificate.enc e_9.Chain)]) (.cons .str (.cons .int (.cons .int (.cons .int (.cons .bool (.cons .sl .nil)))))) (enc_splice api_Entry.enc_len (getI_at he_10) (o := 0) (x' := e_9) (Nat.le_of_ble_eq_true rfl) rfl rfl)) rfl rfl ?_
      refine ch_n fun hU => ?_
      refine sr_ 153 177 hU ?_
      refine go_ ?_
      refine ch_n fun hU => ?_
      refine aw_r ?_
      obtain rfl := Option.some.inj hg
      exact fin_ [(0, 0)] ⟨rfl, rfl⟩
     ·refine awp_skip ?_
      repeat first | refine st_ ?_ | refine sn_ ?_
      refine awp_seq ?_
      refine awp_draw (sys _ _ []) (by kernel_rfl) [0, 0, 0, 0, 0, 0, 48, 112, 0, 0, 768, 1792, 4083, 8179, 16383, 32767] 25 153 hU rfl rfl (by kernel_rfl) ?_
      refine go_ ?_
      obtain ⟨e_11, he_11, hg⟩ := bind_some hg
      refine go_ ?_
      refine ch_s (rd := [0]) rfl rfl (r_loadRA ty28 (enc_cells api_Entry.enc_len (getI_at he_11) (o := 0) (m := 6) (cs := [.str e_11.Alias, .int .i64 e_11.Key.Alg, .int .i64 e_11.Key.Bits, .int .i64 e_11.KeyId, .bool e_11.Secret, .sl 15 (encL api_Certificate.enc e_11.Chain)]) rfl (by decide) rfl) (enc_cells_le api_Entry.enc_len (getI_at he_11) (o := 0) (m := 6) (by decide) rfl)) rfl rfl ?_
      refine go_ ?_
      obtain ⟨e_12, he_12, hg⟩ := bind_some hg
      refine go_ ?_
      refine ch_s (rd := [0]) rfl rfl (r_loadRA ty28 (enc_cells api_Entry.enc_len (getI_at he_12) (o := 0) (m := 6) (cs := [.str e_12.Alias, .int .i64 e_12.Key.Alg, .int .i64 e_12.Key.Bits, .int .i64 e_12.KeyId, .bool e_12.Secret, .sl 15 (encL api_Certificate.enc e_12.Chain)]) rfl (by decide) rfl) (enc_cells_le api_Entry.enc_len (getI_at he_12) (o := 0) (m := 6) (by decide) rfl)) rfl rfl ?_
      refine go_ ?_
      refine ch_s (rd := [0]) rfl rfl (r_storeR ty28 rfl (enc_cells_le api_Entry.enc_len (getI_at he_12) (o := 0) (m := 6) (by decide) rfl) ck28 (cs' := [.str e_11.Alias, .int .i64 e_11.Key.Alg, .int .i64 e_11.Key.Bits, .int .i64 e_11.KeyId, .bool e_11.Secret, .sl 15 (encL api_Certificate.enc e_11.Chain)]) (.cons .str (.cons .int (.cons .int (.cons .int (.cons .bool (.cons .sl .nil)))))) (enc_splice api_Entry.enc_len (getI_at he_12) (o := 0) (x' := e_11) (Nat.le_of_ble_eq_true rfl) rfl rfl)) rfl rfl ?_
      obtain ⟨e_13, he_13, hg⟩ := bind_some hg
      refine go_ ?_
      refine ch_s (rd := [0]) rfl rfl (r_storeR ty28 rfl (enc_cells_le api_Entry.enc_len (getI_at he_13) (o := 0) (m := 6) (by decide) rfl) ck28 (cs' := [.str e_12.Alias, .int .i64 e_12.Key.Alg, .int .i64 e_12.Key.Bits, .int .i64 e_12.KeyId, .bool e_12.Secret, .sl 15 (encL api_Certificate.enc e_12.Chain)]) (.cons .str (.cons .int (.cons .int (.cons .int (.cons .bool (.cons .sl .nil)))))) (enc_splice api_Entry.enc_len (getI_at he_13) (o := 0) (x' := e_12) (Nat.le_of_ble_eq_true rfl) rfl rfl)) rfl rfl ?_
      refine ch_n fun hU => ?_
      refine sr_ 153 177 hU ?_
      refine go_ ?_
      refine ch_n fun hU => ?_
      refine sr_ 177 201 hU ?_
      refine go_ ?_
      refine ch_n fun hU => ?_
      refine awp_seq ?_
      refine awp_block ?_
      refine lp_ (fun ((i_5, j_5, data_5) : Int × Int × List api_Entry) => mk [(0, .row 0), (1, .val (.int .i64 a)), (4, .clo 16 0 []), (12, .val (.int .i64 i_5)), (13, .val (.int .i64 j_5))] [(0, .row 28 6 (encL api_Entry.enc data_5))] 1) hg (sub_ [(0, 0)]) ?_
      rintro ⟨i_5, j_5, data_5⟩ m5 o5 hg hn5
      replace hg : g_slices_partitionCmpFunc_api_Entry.l5 a cmp i_5 j_5 data_5 = some o5 := hg
      show awp _ _ _ _ (mk _ _ _)
      unfold g_slices_partitionCmpFunc_api_Entry.l5 at hg
      refine awp_block ?_
      refine awp_seq ?_
      refine awp_block ?_
      refine lp_ (fun (i_6 : Int) => mk [(0, .row 0), (1, .val (.int .i64 a)), (4, .clo 16 0 []), (12, .val (.int .i64 i_6)), (13, .val (.int .i64 j_5))] [(0, .row 28 6 (encL api_Entry.enc data_5))] 1) hg (sub_ [(0, 0)]) ?_
      rintro i_6 m6 o6 hg hn6
      replace hg : g_slices_partitionCmpFunc_api_Entry.l6 a cmp j_5 data_5 i_6 = some o6 := hg
      show awp _ _ _ _ (mk _ _ _)
      unfold g_slices_partitionCmpFunc_api_Entry.l6 at hg
      refine awp_seq ?_
      refine awp_cut (ι := Bool) (fun (x120_7 : Bool) => mk [(0, .row 0), (1, .val (.int .i64 a)), (4, .clo 16 0 []), (12, .val (.int .i64 i_6)), (13, .val (.int .i64 j_5)), (120, .val (.bool x120_7))] [(0, .row 28 6 (encL api_Entry.enc data_5))] 1) (fun (x120_7 : Bool) => g_slices_partitionCmpFunc_api_Entry.j7 a cmp j_5 data_5 i_6 x120_7 = some o6) ?_ ?_
      ·refine awp_draw (sys _ _ []) (by kernel_rfl) [0, 0, 3, 7, 15, 15, 15, 111, 239, 15, 15, 1551, 3599, 8191, 16383, 32767] 1 129 mk_U rfl rfl (by kernel_rfl) ?_
       refine go_ ?_
       rcases bc_ hg with ⟨h21, hg⟩ | ⟨h21, hg⟩
       ·refine go_ ?_
        obtain ⟨e_14, he_14, hg⟩ := bind_some hg
        refine go_ ?_
        refine ch_s (rd := [0]) (gdv_t rfl rfl h21) rfl (r_loadRA ty28 (enc_cells api_Entry.enc_len (getI_at he_14) (o := 0) (m := 6) (cs := [.str e_14.Alias, .int .i64 e_14.Key.Alg, .int .i64 e_14.Key.Bits, .int .i64 e_14.KeyId, .bool e_14.Secret, .sl 15 (encL api_Certificate.enc e_14.Chain)]) rfl (by decide) rfl) (enc_cells_le api_Entry.enc_len (getI_at he_14) (o := 0) (m := 6) (by decide) rfl)) rfl rfl ?_
        refine go_ ?_
        obtain ⟨e_15, he_15, hg⟩ := bind_some hg
        refine go_ ?_
        refine ch_s (rd := [0]) (gdv_t rfl rfl h21) rfl (r_loadRA ty28 (enc_cells api_Entry.enc_len (getI_at he_15) (o := 0) (m := 6) (cs := [.str e_15.Alias, .int .i64 e_15.Key.Alg, .int .i64 e_15.Key.Bits, .int .i64 e_15.KeyId, .bool e_15.Secret, .sl 15 (encL api_Certificate.enc e_15.Chain)]) rfl (by decide) rfl) (enc_cells_le api_Entry.enc_len (getI_at he_15) (o := 0) (m := 6) (by decide) rfl)) rfl rfl ?_
        obtain ⟨y_3, hy_3, hg⟩ := bind_some hg
        refine ch_callCP (rd := []) (ps := []) (gs := []) false (gdv_t rfl rfl h21) rfl (hf_cmp e_14 e_15 _ hy_3) rfl rfl (.cons (.agg (.cons .val (.cons .val (.cons .val (.cons .val (.cons .val (.cons .sl .nil))))))) (.cons (.agg (.cons .val (.cons .val (.cons .val (.cons .val (.cons .val (.cons .sl .nil))))))) .nil)) rfl rfl (by intro h; cases h) rfl rfl rfl rfl ?_
        refine go_ ?_
        refine ch_n fun hU => ?_
        exact ⟨decide (y_3 < 0), hg, sub_ [(0, 0)]⟩
       ·refine go_ ?_
        refine ch_n fun hU => ?_
        exact ⟨false, hg, sub_ [(0, 0)]⟩
      ·rintro x120_7 hg
       replace hg : g_slices_partitionCmpFunc_api_Entry.j7 a cmp j_5 data_5 i_6 x120_7 = some o6 := hg
       show awp _ _ _ _ (mk _ _ _)
       unfold g_slices_partitionCmpFunc_api_Entry.j7 at hg
       refine cg_ rfl hg (fun h24 hg => ?_) fun h24 hg => ?_
       ·refine awp_skip ?_
        repeat first | refine st_ ?_ | refine sn_ ?_
        refine awp_block ?_
        refine awp_region (sys _ _ []) 1 25 mk_U rfl rfl ?_
        refine go_ ?_
        refine ch_n fun hU => ?_
        obtain rfl := Option.some.inj hg
        exact ⟨(W (i_6 + 1), m6), Nat.lt_succ_self _, hn6, sub_ [(0, 0)]⟩
       ·refine awp_exit ?_
        repeat first | refine st_ ?_ | refine sn_ ?_
        replace hg := leave hg hn6
        refine awp_seq ?_
        refine awp_block ?_
        refine lp_ (fun (j_8 : Int) => mk [(0, .row 0), (1, .val (.int .i64 a)), (4, .clo 16 0 []), (12, .val (.int .i64 i_6)), (13, .val (.int .i64 j_8))] [(0, .row 28 6 (encL api_Entry.enc data_5))] 1) hg (sub_ [(0, 0)]) ?_
        rintro j_8 m8 o8 hg hn8
        replace hg : g_slices_partitionCmpFunc_api_Entry.l8 a cmp data_5 i_6 j_8 = some o8 := hg
        show awp _ _ _ _ (mk _ _ _)
        unfold g_slices_partitionCmpFunc_api_Entry.l8 at hg
        refine awp_seq ?_
        refine awp_cut (ι := Bool) (fun (x139_9 : Bool) => mk [(0, .row 0), (1, .val (.int .i64 a)), (4, .clo 16 0 []), (12, .val (.int .i64 i_6)), (13, .val (.int .i64 j_8)), (139, .val (.bool x139_9))] [(0, .row 28 6 (encL api_Entry.enc data_5))] 1) (fun (x139_9 : Bool) => g_slices_partitionCmpFunc_api_Entry.j9 a data_5 i_6 j_8 x139_9 = some o8) ?_ ?_
        ·refine awp_draw (sys _ _ []) (by kernel_rfl) [0, 0, 3, 7, 15, 15, 15, 111, 239, 15, 15, 1551, 3599, 8191, 16383, 32767, 65535] 1 137 mk_U rfl rfl (by kernel_rfl) ?_
         refine go_ ?_
         rcases bc_ hg with ⟨h26, hg⟩ | ⟨h26, hg⟩
         ·refine go_ ?_
          obtain ⟨e_16, he_16, hg⟩ := bind_some hg
          refine go_ ?_
          refine ch_s (rd := [0]) (gdv_t rfl rfl h26) rfl (r_loadRA ty28 (enc_cells api_Entry.enc_len (getI_at he_16) (o := 0) (m := 6) (cs := [.str e_16.Alias, .int .i64 e_16.Key.Alg, .int .i64 e_16.Key.Bits, .int .i64 e_16.KeyId, .bool e_16.Secret, .sl 15 (encL api_Certificate.enc e_16.Chain)]) rfl (by decide) rfl) (enc_cells_le api_Entry.enc_len (getI_at he_16) (o := 0) (m := 6) (by decide) rfl)) rfl rfl ?_
          refine go_ ?_
          obtain ⟨e_17, he_17, hg⟩ := bind_some hg
          refine go_ ?_
          refine ch_s (rd := [0]) (gdv_t rfl rfl h26) rfl (r_loadRA ty28 (enc_cells api_Entry.enc_len (getI_at he_17) (o := 0) (m := 6) (cs := [.str e_17.Alias, .int .i64 e_17.Key.Alg, .int .i64 e_17.Key.Bits, .int .i64 e_17.KeyId, .bool e_17.Secret, .sl 15 (encL api_Certificate.enc e_17.Chain)]) rfl (by decide) rfl) (enc_cells_le api_Entry.enc_len (getI_at he_17) (o := 0) (m := 6) (by decide) rfl)) rfl rfl ?_
          obtain ⟨y_4, hy_4, hg⟩ := bind_some hg
          refine ch_callCP (rd := []) (ps := []) (gs := []) false (gdv_t rfl rfl h26) rfl (hf_cmp e_16 e_17 _ hy_4) rfl rfl (.cons (.agg (.cons .val (.cons .val (.cons .val (.cons .val (.cons .val (.cons .sl .nil))))))) (.cons (.agg (.cons .val (.cons .val (.cons .val (.cons .val (.cons .val (.cons .sl .nil))))))) .nil)) rfl rfl (by intro h; cases h) rfl rfl rfl rfl ?_
          refine go_ ?_
          refine ch_n fun hU => ?_
          exact ⟨!(decide (y_4 < 0)), hg, sub_ [(0, 0)]⟩
         ·refine go_ ?_
          refine ch_n fun hU => ?_
          exact ⟨false, hg, sub_ [(0, 0)]⟩
        ·rintro x139_9 hg
         replace hg : g_slices_partitionCmpFunc_api_Entry.j9 a data_5 i_6 j_8 x139_9 = some o8 := hg
         show awp _ _ _ _ (mk _ _ _)
         unfold g_slices_partitionCmpFunc_api_Entry.j9 at hg
         refine cg_ rfl hg (fun h29 hg => ?_) fun h29 hg => ?_
         ·refine awp_skip ?_
          repeat first | refine st_ ?_ | refine sn_ ?_
          refine awp_block ?_
          refine awp_region (sys _ _ []) 1 25 mk_U rfl rfl ?_
          refine go_ ?_
          refine ch_n fun hU => ?_
          obtain rfl := Option.some.inj hg
          exact ⟨(W (j_8 - 1), m8), Nat.lt_succ_self _, hn8, sub_ [(0, 0)]⟩
         ·refine awp_exit ?_
          repeat first | refine st_ ?_ | refine sn_ ?_
          replace hg := leave hg hn8
          refine awp_seq ?_
          refine sr_ 1 25 mk_U ?_
          refine go_ ?_
          refine ch_n fun hU => ?_
          refine cg_ rfl hg (fun h32 hg => ?_) fun h32 hg => ?_
          ·refine awp_exit ?_
           repeat first | refine st_ ?_ | refine sn_ ?_
           replace hg := leave hg hn5
           refine awp_seq ?_
           refine awp_draw (sys _ _ []) (by kernel_rfl) [0, 0, 0, 0, 0, 0, 48, 112, 0, 0, 768, 1792, 4083, 8179, 16383, 32767] 25 153 hU rfl rfl (by kernel_rfl) ?_
           refine go_ ?_
           obtain ⟨e_21, he_21, hg⟩ := bind_some hg
           refine go_ ?_
           refine ch_s (rd := [0]) rfl rfl (r_loadRA ty28 (enc_cells api_Entry.enc_len (getI_at he_21) (o := 0) (m := 6) (cs := [.str e_21.Alias, .int .i64 e_21.Key.Alg, .int .i64 e_21.Key.Bits, .int .i64 e_21.KeyId, .bool e_21.Secret, .sl 15 (encL api_Certificate.enc e_21.Chain)]) rfl (by decide) rfl) (enc_cells_le api_Entry.enc_len (getI_at he_21) (o := 0) (m := 6) (by decide) rfl)) rfl rfl ?_
           refine go_ ?_
           obtain ⟨e_22, he_22, hg⟩ := bind_some hg
           refine go_ ?_
           refine ch_s (rd := [0]) rfl rfl (r_loadRA ty28 (enc_cells api_Entry.enc_len (getI_at he_22) (o := 0) (m := 6) (cs := [.str e_22.Alias, .int .i64 e_22.Key.Alg, .int .i64 e_22.Key.Bits, .int .i64 e_22.KeyId, .bool e_22.Secret, .sl 15 (encL api_Certificate.enc e_22.Chain)]) rfl (by decide) rfl) (enc_cells_le api_Entry.enc_len (getI_at he_22) (o := 0) (m := 6) (by decide) rfl)) rfl rfl ?_
           refine go_ ?_
           refine ch_s (rd := [0]) rfl rfl (r_storeR ty28 rfl (enc_cells_le api_Entry.enc_len (getI_at he_22) (o := 0) (m := 6) (by decide) rfl) ck28 (cs' := [.str e_21.Alias, .int .i64 e_21.Key.Alg, .int .i64 e_21.Key.Bits, .int .i64 e_21.KeyId, .bool e_21.Secret, .sl 15 (encL api_Certificate.enc e_21.Chain)]) (.cons .str (.cons .int (.cons .int (.cons .int (.cons .bool (.cons .sl .nil)))))) (enc_splice api_Entry.enc_len (getI_at he_22) (o := 0) (x' := e_21) (Nat.le_of_ble_eq_true rfl) rfl rfl)) rfl rfl ?_
           obtain ⟨e_23, he_23, hg⟩ := bind_some hg
           refine go_ ?_
           refine ch_s (rd := [0]) rfl rfl (r_storeR ty28 rfl (enc_cells_le api_Entry.enc_len (getI_at he_23) (o := 0) (m := 6) (by decide) rfl) ck28 (cs' := [.str e_22.Alias, .int .i64 e_22.Key.Alg, .int .i64 e_22.Key.Bits, .int .i64 e_22.KeyId, .bool e_22.Secret, .sl 15 (encL api_Certificate.enc e_22.Chain)]) (.cons .str (.cons .int (.cons .int (.cons .int (.cons .bool (.cons .sl .nil)))))) (enc_splice api_Entry.enc_len (getI_at he_23) (o := 0) (x' := e_22) (Nat.le_of_ble_eq_true rfl) rfl rfl)) rfl rfl ?_
           refine ch_n fun hU => ?_
           refine sr_ 153 177 hU ?_
           refine go_ ?_
           refine ch_n fun hU => ?_
           refine aw_r ?_
           obtain rfl := Option.some.inj hg
           exact fin_ [(0, 0)] ⟨rfl, rfl⟩
          ·refine awp_skip ?_
           repeat first | refine st_ ?_ | refine sn_ ?_
           refine awp_seq ?_
           refine awp_draw (sys _ _ []) (by kernel_rfl) [0, 0, 0, 0, 0, 0, 48, 112, 0, 0, 768, 1792, 4083, 8179, 16383, 32767] 25 153 hU rfl rfl (by kernel_rfl) ?_
           refine go_ ?_
           obtain ⟨e_18, he_18, hg⟩ := bind_some hg
           refine go_ ?_
           refine ch_s (rd := [0]) rfl rfl (r_loadRA ty28 (enc_cells api_Entry.enc_len (getI_at he_18) (o := 0) (m := 6) (cs := [.str e_18.Alias, .int .i64 e_18.Key.Alg, .int .i64 e_18.Key.Bits, .int .i64 e_18.KeyId, .bool e_18.Secret, .sl 15 (encL api_Certificate.enc e_18.Chain)]) rfl (by decide) rfl) (enc_cells_le api_Entry.enc_len (getI_at he_18) (o := 0) (m := 6) (by decide) rfl)) rfl rfl ?_
           refine go_ ?_
           obtain ⟨e_19, he_19, hg⟩ := bind_some hg
           refine go_ ?_
           refine ch_s (rd := [0]) rfl rfl (r_loadRA ty28 (enc_cells api_Entry.enc_len (getI_at he_19) (o := 0) (m := 6) (cs := [.str e_19.Alias, .int .i64 e_19.Key.Alg, .int .i64 e_19.Key.Bits, .int .i64 e_19.KeyId, .bool e_19.Secret, .sl 15 (encL api_Certificate.enc e_19.Chain)]) rfl (by decide) rfl) (enc_cells_le api_Entry.enc_len (getI_at he_19) (o := 0) (m := 6) (by decide) rfl)) rfl rfl ?_
           refine go_ ?_
           refine ch_s (rd := [0]) rfl rfl (r_storeR ty28 rfl (enc_cells_le api_Entry.enc_len (getI_at he_19) (o := 0) (m := 6) (by decide) rfl) ck28 (cs' := [.str e_18.Alias, .int .i64 e_18.Key.Alg, .int .i64 e_18.Key.Bits, .int .i64 e_18.KeyId, .bool e_18.Secret, .sl 15 (encL api_Certificate.enc e_18.Chain)]) (.cons .str (.cons .int (.cons .int (.cons .int (.cons .bool (.cons .sl .nil)))))) (enc_splice api_Entry.enc_len (getI_at he_19) (o := 0) (x' := e_18) (Nat.le_of_ble_eq_true rfl) rfl rfl)) rfl rfl ?_
           obtain ⟨e_20, he_20, hg⟩ := bind_some hg
           refine go_ ?_
           refine ch_s (rd := [0]) rfl rfl (r_storeR ty28 rfl (enc_cells_le api_Entry.enc_len (getI_at he_20) (o := 0) (m := 6) (by decide) rfl) ck28 (cs' := [.str e_19.Alias, .int .i64 e_19.Key.Alg, .int .i64 e_19.Key.Bits, .int .i64 e_19.KeyId, .bool e_19.Secret, .sl 15 (encL api_Certificate.enc e_19.Chain)]) (.cons .str (.cons .int (.cons .int (.cons .int (.cons .bool (.cons .sl .nil)))))) (enc_splice api_Entry.enc_len (getI_at he_20) (o := 0) (x' := e_19) (Nat.le_of_ble_eq_true rfl) rfl rfl)) rfl rfl ?_
           refine ch_n fun hU => ?_
           refine sr_ 153 177 hU ?_
           refine go_ ?_
           refine ch_n fun hU => ?_
           refine awp_region (sys _ _ []) 177 201 hU rfl rfl ?_
           refine go_ ?_
           refine ch_n fun hU => ?_
           obtain rfl := Option.some.inj hg
           exact ⟨((W (i_6 + 1), W (j_8 - 1), setI (setI data_5 ((i_6).toNat) e_18) ((j_8).toNat) e_19), m5), Nat.lt_succ_self _, hn5, sub_ [(0, 0)]⟩
end Go.Proofs.Ytbeageaekgccgaa
