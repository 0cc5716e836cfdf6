/- The program computes the plain functions. -/
import Derived.Test.YtkpcbnnlefcebaaT1
import Derived.Test.YtkpcbnnlefcebaaA1
import Derived.Test.YtkpcbnnlefcebaaA2
set_option linter.unusedVariables false
set_option linter.unusedSimpArgs false
set_option maxRecDepth 100000
set_option maxHeartbeats 1600000
namespace Go.Proofs.Ytkpcbnnlefcebaa
open Go.RowKit
theorem w_slices_SortFunc_need_required_clo_27_0_ (x' : List need_required) (cmp : need_required → need_required → Option (Int)) (hf_cmp : ∀ (x0 : need_required) (x1 : need_required) (y : Int), cmp x0 x1 = some y → Fn Try.prog 27 0 [.agg [.val (.int .i64 x0.First), .val (.int .i64 x0.Then)], .agg [.val (.int .i64 x1.First), .val (.int .i64 x1.Then)]] [] (fun d' b' => d' = .val (.int .i64 y) ∧ b' = [])) (r : (List need_required)) (hg : g_slices_SortFunc_need_required x' cmp = some r) : Fn Try.prog 26 1 [.row 0, .clo 27 0 []] [.row 63 2 (encL need_required.enc x')] (fun d' b' => d' = .tup [] ∧ b' = [.row 63 2 (encL need_required.enc r)]) := by
 unfold g_slices_SortFunc_need_required at hg
 refine Fn.of Try.func26 rfl rfl rfl fun w0 I ρ0 => ?_
 show awp _ ⟨w0, I, ρ0, 1, 1, 14⟩ _ _ _
 refine sr_ 1 25 mk_U ?_
 refine go_ ?_
 refine ch_n fun hU => ?_
 refine awp_region (sys _ _ []) 25 81 hU rfl rfl ?_
 refine go_ ?_
 refine c0_ rfl rfl (r_convK und3 und72) rfl rfl ?_
 obtain ⟨y, hy, hg⟩ := bind_some hg
 refine ca_ (w_math_bits_Len _ _ hy) ?_
 refine go_ ?_
 obtain ⟨y_2, hy_2, hg⟩ := bind_some hg
 refine cb_ [0] [0] [] false (w_slices_pdqsortCmpFunc_need_required_clo_27_0_ x' 0 (x'.length : Int) y cmp hf_cmp _ hy_2) ?_
 refine ch_n fun hU => ?_
 obtain rfl := Option.some.inj hg
 exact fin_ [(0, 0)] ⟨rfl, rfl⟩
theorem w_slices_Compact_need_required_own (s : List need_required) (r : (List need_required)) (hg : g_slices_Compact_need_required s = some r) : Fn Try.prog 28 0 [.row 0] [.row 63 2 (encL need_required.enc s)] (fun d' b' => d' = .row 0 ∧ b' = [.row 63 2 (encL need_required.enc r)]) := by
 unfold g_slices_Compact_need_required at hg
 refine Fn.of Try.func28 rfl rfl rfl fun w0 I ρ0 => ?_
 show awp _ ⟨w0, I, ρ0, 0, 1, 61⟩ _ _ _
 refine sr_ 1 9 mk_U ?_
 refine go_ ?_
 refine ch_n fun hU => ?_
 refine awp_seq ?_
 refine sr_ 9 33 hU ?_
 refine go_ ?_
 refine ch_n fun hU => ?_
 refine cg_ rfl hg (fun h3 hg => ?_) fun h3 hg => ?_
 ·refine awp_seq ?_
  refine awp_region (sys _ _ []) 33 49 hU rfl rfl ?_
  refine go_ ?_
  refine ch_n fun hU => ?_
  refine aw_r ?_
  obtain rfl := Option.some.inj hg
  exact fin_ [(0, 0)] ⟨rfl, rfl⟩
 ·refine awp_skip ?_
  repeat first | refine st_ ?_ | refine sn_ ?_
  refine awp_seq ?_
  refine sr_ 33 41 hU ?_
  refine go_ ?_
  refine ch_n fun hU => ?_
  refine awp_block ?_
  refine lp_ (fun (k_1 : Int) => mk [(0, .row 0), (3, .val (.int .i64 k_1))] [(0, .row 63 2 (encL need_required.enc s))] 1) hg (sub_ [(0, 0)]) ?_
  rintro k_1 m1 o1 hg hn1
  replace hg : g_slices_Compact_need_required.l1 s k_1 = some o1 := hg
  show awp _ _ _ _ (mk _ _ _)
  unfold g_slices_Compact_need_required.l1 at hg
  refine awp_seq ?_
  refine sr_ 1 33 mk_U ?_
  refine go_ ?_
  refine ch_n fun hU => ?_
  refine cg_ rfl hg (fun h7 hg => ?_) fun h7 hg => ?_
  ·refine awp_skip ?_
   repeat first | refine st_ ?_ | refine sn_ ?_
   refine awp_seq ?_
   refine awp_block ?_
   refine awp_seq ?_
   refine awp_draw (sys _ _ []) (by kernel_rfl) [0, 0, 3, 7, 0, 0, 32, 112, 240, 511] 33 113 hU rfl rfl (by kernel_rfl) ?_
   refine go_ ?_
   obtain ⟨e, he, hg⟩ := bind_some hg
   refine go_ ?_
   refine ch_s (rd := [0]) rfl rfl (r_loadRA ty63 (enc_cells need_required.enc_len (getI_at he) (o := 0) (m := 2) (cs := [.int .i64 e.First, .int .i64 e.Then]) rfl (by decide) rfl) (enc_cells_le need_required.enc_len (getI_at he) (o := 0) (m := 2) (by decide) rfl)) rfl rfl ?_
   refine go_ ?_
   obtain ⟨e_2, he_2, hg⟩ := bind_some hg
   refine go_ ?_
   refine ch_s (rd := [0]) rfl rfl (r_loadRA ty63 (enc_cells need_required.enc_len (getI_at he_2) (o := 0) (m := 2) (cs := [.int .i64 e_2.First, .int .i64 e_2.Then]) rfl (by decide) rfl) (enc_cells_le need_required.enc_len (getI_at he_2) (o := 0) (m := 2) (by decide) rfl)) rfl rfl ?_
   refine c0_ rfl rfl (steq63_eql e e_2) rfl rfl ?_
   refine ch_n fun hU => ?_
   refine cg_ rfl hg (fun h9 hg => ?_) fun h9 hg => ?_
   ·refine awp_seq ?_
    refine awp_region (sys _ _ []) 113 145 hU rfl rfl ?_
    refine go_ ?_
    obtain ⟨l, hl, hg⟩ := bind_some hg
    refine ch_s (rd := [0]) rfl rfl (r_sliR_lo sl62 need_required.enc_len hl) rfl rfl ?_
    refine go_ ?_
    refine ch_n fun hU => ?_
    refine awp_seq ?_
    refine sr_ 145 153 hU ?_
    refine go_ ?_
    refine ch_n fun hU => ?_
    refine awp_block ?_
    refine lp_ (fun ((k_2, k2_2, s_2) : Int × Int × List need_required) => mk [(0, .row 0), (3, .val (.int .i64 k_2)), (4, .part 0 (((k_1 : Int).toNat) * 2) (((s.length : Int) : Int).toNat - (k_1 : Int).toNat)), (5, .val (.int .i64 k2_2))] [(0, .row 63 2 (encL need_required.enc s_2))] 1) hg (sub_ [(0, 0)]) ?_
    rintro ⟨k_2, k2_2, s_2⟩ m2 o2 hg hn2
    replace hg : g_slices_Compact_need_required.l2 s k_1 k_2 k2_2 s_2 = some o2 := hg
    show awp _ _ _ _ (mk _ _ _)
    unfold g_slices_Compact_need_required.l2 at hg
    refine awp_seq ?_
    refine sr_ 1 33 mk_U ?_
    refine go_ ?_
    refine c0_ rfl rfl (.len sl62.elem .part) rfl rfl ?_
    refine go_ ?_
    refine ch_n fun hU => ?_
    refine cg_ rfl hg (fun h13 hg => ?_) fun h13 hg => ?_
    ·refine awp_skip ?_
     repeat first | refine st_ ?_ | refine sn_ ?_
     refine awp_cut (ι := Int × List need_required) (fun ((k_3, s_3) : Int × List need_required) => mk [(0, .row 0), (3, .val (.int .i64 k_3)), (4, .part 0 (((k_1 : Int).toNat) * 2) (((s.length : Int) : Int).toNat - (k_1 : Int).toNat)), (5, .val (.int .i64 k2_2))] [(0, .row 63 2 (encL need_required.enc s_3))] 1) (fun ((k_3, s_3) : Int × List need_required) => g_slices_Compact_need_required.j3 k2_2 k_3 s_3 = some o2) ?_ ?_
     ·refine awp_block ?_
      refine awp_seq ?_
      refine awp_draw (sys _ _ []) (by kernel_rfl) [0, 0, 3, 7, 0, 0, 32, 112, 240, 511] 33 113 hU rfl rfl (by kernel_rfl) ?_
      refine go_ ?_
      obtain ⟨e_3, he_3, hg⟩ := bind_some hg
      refine ch_s (rd := [0]) rfl rfl (r_idxP sl62 (getI_ix he_3) (getI_at he_3)) rfl rfl ?_
      refine ch_s (rd := [0]) rfl rfl (r_loadRA ty63 (enc_cells need_required.enc_len (part_at (a := (k_1 : Int).toNat) (getI_at he_3)) (o := 0) (m := 2) (cs := [.int .i64 e_3.First, .int .i64 e_3.Then]) rfl (by decide) rfl) (enc_cells_le need_required.enc_len (part_at (a := (k_1 : Int).toNat) (getI_at he_3)) (o := 0) (m := 2) (by decide) rfl)) rfl rfl ?_
      refine go_ ?_
      obtain ⟨e_4, he_4, hg⟩ := bind_some hg
      refine ch_s (rd := [0]) rfl rfl (r_idxP sl62 (getI_ix he_4) (getI_at he_4)) rfl rfl ?_
      refine ch_s (rd := [0]) rfl rfl (r_loadRA ty63 (enc_cells need_required.enc_len (part_at (a := (k_1 : Int).toNat) (getI_at he_4)) (o := 0) (m := 2) (cs := [.int .i64 e_4.First, .int .i64 e_4.Then]) rfl (by decide) rfl) (enc_cells_le need_required.enc_len (part_at (a := (k_1 : Int).toNat) (getI_at he_4)) (o := 0) (m := 2) (by decide) rfl)) rfl rfl ?_
      refine c0_ rfl rfl (steq63_neq e_3 e_4) rfl rfl ?_
      refine ch_n fun hU => ?_
      refine cg_ rfl hg (fun h15 hg => ?_) fun h15 hg => ?_
      ·refine awp_seq ?_
       refine awp_region (sys _ _ []) 113 177 hU rfl rfl ?_
       refine go_ ?_
       refine ch_s (rd := [0]) rfl rfl (r_idxP sl62 (getI_ix he_3) (getI_at he_3)) rfl rfl ?_
       refine ch_s (rd := [0]) rfl rfl (r_loadRA ty63 (enc_cells need_required.enc_len (part_at (a := (k_1 : Int).toNat) (getI_at he_3)) (o := 0) (m := 2) (cs := [.int .i64 e_3.First, .int .i64 e_3.Then]) rfl (by decide) rfl) (enc_cells_le need_required.enc_len (part_at (a := (k_1 : Int).toNat) (getI_at he_3)) (o := 0) (m := 2) (by decide) rfl)) rfl rfl ?_
       obtain ⟨e_5, he_5, hg⟩ := bind_some hg
       refine go_ ?_
       refine ch_s (rd := [0]) rfl rfl (r_storeR ty63 rfl (enc_cells_le need_required.enc_len (getI_at he_5) (o := 0) (m := 2) (by decide) rfl) ck63 (cs' := [.int .i64 e_3.First, .int .i64 e_3.Then]) (.cons .int (.cons .int .nil)) (enc_splice need_required.enc_len (getI_at he_5) (o := 0) (x' := e_3) (Nat.le_of_ble_eq_true rfl) rfl rfl)) rfl rfl ?_
       refine ch_n fun hU => ?_
       refine awp_region (sys _ _ []) 177 201 hU rfl rfl ?_
       refine go_ ?_
       refine ch_n fun hU => ?_
       exact ⟨(W (k_2 + 1), setI s_2 ((k_2).toNat) e_3), hg, sub_ [(0, 0)]⟩
      ·refine awp_skip ?_
       repeat first | refine st_ ?_ | refine sn_ ?_
       exact ⟨(k_2, s_2), hg, sub_ [(0, 0)]⟩
     ·rintro ⟨k_3, s_3⟩ hg
      replace hg : g_slices_Compact_need_required.j3 k2_2 k_3 s_3 = some o2 := hg
      show awp _ _ _ _ (mk _ _ _)
      unfold g_slices_Compact_need_required.j3 at hg
      refine awp_region (sys _ _ []) 1 25 mk_U rfl rfl ?_
      refine go_ ?_
      refine ch_n fun hU => ?_
      obtain rfl := Option.some.inj hg
      exact ⟨((k_3, W (k2_2 + 1), s_3), m2), Nat.lt_succ_self _, hn2, sub_ [(0, 0)]⟩
    ·refine awp_exit ?_
     repeat first | refine st_ ?_ | refine sn_ ?_
     replace hg := leave hg hn2
     refine sr_ 33 65 hU ?_
     refine go_ ?_
     obtain ⟨l_2, hl_2, hg⟩ := bind_some hg
     refine ch_s (rd := [0]) rfl rfl (r_sliR_lo sl62 need_required.enc_len hl_2) rfl rfl ?_
     obtain ⟨l_3, hl_3, hg⟩ := bind_some hg
     refine ch_x (rd := [0]) rfl rfl (x_clear (f := need_required.enc) (a := (k_2 : Int).toNat) (m := (((s_2.length : Int) : Int).toNat - (k_2 : Int).toNat)) (z0 := (need_required.mk 0 0)) sl62 need_required.enc_len (zt_of (ck := [none, none]) z63 (.cons .int (.cons .int .nil))) (.head _) hl_3) rfl rfl (fun _ => ⟨_, rfl⟩) ?_
     rintro _ rfl
     refine ch_n fun hU => ?_
     refine sr_ 65 97 hU ?_
     refine go_ ?_
     obtain ⟨l_4, hl_4, hg⟩ := bind_some hg
     refine ch_s (rd := [0]) rfl rfl (r_sliR_hi sl62 need_required.enc_len hl_4) rfl rfl ?_
     refine go_ ?_
     refine ch_n fun hU => ?_
     refine awp_sub (σ' := mk [(2, .part 0 (((0 : Int).toNat) * 2) ((k_2 : Int).toNat - (0 : Int).toNat))] [(0, .row 63 2 (encL need_required.enc l_3))] 1) (sub_ [(0, 0)]) ?_
     refine awp_sub (σ' := mk [(2, .row 0)] [(0, .row 63 2 (encL need_required.enc (l_3.take ((k_2 : Int).toNat - (0 : Int).toNat))))] 1) (cut_ 2 0 need_required.enc_len (Nat.le_trans (Nat.le_add_left _ _) (slI_le hl_4)) rfl rfl rfl rfl) ?_
     refine aw_r ?_
     replace hg := leave hg hn1
     obtain rfl := Option.some.inj hg
     exact fin_ [(0, 0)] ⟨rfl, rfl⟩
   ·refine awp_skip ?_
    repeat first | refine st_ ?_ | refine sn_ ?_
    refine awp_region (sys _ _ []) 113 137 hU rfl rfl ?_
    refine go_ ?_
    refine ch_n fun hU => ?_
    obtain rfl := Option.some.inj hg
    exact ⟨(W (k_1 + 1), m1), Nat.lt_succ_self _, hn1, sub_ [(0, 0)]⟩
  ·refine awp_exit ?_
   repeat first | refine st_ ?_ | refine sn_ ?_
   replace hg := leave hg hn1
   refine sr_ 33 49 hU ?_
   refine go_ ?_
   refine ch_n fun hU => ?_
   refine aw_r ?_
   obtain rfl := Option.some.inj hg
   exact fin_ [(0, 0)] ⟨rfl, rfl⟩
theorem w_need_sorted (l : (List api_Required)) (r : (List api_Required)) (hg : g_need_sorted l = some r) : Fn Try.prog 18 0 [.sl 2 (encL api_Required.enc l)] [] (fun d' b' => d' = .sl 2 (encL api_Required.enc r) ∧ b' = []) := by
 unfold g_need_sorted at hg
 refine Fn.of Try.func18 rfl rfl rfl fun w0 I ρ0 => ?_
 show awp _ ⟨w0, I, ρ0, 0, 0, 35⟩ _ _ _
 refine sr_ 0 8 mk_U ?_
 refine go_ ?_
 refine ch_n fun hU => ?_
 refine sr_ 8 16 hU ?_
 refine go_ ?_
 refine ch_n fun hU => ?_
 refine awp_seq ?_
 refine sr_ 16 40 hU ?_
 refine go_ ?_
 refine ch_n fun hU => ?_
 refine awp_block ?_
 refine lp_ (fun ((x11_1, rows_1) : Int × List need_required) => mk [(3, .row 0), (9, .sl 2 (encL api_Required.enc l)), (10, .val (.int .i64 (l.length : Int))), (11, .val (.int .i64 x11_1))] [(0, .row 63 2 (encL need_required.enc rows_1))] 1) hg (sub_ []) ?_
 rintro ⟨x11_1, rows_1⟩ m1 o1 hg hn1
 replace hg : g_need_sorted.l1 l x11_1 rows_1 = some o1 := hg
 show awp _ _ _ _ (mk _ _ _)
 unfold g_need_sorted.l1 at hg
 refine sr_ 1 9 mk_U ?_
 refine go_ ?_
 refine ch_n fun hU => ?_
 refine awp_seq ?_
 refine cg_ rfl hg (fun h5 hg => ?_) fun h5 hg => ?_
 ·refine awp_skip ?_
  repeat first | refine st_ ?_ | refine sn_ ?_
  refine awp_seq ?_
  refine awp_block ?_
  refine sr_ 9 41 hU ?_
  obtain ⟨e, he, hg⟩ := bind_some hg
  refine go_ ?_
  refine c0_ rfl rfl (r_loadEA ty54 (enc_cells api_Required.enc_len (getI_at he) (o := 0) (m := 2) (cs := [.int .i64 e.First, .int .i64 e.Then]) rfl (by decide) rfl) (enc_cells_le api_Required.enc_len (getI_at he) (o := 0) (m := 2) (by decide) rfl)) rfl rfl ?_
  refine go_ ?_
  refine ch_n fun hU => ?_
  refine awp_region (sys _ _ []) 41 81 hU rfl rfl ?_
  refine go_ ?_
  refine c0_ rfl rfl (r_buildFull sl62 z63 (by decide) rfl rfl rfl rfl ck63 (cs := [.int .i64 e.First, .int .i64 e.Then]) (.cons .int (.cons .int .nil)) rfl (l := ([(need_required.mk e.First e.Then)] : List need_required)) (f := need_required.enc) rfl) rfl rfl ?_
  obtain ⟨l_2, hl_2, hg⟩ := bind_some hg
  refine ch_s (rd := [0, 57]) rfl rfl (r_append sl62 need_required.enc_len .row rfl .row rfl hl_2 rfl) rfl rfl ?_
  refine go_ ?_
  refine ch_n fun hU => ?_
  refine awp_region (sys _ _ []) 81 97 hU rfl rfl ?_
  refine go_ ?_
  refine ch_n fun hU => ?_
  obtain rfl := Option.some.inj hg
  exact ⟨((W (x11_1 + 1), l_2), m1), Nat.lt_succ_self _, hn1, sub_ [(0, 65)]⟩
 ·refine awp_exit ?_
  repeat first | refine st_ ?_ | refine sn_ ?_
  replace hg := leave hg hn1
  refine sr_ 9 25 hU ?_
  refine go_ ?_
  obtain ⟨y, hy, hg⟩ := bind_some hg
  refine cb_ [0] [0] [] false (w_slices_SortFunc_need_required_clo_27_0_ rows_1 (fun x0 x1 => g_need_required_compare x0 x1) (fun x0 x1 y h => w_need_required_compare x0 x1 y h) _ hy) ?_
  refine ch_n fun hU => ?_
  refine sr_ 25 33 hU ?_
  refine go_ ?_
  refine ch_n fun hU => ?_
  refine awp_seq ?_
  refine sr_ 33 65 hU ?_
  refine go_ ?_
  obtain ⟨y_2, hy_2, hg⟩ := bind_some hg
  refine ch_call (rd := [0]) (ps := []) (gs := [0]) false rfl (w_slices_Compact_need_required_own _ _ hy_2) rfl rfl (.cons (.rowK rfl) .nil) ⟨_, _, _, rfl, .head _, rfl, rfl⟩ rfl (by intro h; cases h) rfl (by intro h; first | (cases h; done) | exact ⟨_, _, ⟨rfl, rfl⟩, by simp, by simp⟩) ?_
  rintro _ _ ⟨rfl, rfl⟩
  refine go_ ?_
  refine ch_n fun hU => ?_
  refine awp_block ?_
  refine lp_ (fun ((x25_2, out_2) : Int × List api_Required) => mk [(6, .row 0), (23, .row 1), (24, .val (.int .i64 (y_2.length : Int))), (25, .val (.int .i64 x25_2))] [(0, .row 54 2 (encL api_Required.enc out_2)), (1, .row 63 2 (encL need_required.enc y_2))] 2) hg (sub_ [(1, 41)]) ?_
  rintro ⟨x25_2, out_2⟩ m2 o2 hg hn2
  replace hg : g_need_sorted.l2 y_2 x25_2 out_2 = some o2 := hg
  show awp _ _ _ _ (mk _ _ _)
  unfold g_need_sorted.l2 at hg
  refine sr_ 2 10 mk_U ?_
  refine go_ ?_
  refine ch_n fun hU => ?_
  refine awp_seq ?_
  refine cg_ rfl hg (fun h13 hg => ?_) fun h13 hg => ?_
  ·refine awp_skip ?_
   repeat first | refine st_ ?_ | refine sn_ ?_
   refine awp_seq ?_
   refine awp_block ?_
   refine sr_ 10 42 hU ?_
   obtain ⟨e_2, he_2, hg⟩ := bind_some hg
   refine go_ ?_
   refine ch_s (rd := [1]) rfl rfl (r_loadRA ty63 (enc_cells need_required.enc_len (getI_at he_2) (o := 0) (m := 2) (cs := [.int .i64 e_2.First, .int .i64 e_2.Then]) rfl (by decide) rfl) (enc_cells_le need_required.enc_len (getI_at he_2) (o := 0) (m := 2) (by decide) rfl)) rfl rfl ?_
   refine go_ ?_
   refine ch_n fun hU => ?_
   refine awp_region (sys _ _ []) 42 82 hU rfl rfl ?_
   refine go_ ?_
   refine c0_ rfl rfl (r_buildFull sl27 z54 (by decide) rfl rfl rfl rfl ck54 (cs := [.int .i64 e_2.First, .int .i64 e_2.Then]) (.cons .int (.cons .int .nil)) rfl (l := ([(api_Required.mk e_2.First e_2.Then)] : List api_Required)) (f := api_Required.enc) rfl) rfl rfl ?_
   obtain ⟨l_3, hl_3, hg⟩ := bind_some hg
   refine ch_s (rd := [0, 58]) rfl rfl (r_append sl27 api_Required.enc_len .row rfl .row rfl hl_3 rfl) rfl rfl ?_
   refine go_ ?_
   refine ch_n fun hU => ?_
   refine awp_region (sys _ _ []) 82 98 hU rfl rfl ?_
   refine go_ ?_
   refine ch_n fun hU => ?_
   obtain rfl := Option.some.inj hg
   exact ⟨((W (x25_2 + 1), l_3), m2), Nat.lt_succ_self _, hn2, sub_ [(0, 66), (1, 1)]⟩
  ·refine awp_exit ?_
   repeat first | refine st_ ?_ | refine sn_ ?_
   replace hg := leave hg hn2
   refine sr_ 10 26 hU ?_
   refine go_ ?_
   refine ch_n fun hU => ?_
   refine aw_r ?_
   obtain rfl := Option.some.inj hg
   exact fin_ [] ⟨rfl, rfl⟩
theorem w_need_Chain (l : (List Int)) (r : (List api_Required)) (hg : g_need_Chain l = some r) : Fn Try.prog 10 0 [.sl 1 (encL eI l)] [] (fun d' b' => d' = .sl 2 (encL api_Required.enc r) ∧ b' = []) := by
 unfold g_need_Chain at hg
 refine Fn.of Try.func10 rfl rfl rfl fun w0 I ρ0 => ?_
 show awp _ ⟨w0, I, ρ0, 0, 0, 26⟩ _ _ _
 refine sr_ 0 8 mk_U ?_
 refine go_ ?_
 refine ch_n fun hU => ?_
 refine sr_ 8 16 hU ?_
 refine go_ ?_
 refine ch_n fun hU => ?_
 refine awp_seq ?_
 refine sr_ 16 24 hU ?_
 refine go_ ?_
 refine ch_n fun hU => ?_
 refine awp_block ?_
 refine lp_ (fun ((i_1, out_1) : Int × List api_Required) => mk [(0, .sl 1 (encL eI l)), (3, .row 0), (4, .val (.int .i64 i_1))] [(0, .row 54 2 (encL api_Required.enc out_1))] 1) hg (sub_ []) ?_
 rintro ⟨i_1, out_1⟩ m1 o1 hg hn1
 replace hg : g_need_Chain.l1 l i_1 out_1 = some o1 := hg
 show awp _ _ _ _ (mk _ _ _)
 unfold g_need_Chain.l1 at hg
 refine awp_seq ?_
 refine sr_ 1 33 mk_U ?_
 refine go_ ?_
 refine ch_n fun hU => ?_
 refine cg_ rfl hg (fun h5 hg => ?_) fun h5 hg => ?_
 ·refine awp_skip ?_
  repeat first | refine st_ ?_ | refine sn_ ?_
  refine awp_seq ?_
  refine awp_block ?_
  refine awp_draw (sys _ _ []) (by kernel_rfl) [0, 0, 0, 4, 14, 30, 0, 0, 192, 448, 1022, 2046, 4095, 8191] 33 145 hU rfl rfl (by kernel_rfl) ?_
  refine go_ ?_
  obtain ⟨e, he, hg⟩ := bind_some hg
  refine go_ ?_
  refine c0_ rfl rfl (r_loadE1 ty3 (enc_cell eI_len (getI_at he) (o := 0) (c := .int .i64 e) rfl rfl)) rfl rfl ?_
  refine go_ ?_
  obtain ⟨e_2, he_2, hg⟩ := bind_some hg
  refine go_ ?_
  refine c0_ rfl rfl (r_loadE1 ty3 (enc_cell eI_len (getI_at he_2) (o := 0) (c := .int .i64 e_2) rfl rfl)) rfl rfl ?_
  refine c0_ rfl rfl (.build (r := [.val (.int .i64 e), .val (.int .i64 e_2)]) und54 pl54 z54 (by kernel_rfl) rfl) rfl rfl ?_
  refine c0_ rfl rfl (r_buildFull sl27 z54 (by decide) rfl rfl rfl rfl ck54 (cs := [.int .i64 e, .int .i64 e_2]) (.cons .int (.cons .int .nil)) rfl (l := ([(api_Required.mk e e_2)] : List api_Required)) (f := api_Required.enc) rfl) rfl rfl ?_
  obtain ⟨l_2, hl_2, hg⟩ := bind_some hg
  refine ch_s (rd := [0, 121]) rfl rfl (r_append sl27 api_Required.enc_len .row rfl .row rfl hl_2 rfl) rfl rfl ?_
  refine go_ ?_
  refine ch_n fun hU => ?_
  refine awp_region (sys _ _ []) 145 169 hU rfl rfl ?_
  refine go_ ?_
  refine ch_n fun hU => ?_
  obtain rfl := Option.some.inj hg
  exact ⟨((W (i_1 + 1), l_2), m1), Nat.lt_succ_self _, hn1, sub_ [(0, 129)]⟩
 ·refine awp_exit ?_
  repeat first | refine st_ ?_ | refine sn_ ?_
  replace hg := leave hg hn1
  refine awp_seq ?_
  refine awp_sub (σ' := mk [(3, .sl 2 (encL api_Required.enc out_1))] [] 0) (sub_ []) ?_
  refine awp_region (sys _ _ []) 0 24 mk_U rfl rfl ?_
  refine go_ ?_
  obtain ⟨y, hy, hg⟩ := bind_some hg
  refine ca_ (w_need_sorted _ _ hy) ?_
  refine go_ ?_
  refine ch_n fun hU => ?_
  refine aw_r ?_
  obtain rfl := Option.some.inj hg
  exact fin_ [] ⟨rfl, rfl⟩
theorem w_law28_awake  (r : Bool) (hg : g_law28_awake = some r) : Fn Try.prog 6 0 [] [] (fun d' b' => d' = .val (.bool r) ∧ b' = []) := by
 unfold g_law28_awake at hg
 refine Fn.of Try.func6 rfl rfl rfl fun w0 I ρ0 => ?_
 show awp _ ⟨w0, I, ρ0, 0, 0, 17⟩ _ _ _
 refine sr_ 0 8 mk_U ?_
 refine go_ ?_
 refine ch_n fun hU => ?_
 refine awp_seq ?_
 refine awp_region (sys _ _ [96]) 8 144 hU rfl rfl ?_
 refine c0_ rfl rfl (.build (r := [.val (.string (⟨#[]⟩ : ByteArray)), .val (.int .i64 0), .val (.int .i64 0), .val (.slice none 0 0), .val (.bool false), .val (.slice none 0 0), .val (.slice none 0 0), .val (.slice none 0 0), .val (.bool false)]) und42 pl42 z42 (by kernel_rfl) rfl) rfl rfl ?_
 refine c0_ rfl rfl (.build (r := [.val (.int .i64 0), .val (.int .i64 5), .val (.int .i64 0), .val (.int .i64 0), .val (.int .i64 0), .val (.int .i64 0), .val (.int .i64 0), .val (.slice none 0 0)]) und49 pl49 z49 (by kernel_rfl) rfl) rfl rfl ?_
 obtain ⟨y, hy, hg⟩ := bind_some hg
 refine ca_ (w_need_Rank _ _ _ hy) ?_
 refine go_ ?_
 rcases bc_ hg with ⟨h2, hg⟩ | ⟨h2, hg⟩
 ·refine c0_ (gdv_t rfl rfl h2) rfl (.build (r := [.val (.string (⟨#[]⟩ : ByteArray)), .val (.int .i64 0), .val (.int .i64 0), .val (.slice none 0 0), .val (.bool false), .val (.slice none 0 0), .val (.slice none 0 0), .val (.slice none 0 0), .val (.bool false)]) und42 pl42 z42 (by kernel_rfl) rfl) rfl rfl ?_
  refine c0_ (gdv_t rfl rfl h2) rfl (.build (r := [.val (.int .i64 0), .val (.int .i64 2), .val (.int .i64 0), .val (.int .i64 0), .val (.int .i64 0), .val (.int .i64 0), .val (.int .i64 0), .val (.slice none 0 0)]) und49 pl49 z49 (by kernel_rfl) rfl) rfl rfl ?_
  obtain ⟨y_2, hy_2, hg⟩ := bind_some hg
  refine ca_ (w_need_Rank _ _ _ hy_2) ?_
  refine go_ ?_
  rcases bc_ hg with ⟨h3, hg⟩ | ⟨h3, hg⟩
  ·refine ch_z (rd := []) (gdv_t rfl rfl h3) rfl (r_buildFull sl22 z3 (by decide) rfl rfl rfl rfl ck3 (cs := [.int .i64 2, .int .i64 0, .int .i64 1]) (.cons .int (.cons .int (.cons .int .nil))) rfl (l := ([2, 0, 1] : List Int)) (f := eI) rfl) rfl rfl rfl ?_
   obtain ⟨y_3, hy_3, hg⟩ := bind_some hg
   refine ca_ (w_need_Chain _ _ hy_3) ?_
   refine go_ ?_
   refine ch_n fun hU => ?_
   refine aw_r ?_
   obtain rfl := Option.some.inj hg
   exact fin_ [] ⟨rfl, rfl⟩
  ·refine go_ ?_
   refine ch_n fun hU => ?_
   refine aw_r ?_
   obtain rfl := Option.some.inj hg
   exact fin_ [] ⟨rfl, rfl⟩
 ·refine go_ ?_
  refine ch_n fun hU => ?_
  refine aw_r ?_
  obtain rfl := Option.some.inj hg
  exact fin_ [] ⟨rfl, rfl⟩
theorem w_make_Roll (l : (List Int)) (r : cipherplanmake_Dice) (hg : g_make_Roll l = some r) : Fn Try.prog 7 0 [.sl 1 (encL eI l)] [] (fun d' b' => d' = .ptr 0 0 ∧ b' = [.box [.sl 1 (encL eI r.L), .val (.int .i64 r.At)] 51]) := by
 unfold g_make_Roll at hg
 refine Fn.of Try.func7 rfl rfl rfl fun w0 I ρ0 => ?_
 show awp _ ⟨w0, I, ρ0, 0, 0, 6⟩ _ _ _
 refine sr_ 0 8 mk_U ?_
 refine go_ ?_
 refine ch_n fun hU => ?_
 refine sr_ 8 40 hU ?_
 refine go_ ?_
 refine c0_ rfl rfl (.build (r := [.sl 1 (encL eI l), .val (.int .i64 0)]) und51 pl51 z51 (by kernel_rfl) rfl) rfl rfl ?_
 refine go_ ?_
 refine ch_n fun hU => ?_
 refine aw_r ?_
 obtain rfl := Option.some.inj hg
 exact fin_ [(0, 24)] ⟨rfl, rfl⟩
theorem w_make_Mod (n : Int) (k : Int) (r : Int) (hg : g_make_Mod n k = some r) : Fn Try.prog 24 0 [.val (.int .i64 n), .val (.int .i64 k)] [] (fun d' b' => d' = .val (.int .i64 r) ∧ b' = []) := by
 unfold g_make_Mod at hg
 refine Fn.of Try.func24 rfl rfl rfl fun w0 I ρ0 => ?_
 show awp _ ⟨w0, I, ρ0, 0, 0, 14⟩ _ _ _
 refine sr_ 0 8 mk_U ?_
 refine go_ ?_
 refine ch_n fun hU => ?_
 refine awp_seq ?_
 refine sr_ 8 24 hU ?_
 refine go_ ?_
 refine ch_n fun hU => ?_
 refine cg_ rfl hg (fun h3 hg => ?_) fun h3 hg => ?_
 ·refine awp_seq ?_
  refine awp_region (sys _ _ []) 24 32 hU rfl rfl ?_
  refine go_ ?_
  refine ch_n fun hU => ?_
  refine aw_r ?_
  obtain rfl := Option.some.inj hg
  exact fin_ [] ⟨rfl, rfl⟩
 ·refine awp_skip ?_
  repeat first | refine st_ ?_ | refine sn_ ?_
  refine sr_ 24 88 hU ?_
  refine go_ ?_
  obtain ⟨q, hq, hg⟩ := bind_some hg
  refine c0_ rfl rfl (r_rem hq) rfl rfl ?_
  refine go_ ?_
  obtain ⟨q_2, hq_2, hg⟩ := bind_some hg
  refine c0_ rfl rfl (r_rem hq_2) rfl rfl ?_
  refine go_ ?_
  refine ch_n fun hU => ?_
  refine aw_r ?_
  obtain rfl := Option.some.inj hg
  exact fin_ [] ⟨rfl, rfl⟩
theorem w_make_Dice_Next (d : cipherplanmake_Dice) (n : Int) (r : Int × cipherplanmake_Dice) (hg : g_make_Dice_Next d n = some r) : Fn Try.prog 16 1 [.ptr 0 0, .val (.int .i64 n)] [.box [.sl 1 (encL eI d.L), .val (.int .i64 d.At)] 51] (fun d' b' => d' = .val (.int .i64 r.1) ∧ b' = [.box [.sl 1 (encL eI r.2.L), .val (.int .i64 r.2.At)] 51]) := by
 unfold g_make_Dice_Next at hg
 refine Fn.of Try.func16 rfl rfl rfl fun w0 I ρ0 => ?_
 show awp _ ⟨w0, I, ρ0, 1, 1, 35⟩ _ _ _
 refine sr_ 1 9 mk_U ?_
 refine go_ ?_
 refine ch_n fun hU => ?_
 refine awp_seq ?_
 refine awp_seq ?_
 refine awp_draw (sys _ _ []) (by kernel_rfl) [0, 1, 3, 7, 0, 16, 48, 112, 240, 511] 9 89 hU rfl rfl (by kernel_rfl) ?_
 refine go_ ?_
 refine ch_n fun hU => ?_
 refine cg_ rfl hg (fun h3 hg => ?_) fun h3 hg => ?_
 ·refine awp_seq ?_
  refine awp_region (sys _ _ []) 89 97 hU rfl rfl ?_
  refine go_ ?_
  refine ch_n fun hU => ?_
  refine aw_r ?_
  obtain rfl := Option.some.inj hg
  exact fin_ [(0, 0)] ⟨rfl, rfl⟩
 ·refine awp_skip ?_
  repeat first | refine st_ ?_ | refine sn_ ?_
  refine sr_ 89 153 hU ?_
  refine go_ ?_
  refine ch_n fun hU => ?_
  refine awp_seq ?_
  refine awp_draw (sys _ _ []) (by kernel_rfl) [0, 1, 3, 7, 0, 16, 48, 112, 240, 511, 1023, 0, 4095, 8191] 153 265 hU rfl rfl (by kernel_rfl) ?_
  refine go_ ?_
  obtain ⟨e, he, hg⟩ := bind_some hg
  refine go_ ?_
  refine c0_ rfl rfl (r_loadE1 ty3 (enc_cell eI_len (getI_at he) (o := 0) (c := .int .i64 e) rfl rfl)) rfl rfl ?_
  refine go_ ?_
  obtain ⟨y, hy, hg⟩ := bind_some hg
  refine ca_ (w_make_Mod _ _ _ hy) ?_
  refine go_ ?_
  refine ch_n fun hU => ?_
  refine aw_r ?_
  obtain rfl := Option.some.inj hg
  exact fin_ [(0, 0)] ⟨rfl, rfl⟩
theorem w_ref28_less (a : api_Required) (b : api_Required) (r : Bool) (hg : g_ref28_less a b = some r) : Fn Try.prog 30 0 [.agg [.val (.int .i64 a.First), .val (.int .i64 a.Then)], .agg [.val (.int .i64 b.First), .val (.int .i64 b.Then)]] [] (fun d' b' => d' = .val (.bool r) ∧ b' = []) := by
 unfold g_ref28_less at hg
 refine Fn.of Try.func30 rfl rfl rfl fun w0 I ρ0 => ?_
 show awp _ ⟨w0, I, ρ0, 0, 0, 20⟩ _ _ _
 refine sr_ 0 24 mk_U ?_
 refine go_ ?_
 refine ch_n fun hU => ?_
 refine awp_seq ?_
 refine sr_ 24 64 hU ?_
 refine go_ ?_
 refine ch_n fun hU => ?_
 refine cg_ rfl hg (fun h3 hg => ?_) fun h3 hg => ?_
 ·refine awp_seq ?_
  refine awp_region (sys _ _ []) 64 112 hU rfl rfl ?_
  refine go_ ?_
  refine ch_n fun hU => ?_
  refine aw_r ?_
  obtain rfl := Option.some.inj hg
  exact fin_ [] ⟨rfl, rfl⟩
 ·refine awp_skip ?_
  repeat first | refine st_ ?_ | refine sn_ ?_
  refine sr_ 64 112 hU ?_
  refine go_ ?_
  refine ch_n fun hU => ?_
  refine aw_r ?_
  obtain rfl := Option.some.inj hg
  exact fin_ [] ⟨rfl, rfl⟩
theorem w_ref28_put (l : (List api_Required)) (r' : api_Required) (r : (List api_Required)) (hg : g_ref28_put l r' = some r) : Fn Try.prog 25 0 [.sl 2 (encL api_Required.enc l), .agg [.val (.int .i64 r'.First), .val (.int .i64 r'.Then)]] [] (fun d' b' => d' = .sl 2 (encL api_Required.enc r) ∧ b' = []) := by
 unfold g_ref28_put at hg
 refine Fn.of Try.func25 rfl rfl rfl fun w0 I ρ0 => ?_
 show awp _ ⟨w0, I, ρ0, 0, 0, 47⟩ _ _ _
 refine sr_ 0 16 mk_U ?_
 refine go_ ?_
 refine ch_n fun hU => ?_
 refine sr_ 16 24 hU ?_
 refine go_ ?_
 refine ch_n fun hU => ?_
 refine awp_seq ?_
 refine awp_block ?_
 refine lp_ (fun (at_1 : Int) => mk [(0, .sl 2 (encL api_Required.enc l)), (3, .ptr 0 0), (5, .val (.int .i64 at_1))] [(0, .box [.val (.int .i64 r'.First), .val (.int .i64 r'.Then)] 54)] 1) hg (sub_ [(0, 0)]) ?_
 rintro at_1 m1 o1 hg hn1
 replace hg : g_ref28_put.l1 l r' at_1 = some o1 := hg
 show awp _ _ _ _ (mk _ _ _)
 unfold g_ref28_put.l1 at hg
 refine awp_seq ?_
 refine awp_cut (ι := Bool) (fun (x18_2 : Bool) => mk [(0, .sl 2 (encL api_Required.enc l)), (3, .ptr 0 0), (5, .val (.int .i64 at_1)), (18, .val (.bool x18_2))] [(0, .box [.val (.int .i64 r'.First), .val (.int .i64 r'.Then)] 54)] 1) (fun (x18_2 : Bool) => g_ref28_put.j2 l r' at_1 x18_2 = some o1) ?_ ?_
 ·refine awp_draw (sys _ _ []) (by kernel_rfl) [0, 0, 2, 7, 15, 31, 31, 127, 255, 31, 1023, 2047] 1 97 mk_U rfl rfl (by kernel_rfl) ?_
  refine go_ ?_
  rcases bc_ hg with ⟨h3, hg⟩ | ⟨h3, hg⟩
  ·refine go_ ?_
   obtain ⟨e, he, hg⟩ := bind_some hg
   refine go_ ?_
   refine c0_ (gdv_t rfl rfl h3) rfl (r_loadEA ty54 (enc_cells api_Required.enc_len (getI_at he) (o := 0) (m := 2) (cs := [.int .i64 e.First, .int .i64 e.Then]) rfl (by decide) rfl) (enc_cells_le api_Required.enc_len (getI_at he) (o := 0) (m := 2) (by decide) rfl)) rfl rfl ?_
   refine go_ ?_
   obtain ⟨y, hy, hg⟩ := bind_some hg
   refine ca_ (w_ref28_less _ _ _ hy) ?_
   refine go_ ?_
   refine ch_n fun hU => ?_
   exact ⟨y, hg, sub_ [(0, 0)]⟩
  ·refine go_ ?_
   refine ch_n fun hU => ?_
   exact ⟨false, hg, sub_ [(0, 0)]⟩
 ·rintro x18_2 hg
  replace hg : g_ref28_put.j2 l r' at_1 x18_2 = some o1 := hg
  show awp _ _ _ _ (mk _ _ _)
  unfold g_ref28_put.j2 at hg
  refine cg_ rfl hg (fun h6 hg => ?_) fun h6 hg => ?_
  ·refine awp_skip ?_
   repeat first | refine st_ ?_ | refine sn_ ?_
   refine awp_block ?_
   refine awp_region (sys _ _ []) 1 25 mk_U rfl rfl ?_
   refine go_ ?_
   refine ch_n fun hU => ?_
   obtain rfl := Option.some.inj hg
   exact ⟨(W (at_1 + 1), m1), Nat.lt_succ_self _, hn1, sub_ [(0, 0)]⟩
  ·refine awp_exit ?_
   repeat first | refine st_ ?_ | refine sn_ ?_
   replace hg := leave hg hn1
   refine awp_seq ?_
   refine awp_cut (ι := Bool) (fun (x32_3 : Bool) => mk [(0, .sl 2 (encL api_Required.enc l)), (3, .ptr 0 0), (5, .val (.int .i64 at_1)), (32, .val (.bool x32_3))] [(0, .box [.val (.int .i64 r'.First), .val (.int .i64 r'.Then)] 54)] 1) (fun (x32_3 : Bool) => g_ref28_put.j3 l r' at_1 x32_3 = some r) ?_ ?_
   ·refine awp_draw (sys _ _ []) (by kernel_rfl) [0, 0, 2, 7, 15, 31, 31, 127, 255, 31, 1023, 2047] 1 97 mk_U rfl rfl (by kernel_rfl) ?_
    refine go_ ?_
    rcases bc_ hg with ⟨h8, hg⟩ | ⟨h8, hg⟩
    ·refine go_ ?_
     obtain ⟨e_2, he_2, hg⟩ := bind_some hg
     refine go_ ?_
     refine c0_ (gdv_t rfl rfl h8) rfl (r_loadEA ty54 (enc_cells api_Required.enc_len (getI_at he_2) (o := 0) (m := 2) (cs := [.int .i64 e_2.First, .int .i64 e_2.Then]) rfl (by decide) rfl) (enc_cells_le api_Required.enc_len (getI_at he_2) (o := 0) (m := 2) (by decide) rfl)) rfl rfl ?_
     refine go_ ?_
     refine c0_ (gdv_t rfl rfl h8) rfl (steq54_eql e_2 r') rfl rfl ?_
     refine go_ ?_
     refine ch_n fun hU => ?_
     exact ⟨decide (e_2 = r'), hg, sub_ [(0, 0)]⟩
    ·refine go_ ?_
     refine ch_n fun hU => ?_
     exact ⟨false, hg, sub_ [(0, 0)]⟩
   ·rintro x32_3 hg
    replace hg : g_ref28_put.j3 l r' at_1 x32_3 = some r := hg
    show awp _ _ _ _ (mk _ _ _)
    unfold g_ref28_put.j3 at hg
    refine cg_ rfl hg (fun h11 hg => ?_) fun h11 hg => ?_
    ·refine awp_seq ?_
     refine awp_region (sys _ _ []) 1 17 mk_U rfl rfl ?_
     refine go_ ?_
     refine ch_n fun hU => ?_
     refine aw_r ?_
     obtain rfl := Option.some.inj hg
     exact fin_ [] ⟨rfl, rfl⟩
    ·refine awp_skip ?_
     repeat first | refine st_ ?_ | refine sn_ ?_
     refine sr_ 1 41 mk_U ?_
     refine go_ ?_
     obtain ⟨l_2, hl_2, hg⟩ := bind_some hg
     refine c0_ rfl rfl (r_sliS_hi sl27 api_Required.enc_len hl_2) rfl rfl ?_
     obtain ⟨l_3, hl_3, hg⟩ := bind_some hg
     refine c0_ rfl rfl (r_append sl27 api_Required.enc_len .nil rfl .sl rfl hl_3 rfl) rfl rfl ?_
     refine go_ ?_
     refine ch_n fun hU => ?_
     refine sr_ 41 81 hU ?_
     refine go_ ?_
     refine c0_ rfl rfl (r_buildFull sl27 z54 (by decide) rfl rfl rfl rfl ck54 (cs := [.int .i64 r'.First, .int .i64 r'.Then]) (.cons .int (.cons .int .nil)) rfl (l := ([r'] : List api_Required)) (f := api_Required.enc) rfl) rfl rfl ?_
     obtain ⟨l_4, hl_4, hg⟩ := bind_some hg
     refine ch_s (rd := [25, 57]) rfl rfl (r_append sl27 api_Required.enc_len .row rfl .row rfl hl_4 rfl) rfl rfl ?_
     refine go_ ?_
     refine ch_n fun hU => ?_
     refine sr_ 81 129 hU ?_
     refine go_ ?_
     obtain ⟨l_5, hl_5, hg⟩ := bind_some hg
     refine c0_ rfl rfl (r_sliS_lo sl27 api_Required.enc_len hl_5) rfl rfl ?_
     obtain ⟨l_6, hl_6, hg⟩ := bind_some hg
     refine ch_s (rd := [65]) rfl rfl (r_append sl27 api_Required.enc_len .row rfl .sl rfl hl_6 rfl) rfl rfl ?_
     refine go_ ?_
     refine ch_n fun hU => ?_
     refine aw_r ?_
     obtain rfl := Option.some.inj hg
     exact fin_ [] ⟨rfl, rfl⟩
theorem w_ref28_Union (a : (List api_Required)) (b : (List api_Required)) (r : (List api_Required)) (hg : g_ref28_Union a b = some r) : Fn Try.prog 17 0 [.sl 2 (encL api_Required.enc a), .sl 2 (encL api_Required.enc b)] [] (fun d' b' => d' = .sl 2 (encL api_Required.enc r) ∧ b' = []) := by
 unfold g_ref28_Union at hg
 refine Fn.of Try.func17 rfl rfl rfl fun w0 I ρ0 => ?_
 show awp _ ⟨w0, I, ρ0, 0, 0, 31⟩ _ _ _
 refine sr_ 0 8 mk_U ?_
 refine go_ ?_
 refine ch_n fun hU => ?_
 refine sr_ 8 16 hU ?_
 refine go_ ?_
 refine ch_n fun hU => ?_
 refine awp_seq ?_
 refine sr_ 16 40 hU ?_
 refine go_ ?_
 refine ch_n fun hU => ?_
 refine awp_block ?_
 refine lp_ (fun ((out_1, x12_1) : List api_Required × Int) => mk [(1, .sl 2 (encL api_Required.enc b)), (5, .sl 2 (encL api_Required.enc out_1)), (10, .sl 2 (encL api_Required.enc a)), (11, .val (.int .i64 (a.length : Int))), (12, .val (.int .i64 x12_1))] [] 0) hg (sub_ []) ?_
 rintro ⟨out_1, x12_1⟩ m1 o1 hg hn1
 replace hg : g_ref28_Union.l1 a b out_1 x12_1 = some o1 := hg
 show awp _ _ _ _ (mk _ _ _)
 unfold g_ref28_Union.l1 at hg
 refine sr_ 0 8 mk_U ?_
 refine go_ ?_
 refine ch_n fun hU => ?_
 refine awp_seq ?_
 refine cg_ rfl hg (fun h5 hg => ?_) fun h5 hg => ?_
 ·refine awp_skip ?_
  repeat first | refine st_ ?_ | refine sn_ ?_
  refine awp_seq ?_
  refine awp_block ?_
  refine sr_ 8 40 hU ?_
  obtain ⟨e, he, hg⟩ := bind_some hg
  refine go_ ?_
  refine c0_ rfl rfl (r_loadEA ty54 (enc_cells api_Required.enc_len (getI_at he) (o := 0) (m := 2) (cs := [.int .i64 e.First, .int .i64 e.Then]) rfl (by decide) rfl) (enc_cells_le api_Required.enc_len (getI_at he) (o := 0) (m := 2) (by decide) rfl)) rfl rfl ?_
  refine go_ ?_
  refine ch_n fun hU => ?_
  refine awp_region (sys _ _ []) 40 72 hU rfl rfl ?_
  refine go_ ?_
  obtain ⟨y, hy, hg⟩ := bind_some hg
  refine ca_ (w_ref28_put _ _ _ hy) ?_
  refine go_ ?_
  refine ch_n fun hU => ?_
  refine awp_region (sys _ _ []) 72 88 hU rfl rfl ?_
  refine go_ ?_
  refine ch_n fun hU => ?_
  obtain rfl := Option.some.inj hg
  exact ⟨((y, W (x12_1 + 1)), m1), Nat.lt_succ_self _, hn1, sub_ []⟩
 ·refine awp_exit ?_
  repeat first | refine st_ ?_ | refine sn_ ?_
  replace hg := leave hg hn1
  refine awp_seq ?_
  refine sr_ 8 32 hU ?_
  refine go_ ?_
  refine ch_n fun hU => ?_
  refine awp_block ?_
  refine lp_ (fun ((out_2, x22_2) : List api_Required × Int) => mk [(5, .sl 2 (encL api_Required.enc out_2)), (20, .sl 2 (encL api_Required.enc b)), (21, .val (.int .i64 (b.length : Int))), (22, .val (.int .i64 x22_2))] [] 0) hg (sub_ []) ?_
  rintro ⟨out_2, x22_2⟩ m2 o2 hg hn2
  replace hg : g_ref28_Union.l2 b out_2 x22_2 = some o2 := hg
  show awp _ _ _ _ (mk _ _ _)
  unfold g_ref28_Union.l2 at hg
  refine sr_ 0 8 mk_U ?_
  refine go_ ?_
  refine ch_n fun hU => ?_
  refine awp_seq ?_
  refine cg_ rfl hg (fun h11 hg => ?_) fun h11 hg => ?_
  ·refine awp_skip ?_
   repeat first | refine st_ ?_ | refine sn_ ?_
   refine awp_seq ?_
   refine awp_block ?_
   refine sr_ 8 40 hU ?_
   obtain ⟨e_2, he_2, hg⟩ := bind_some hg
   refine go_ ?_
   refine c0_ rfl rfl (r_loadEA ty54 (enc_cells api_Required.enc_len (getI_at he_2) (o := 0) (m := 2) (cs := [.int .i64 e_2.First, .int .i64 e_2.Then]) rfl (by decide) rfl) (enc_cells_le api_Required.enc_len (getI_at he_2) (o := 0) (m := 2) (by decide) rfl)) rfl rfl ?_
   refine go_ ?_
   refine ch_n fun hU => ?_
   refine awp_region (sys _ _ []) 40 72 hU rfl rfl ?_
   refine go_ ?_
   obtain ⟨y_2, hy_2, hg⟩ := bind_some hg
   refine ca_ (w_ref28_put _ _ _ hy_2) ?_
   refine go_ ?_
   refine ch_n fun hU => ?_
   refine awp_region (sys _ _ []) 72 88 hU rfl rfl ?_
   refine go_ ?_
   refine ch_n fun hU => ?_
   obtain rfl := Option.some.inj hg
   exact ⟨((y_2, W (x22_2 + 1)), m2), Nat.lt_succ_self _, hn2, sub_ []⟩
  ·refine awp_exit ?_
   repeat first | refine st_ ?_ | refine sn_ ?_
   replace hg := leave hg hn2
   refine sr_ 8 24 hU ?_
   refine go_ ?_
   refine ch_n fun hU => ?_
   refine aw_r ?_
   obtain rfl := Option.some.inj hg
   exact fin_ [] ⟨rfl, rfl⟩
theorem w_move_Needs (d : cipherplanmake_Dice) (n : Int) (r : (List api_Required) × cipherplanmake_Dice) (hg : g_move_Needs d n = some r) : Fn Try.prog 8 1 [.ptr 0 0, .val (.int .i64 n)] [.box [.sl 1 (encL eI d.L), .val (.int .i64 d.At)] 51] (fun d' b' => d' = .sl 2 (encL api_Required.enc r.1) ∧ b' = [.box [.sl 1 (encL eI r.2.L), .val (.int .i64 r.2.At)] 51]) := by
 unfold g_move_Needs at hg
 refine Fn.of Try.func8 rfl rfl rfl fun w0 I ρ0 => ?_
 show awp _ ⟨w0, I, ρ0, 1, 1, 38⟩ _ _ _
 refine sr_ 1 9 mk_U ?_
 refine go_ ?_
 refine ch_n fun hU => ?_
 refine sr_ 9 17 hU ?_
 refine go_ ?_
 refine ch_n fun hU => ?_
 refine awp_seq ?_
 refine sr_ 17 65 hU ?_
 refine go_ ?_
 obtain ⟨y, hy, hg⟩ := bind_some hg
 refine cb_ [0] [0] [] false (w_make_Dice_Next _ _ _ hy) ?_
 refine go_ ?_
 refine ch_n fun hU => ?_
 refine awp_block ?_
 refine lp_ (fun ((l_1, k_1, d_1) : List api_Required × Int × cipherplanmake_Dice) => mk [(0, .ptr 0 0), (1, .val (.int .i64 n)), (5, .sl 2 (encL api_Required.enc l_1)), (6, .val (.int .i64 k_1))] [(0, .box [.sl 1 (encL eI d_1.L), .val (.int .i64 d_1.At)] 51)] 1) hg (sub_ [(0, 0)]) ?_
 rintro ⟨l_1, k_1, d_1⟩ m1 o1 hg hn1
 replace hg : g_move_Needs.l1 n l_1 k_1 d_1 = some o1 := hg
 show awp _ _ _ _ (mk _ _ _)
 unfold g_move_Needs.l1 at hg
 refine awp_seq ?_
 refine awp_cut (ι := Bool) (fun (x19_2 : Bool) => mk [(0, .ptr 0 0), (1, .val (.int .i64 n)), (5, .sl 2 (encL api_Required.enc l_1)), (6, .val (.int .i64 k_1)), (19, .val (.bool x19_2))] [(0, .box [.sl 1 (encL eI d_1.L), .val (.int .i64 d_1.At)] 51)] 1) (fun (x19_2 : Bool) => g_move_Needs.j2 n l_1 k_1 d_1 x19_2 = some o1) ?_ ?_
 ·refine awp_region (sys _ _ []) 1 49 mk_U rfl rfl ?_
  refine go_ ?_
  rcases bc_ hg with ⟨h4, hg⟩ | ⟨h4, hg⟩
  ·refine go_ ?_
   refine ch_n fun hU => ?_
   exact ⟨decide (1 < n), hg, sub_ [(0, 0)]⟩
  ·refine go_ ?_
   refine ch_n fun hU => ?_
   exact ⟨false, hg, sub_ [(0, 0)]⟩
 ·rintro x19_2 hg
  replace hg : g_move_Needs.j2 n l_1 k_1 d_1 x19_2 = some o1 := hg
  show awp _ _ _ _ (mk _ _ _)
  unfold g_move_Needs.j2 at hg
  refine cg_ rfl hg (fun h7 hg => ?_) fun h7 hg => ?_
  ·refine awp_skip ?_
   repeat first | refine st_ ?_ | refine sn_ ?_
   refine awp_cut (ι := List api_Required × cipherplanmake_Dice) (fun ((l_3, d_3) : List api_Required × cipherplanmake_Dice) => mk [(0, .ptr 0 0), (1, .val (.int .i64 n)), (5, .sl 2 (encL api_Required.enc l_3)), (6, .val (.int .i64 k_1))] [(0, .box [.sl 1 (encL eI d_3.L), .val (.int .i64 d_3.At)] 51)] 1) (fun ((l_3, d_3) : List api_Required × cipherplanmake_Dice) => g_move_Needs.j3 k_1 l_3 d_3 = some o1) ?_ ?_
   ·refine awp_block ?_
    refine sr_ 1 65 mk_U ?_
    refine go_ ?_
    obtain ⟨y_2, hy_2, hg⟩ := bind_some hg
    refine cb_ [0] [0] [] false (w_make_Dice_Next _ _ _ hy_2) ?_
    refine go_ ?_
    obtain ⟨y_3, hy_3, hg⟩ := bind_some hg
    refine cb_ [0] [0] [] false (w_make_Dice_Next _ _ _ hy_3) ?_
    refine go_ ?_
    refine ch_n fun hU => ?_
    refine sr_ 65 89 hU ?_
    refine go_ ?_
    refine ch_n fun hU => ?_
    refine cg_ rfl hg (fun h10 hg => ?_) fun h10 hg => ?_
    ·refine awp_region (sys _ _ [121]) 89 145 hU rfl rfl ?_
     refine go_ ?_
     refine c0_ rfl rfl (.build (r := [.val (.int .i64 y_2.1), .val (.int .i64 y_3.1)]) und54 pl54 z54 (by kernel_rfl) rfl) rfl rfl ?_
     refine ch_z (rd := []) rfl rfl (r_buildFull sl27 z54 (by decide) rfl rfl rfl rfl ck54 (cs := [.int .i64 y_2.1, .int .i64 y_3.1]) (.cons .int (.cons .int .nil)) rfl (l := ([(api_Required.mk y_2.1 y_3.1)] : List api_Required)) (f := api_Required.enc) rfl) rfl rfl rfl ?_
     obtain ⟨y_4, hy_4, hg⟩ := bind_some hg
     refine ca_ (w_ref28_Union _ _ _ hy_4) ?_
     refine go_ ?_
     refine ch_n fun hU => ?_
     exact ⟨(y_4, y_3.2), hg, sub_ [(0, 0)]⟩
    ·refine awp_skip ?_
     repeat first | refine st_ ?_ | refine sn_ ?_
     exact ⟨(l_1, y_3.2), hg, sub_ [(0, 0)]⟩
   ·rintro ⟨l_3, d_3⟩ hg
    replace hg : g_move_Needs.j3 k_1 l_3 d_3 = some o1 := hg
    show awp _ _ _ _ (mk _ _ _)
    unfold g_move_Needs.j3 at hg
    refine awp_region (sys _ _ []) 1 25 mk_U rfl rfl ?_
    refine go_ ?_
    refine ch_n fun hU => ?_
    obtain rfl := Option.some.inj hg
    exact ⟨((l_3, W (k_1 - 1), d_3), m1), Nat.lt_succ_self _, hn1, sub_ [(0, 0)]⟩
  ·refine awp_exit ?_
   repeat first | refine st_ ?_ | refine sn_ ?_
   replace hg := leave hg hn1
   refine sr_ 1 17 mk_U ?_
   refine go_ ?_
   refine ch_n fun hU => ?_
   refine aw_r ?_
   obtain rfl := Option.some.inj hg
   exact fin_ [(0, 0)] ⟨rfl, rfl⟩
theorem w_ref28_Ways (n : Int) (l : (List api_Required)) (r : (List (List Bool))) (hg : g_ref28_Ways n l = some r) : Fn Try.prog 11 0 [.val (.int .i64 n), .sl 2 (encL api_Required.enc l)] [] (fun d' b' => d' = .sl 1 (encL (eL 1 eB) r) ∧ b' = []) := by
 unfold g_ref28_Ways at hg
 refine Fn.of Try.func11 rfl rfl rfl fun w0 I ρ0 => ?_
 show awp _ ⟨w0, I, ρ0, 0, 0, 73⟩ _ _ _
 refine sr_ 0 8 mk_U ?_
 refine go_ ?_
 refine ch_n fun hU => ?_
 refine sr_ 8 16 hU ?_
 refine go_ ?_
 refine ch_n fun hU => ?_
 refine awp_seq ?_
 refine awp_seq ?_
 refine awp_sub (σ' := mk [(0, .val (.int .i64 n)), (1, .sl 2 (encL api_Required.enc l)), (5, .val (.slice none 0 0))] [] 0) (sub_ []) ?_
 refine awp_sub (mkT_ 5 34 1 0 4 1 (encL (eL 1 eB) ([] : List (List Bool))) rfl rfl (by decide)) ?_
 refine awp_region (sys _ _ []) 2 18 mk_U rfl rfl ?_
 refine go_ ?_
 refine ch_n fun hU => ?_
 refine awp_block ?_
 refine lp_ (fun ((x12_2, out_2) : Int × List (List Bool)) => mk [(0, .val (.int .i64 n)), (1, .sl 2 (encL api_Required.enc l)), (5, .row 0), (11, .val (.int .i64 n)), (12, .val (.int .i64 x12_2))] [(0, .tree 34 1 0 4 1 1 none (encL (eL 1 eB) out_2)), (1, .gho)] 2) hg (sub_ [(0, 0), (1, 1)]) ?_
 rintro ⟨x12_2, out_2⟩ m2 o2 hg hn2
 replace hg : g_ref28_Ways.l2 n l x12_2 out_2 = some o2 := hg
 show awp _ _ _ _ (mk _ _ _)
 unfold g_ref28_Ways.l2 at hg
 refine sr_ 2 10 mk_U ?_
 refine go_ ?_
 refine ch_n fun hU => ?_
 refine awp_seq ?_
 refine cg_ rfl hg (fun h5 hg => ?_) fun h5 hg => ?_
 ·refine awp_skip ?_
  repeat first | refine st_ ?_ | refine sn_ ?_
  refine awp_seq ?_
  refine awp_block ?_
  refine awp_region (sys _ _ []) 10 58 hU rfl rfl ?_
  refine go_ ?_
  obtain ⟨m, hm, hg⟩ := bind_some hg
  refine c0_ rfl rfl (r_makeSl (f := eB) sl34 z4 ck4 (.cons .bool .nil) rfl hm rfl) rfl rfl ?_
  refine ch_x (rd := [26]) rfl rfl (x_buildT (o := 0) (r := [.row 26]) (pre := []) (post := []) (ck1 := []) (ck2 := []) (cs1 := encL (eL 1 eB) ([m] : List (List Bool))) sl31 z34 (by decide) (by kernel_rfl) rfl rfl rfl .nil .nil (List.Mem.head _) rfl rfl) rfl rfl (fun _ => ⟨_, rfl⟩) ?_
  rintro _ rfl
  obtain ⟨l_2, hl_2, hg⟩ := bind_some hg
  refine ch_x (rd := [0, 34]) rfl rfl (x_appT sl31 (eL_len _ _) (List.Mem.head _) (List.Mem.tail _ (List.Mem.head _)) rfl hl_2 rfl rfl rfl) rfl rfl (fun _ => ⟨_, rfl⟩) ?_
  rintro _ rfl
  refine go_ ?_
  refine ch_n fun hU => ?_
  refine awp_region (sys _ _ []) 58 74 hU rfl rfl ?_
  refine go_ ?_
  refine ch_n fun hU => ?_
  obtain rfl := Option.some.inj hg
  exact ⟨((W (x12_2 + 1), l_2), m2), Nat.lt_succ_self _, hn2, sub_ [(0, 42), (1, 43)]⟩
 ·refine awp_exit ?_
  repeat first | refine st_ ?_ | refine sn_ ?_
  replace hg := leave hg hn2
  refine awp_seq ?_
  refine sr_ 10 34 hU ?_
  refine go_ ?_
  refine ch_n fun hU => ?_
  refine awp_block ?_
  refine lp_ (fun ((x22_3, out_3) : Int × List (List Bool)) => mk [(0, .val (.int .i64 n)), (5, .row 0), (20, .sl 2 (encL api_Required.enc l)), (21, .val (.int .i64 (l.length : Int))), (22, .val (.int .i64 x22_3))] [(0, .tree 34 1 0 4 1 1 none (encL (eL 1 eB) out_3)), (1, .gho)] 2) hg (sub_ [(0, 0), (1, 1)]) ?_
  rintro ⟨x22_3, out_3⟩ m3 o3 hg hn3
  replace hg : g_ref28_Ways.l3 n l x22_3 out_3 = some o3 := hg
  show awp _ _ _ _ (mk _ _ _)
  unfold g_ref28_Ways.l3 at hg
  refine sr_ 2 10 mk_U ?_
  refine go_ ?_
  refine ch_n fun hU => ?_
  refine awp_seq ?_
  refine cg_ rfl hg (fun h10 hg => ?_) fun h10 hg => ?_
  ·refine awp_skip ?_
   repeat first | refine st_ ?_ | refine sn_ ?_
   refine awp_seq ?_
   refine awp_block ?_
   refine sr_ 10 42 hU ?_
   obtain ⟨e, he, hg⟩ := bind_some hg
   refine go_ ?_
   refine c0_ rfl rfl (r_loadEA ty54 (enc_cells api_Required.enc_len (getI_at he) (o := 0) (m := 2) (cs := [.int .i64 e.First, .int .i64 e.Then]) rfl (by decide) rfl) (enc_cells_le api_Required.enc_len (getI_at he) (o := 0) (m := 2) (by decide) rfl)) rfl rfl ?_
   refine go_ ?_
   refine ch_n fun hU => ?_
   refine awp_draw (sys _ _ []) (by kernel_rfl) [0, 0, 2, 7, 15, 0, 32, 127, 255] 42 114 hU rfl rfl (by kernel_rfl) ?_
   refine go_ ?_
   obtain ⟨e_2, he_2, hg⟩ := bind_some hg
   refine ch_s (rd := [0]) rfl rfl (.idxT sl31 (getI_ix he_2) (enc_le (eL_len _ _) (getI_at he_2))) rfl rfl ?_
   refine ch_s (rd := [0]) rfl rfl (.loadTN ty34 (by decide) rfl no_hole (enc_lt (eL_len _ _) (getI_at he_2) (o := 0) (by decide) rfl)) rfl rfl ?_
   refine go_ ?_
   obtain ⟨e_3, he_3, hg⟩ := bind_some hg
   refine ch_s (rd := [0]) rfl rfl (.idxN sl34 (enc_cell (eL_len _ _) (getI_at he_2) (o := 0) (c := .sl 1 (encL eB e_2)) rfl rfl) no_hole (getI_ix he_3) (enc_le eB_len (getI_at he_3))) rfl rfl ?_
   refine ch_x (rd := [0, 1]) rfl rfl (x_storeN ty4 (enc_cell (eL_len _ _) (getI_at he_2) (o := 0) (c := .sl 1 (encL eB e_2)) rfl rfl) rfl (enc_cells_le eB_len (getI_at he_3) (o := 0) (m := 1) (by decide) rfl) (ck := [none]) (cs' := [.bool true]) (.cons .bool .nil) (List.Mem.head _) (enc_splice eB_len (getI_at he_3) (o := 0) (x' := true) (Nat.le_of_ble_eq_true rfl) rfl rfl) (enc_set (eL_len _ _) (getI_at he_2) (o := 0) (x' := (setI e_2 ((e.Then).toNat) true)) (by decide) rfl rfl)) rfl rfl (fun _ => ⟨_, rfl⟩) ?_
   rintro _ rfl
   refine ch_n fun hU => ?_
   refine awp_region (sys _ _ []) 114 130 hU rfl rfl ?_
   refine go_ ?_
   refine ch_n fun hU => ?_
   obtain rfl := Option.some.inj hg
   exact ⟨((W (x22_3 + 1), setI out_3 ((e.First).toNat) (setI e_2 ((e.Then).toNat) true)), m3), Nat.lt_succ_self _, hn3, sub_ [(0, 0), (1, 1)]⟩
  ·refine awp_exit ?_
   repeat first | refine st_ ?_ | refine sn_ ?_
   replace hg := leave hg hn3
   refine awp_seq ?_
   refine sr_ 10 26 hU ?_
   refine go_ ?_
   refine ch_n fun hU => ?_
   refine awp_block ?_
   refine lp_ (fun ((x36_4, out_4) : Int × List (List Bool)) => mk [(0, .val (.int .i64 n)), (5, .row 0), (35, .val (.int .i64 n)), (36, .val (.int .i64 x36_4))] [(0, .tree 34 1 0 4 1 1 none (encL (eL 1 eB) out_4)), (1, .gho)] 2) hg (sub_ [(0, 0), (1, 1)]) ?_
   rintro ⟨x36_4, out_4⟩ m4 o4 hg hn4
   replace hg : g_ref28_Ways.l4 n x36_4 out_4 = some o4 := hg
   show awp _ _ _ _ (mk _ _ _)
   unfold g_ref28_Ways.l4 at hg
   refine sr_ 2 10 mk_U ?_
   refine go_ ?_
   refine ch_n fun hU => ?_
   refine awp_seq ?_
   refine cg_ rfl hg (fun h16 hg => ?_) fun h16 hg => ?_
   ·refine awp_skip ?_
    repeat first | refine st_ ?_ | refine sn_ ?_
    refine awp_seq ?_
    refine awp_block ?_
    refine sr_ 10 26 hU ?_
    refine go_ ?_
    refine ch_n fun hU => ?_
    refine sr_ 26 42 hU ?_
    refine go_ ?_
    refine ch_n fun hU => ?_
    refine awp_block ?_
    refine lp_ (fun ((x40_5, out_5) : Int × List (List Bool)) => mk [(0, .val (.int .i64 n)), (5, .row 0), (8, .val (.int .i64 x36_4)), (35, .val (.int .i64 n)), (36, .val (.int .i64 x36_4)), (39, .val (.int .i64 n)), (40, .val (.int .i64 x40_5))] [(0, .tree 34 1 0 4 1 1 none (encL (eL 1 eB) out_5)), (1, .gho)] 2) hg (sub_ [(0, 0), (1, 1)]) ?_
    rintro ⟨x40_5, out_5⟩ m5 o5 hg hn5
    replace hg : g_ref28_Ways.l5 n x36_4 x40_5 out_5 = some o5 := hg
    show awp _ _ _ _ (mk _ _ _)
    unfold g_ref28_Ways.l5 at hg
    refine sr_ 2 10 mk_U ?_
    refine go_ ?_
    refine ch_n fun hU => ?_
    refine awp_seq ?_
    refine cg_ rfl hg (fun h20 hg => ?_) fun h20 hg => ?_
    ·refine awp_skip ?_
     repeat first | refine st_ ?_ | refine sn_ ?_
     refine awp_seq ?_
     refine awp_block ?_
     refine sr_ 10 26 hU ?_
     refine go_ ?_
     refine ch_n fun hU => ?_
     refine sr_ 26 42 hU ?_
     refine go_ ?_
     refine ch_n fun hU => ?_
     refine awp_block ?_
     refine lp_ (fun ((x44_6, out_6) : Int × List (List Bool)) => mk [(0, .val (.int .i64 n)), (5, .row 0), (8, .val (.int .i64 x36_4)), (9, .val (.int .i64 x40_5)), (35, .val (.int .i64 n)), (36, .val (.int .i64 x36_4)), (39, .val (.int .i64 n)), (40, .val (.int .i64 x40_5)), (43, .val (.int .i64 n)), (44, .val (.int .i64 x44_6))] [(0, .tree 34 1 0 4 1 1 none (encL (eL 1 eB) out_6)), (1, .gho)] 2) hg (sub_ [(0, 0), (1, 1)]) ?_
     rintro ⟨x44_6, out_6⟩ m6 o6 hg hn6
     replace hg : g_ref28_Ways.l6 n x36_4 x40_5 x44_6 out_6 = some o6 := hg
     show awp _ _ _ _ (mk _ _ _)
     unfold g_ref28_Ways.l6 at hg
     refine sr_ 2 10 mk_U ?_
     refine go_ ?_
     refine ch_n fun hU => ?_
     refine awp_seq ?_
     refine cg_ rfl hg (fun h24 hg => ?_) fun h24 hg => ?_
     ·refine awp_skip ?_
      repeat first | refine st_ ?_ | refine sn_ ?_
      refine awp_cut (ι := List (List Bool)) (fun (out_8 : List (List Bool)) => mk [(0, .val (.int .i64 n)), (5, .row 0), (8, .val (.int .i64 x36_4)), (9, .val (.int .i64 x40_5)), (35, .val (.int .i64 n)), (36, .val (.int .i64 x36_4)), (39, .val (.int .i64 n)), (40, .val (.int .i64 x40_5)), (43, .val (.int .i64 n)), (44, .val (.int .i64 x44_6))] [(0, .tree 34 1 0 4 1 1 none (encL (eL 1 eB) out_8)), (1, .gho)] 2) (fun (out_8 : List (List Bool)) => g_ref28_Ways.j8 x44_6 out_8 = some o6) ?_ ?_
      ·refine awp_block ?_
       refine sr_ 10 26 hU ?_
       refine go_ ?_
       refine ch_n fun hU => ?_
       refine awp_cut (ι := Bool) (fun (x62_7 : Bool) => mk [(0, .val (.int .i64 n)), (5, .row 0), (8, .val (.int .i64 x36_4)), (9, .val (.int .i64 x40_5)), (10, .val (.int .i64 x44_6)), (35, .val (.int .i64 n)), (36, .val (.int .i64 x36_4)), (39, .val (.int .i64 n)), (40, .val (.int .i64 x40_5)), (43, .val (.int .i64 n)), (44, .val (.int .i64 x44_6)), (62, .val (.bool x62_7))] [(0, .tree 34 1 0 4 1 1 none (encL (eL 1 eB) out_6)), (1, .gho)] 2) (fun (x62_7 : Bool) => g_ref28_Ways.j7 x40_5 x44_6 out_6 x62_7 = some o6) ?_ ?_
       ·refine awp_region (sys _ _ []) 26 154 hU rfl rfl ?_
        refine go_ ?_
        obtain ⟨e_4, he_4, hg⟩ := bind_some hg
        refine ch_s (rd := [0]) rfl rfl (.idxT sl31 (getI_ix he_4) (enc_le (eL_len _ _) (getI_at he_4))) rfl rfl ?_
        refine ch_s (rd := [0]) rfl rfl (.loadTN ty34 (by decide) rfl no_hole (enc_lt (eL_len _ _) (getI_at he_4) (o := 0) (by decide) rfl)) rfl rfl ?_
        refine go_ ?_
        obtain ⟨e_5, he_5, hg⟩ := bind_some hg
        refine ch_s (rd := [0]) rfl rfl (.idxN sl34 (enc_cell (eL_len _ _) (getI_at he_4) (o := 0) (c := .sl 1 (encL eB e_4)) rfl rfl) no_hole (getI_ix he_5) (enc_le eB_len (getI_at he_5))) rfl rfl ?_
        refine ch_s (rd := [0]) rfl rfl (.loadN1 ty4 (enc_cell (eL_len _ _) (getI_at he_4) (o := 0) (c := .sl 1 (encL eB e_4)) rfl rfl) no_hole (enc_cell eB_len (getI_at he_5) (o := 0) (c := .bool e_5) rfl rfl)) rfl rfl ?_
        refine go_ ?_
        rcases bc_ hg with ⟨h26, hg⟩ | ⟨h26, hg⟩
        ·refine go_ ?_
         obtain ⟨e_6, he_6, hg⟩ := bind_some hg
         refine ch_s (rd := [0]) (gdv_t rfl rfl h26) rfl (.idxT sl31 (getI_ix he_6) (enc_le (eL_len _ _) (getI_at he_6))) rfl rfl ?_
         refine ch_s (rd := [0]) (gdv_t rfl rfl h26) rfl (.loadTN ty34 (by decide) rfl no_hole (enc_lt (eL_len _ _) (getI_at he_6) (o := 0) (by decide) rfl)) rfl rfl ?_
         refine go_ ?_
         obtain ⟨e_7, he_7, hg⟩ := bind_some hg
         refine ch_s (rd := [0]) (gdv_t rfl rfl h26) rfl (.idxN sl34 (enc_cell (eL_len _ _) (getI_at he_6) (o := 0) (c := .sl 1 (encL eB e_6)) rfl rfl) no_hole (getI_ix he_7) (enc_le eB_len (getI_at he_7))) rfl rfl ?_
         refine ch_s (rd := [0]) (gdv_t rfl rfl h26) rfl (.loadN1 ty4 (enc_cell (eL_len _ _) (getI_at he_6) (o := 0) (c := .sl 1 (encL eB e_6)) rfl rfl) no_hole (enc_cell eB_len (getI_at he_7) (o := 0) (c := .bool e_7) rfl rfl)) rfl rfl ?_
         refine go_ ?_
         refine ch_n fun hU => ?_
         exact ⟨e_7, hg, sub_ [(0, 0), (1, 1)]⟩
        ·refine go_ ?_
         refine ch_n fun hU => ?_
         exact ⟨false, hg, sub_ [(0, 0), (1, 1)]⟩
       ·rintro x62_7 hg
        replace hg : g_ref28_Ways.j7 x40_5 x44_6 out_6 x62_7 = some o6 := hg
        show awp _ _ _ _ (mk _ _ _)
        unfold g_ref28_Ways.j7 at hg
        refine cg_ rfl hg (fun h29 hg => ?_) fun h29 hg => ?_
        ·refine awp_region (sys _ _ []) 2 58 mk_U rfl rfl ?_
         refine go_ ?_
         obtain ⟨e_8, he_8, hg⟩ := bind_some hg
         refine ch_s (rd := [0]) rfl rfl (.idxT sl31 (getI_ix he_8) (enc_le (eL_len _ _) (getI_at he_8))) rfl rfl ?_
         refine ch_s (rd := [0]) rfl rfl (.loadTN ty34 (by decide) rfl no_hole (enc_lt (eL_len _ _) (getI_at he_8) (o := 0) (by decide) rfl)) rfl rfl ?_
         refine go_ ?_
         obtain ⟨e_9, he_9, hg⟩ := bind_some hg
         refine ch_s (rd := [0]) rfl rfl (.idxN sl34 (enc_cell (eL_len _ _) (getI_at he_8) (o := 0) (c := .sl 1 (encL eB e_8)) rfl rfl) no_hole (getI_ix he_9) (enc_le eB_len (getI_at he_9))) rfl rfl ?_
         refine ch_x (rd := [0, 1]) rfl rfl (x_storeN ty4 (enc_cell (eL_len _ _) (getI_at he_8) (o := 0) (c := .sl 1 (encL eB e_8)) rfl rfl) rfl (enc_cells_le eB_len (getI_at he_9) (o := 0) (m := 1) (by decide) rfl) (ck := [none]) (cs' := [.bool true]) (.cons .bool .nil) (List.Mem.head _) (enc_splice eB_len (getI_at he_9) (o := 0) (x' := true) (Nat.le_of_ble_eq_true rfl) rfl rfl) (enc_set (eL_len _ _) (getI_at he_8) (o := 0) (x' := (setI e_8 ((x44_6).toNat) true)) (by decide) rfl rfl)) rfl rfl (fun _ => ⟨_, rfl⟩) ?_
         rintro _ rfl
         refine ch_n fun hU => ?_
         exact ⟨setI out_6 ((x40_5).toNat) (setI e_8 ((x44_6).toNat) true), hg, sub_ [(0, 0), (1, 1)]⟩
        ·refine awp_skip ?_
         repeat first | refine st_ ?_ | refine sn_ ?_
         exact ⟨out_6, hg, sub_ [(0, 0), (1, 1)]⟩
      ·rintro out_8 hg
       replace hg : g_ref28_Ways.j8 x44_6 out_8 = some o6 := hg
       show awp _ _ _ _ (mk _ _ _)
       unfold g_ref28_Ways.j8 at hg
       refine awp_region (sys _ _ []) 2 18 mk_U rfl rfl ?_
       refine go_ ?_
       refine ch_n fun hU => ?_
       obtain rfl := Option.some.inj hg
       exact ⟨((W (x44_6 + 1), out_8), m6), Nat.lt_succ_self _, hn6, sub_ [(0, 0), (1, 1)]⟩
     ·refine awp_exit ?_
      repeat first | refine st_ ?_ | refine sn_ ?_
      replace hg := leave hg hn6
      refine awp_region (sys _ _ []) 10 26 hU rfl rfl ?_
      refine go_ ?_
      refine ch_n fun hU => ?_
      obtain rfl := Option.some.inj hg
      exact ⟨((W (x40_5 + 1), out_6), m5), Nat.lt_succ_self _, hn5, sub_ [(0, 0), (1, 1)]⟩
    ·refine awp_exit ?_
     repeat first | refine st_ ?_ | refine sn_ ?_
     replace hg := leave hg hn5
     refine awp_region (sys _ _ []) 10 26 hU rfl rfl ?_
     refine go_ ?_
     refine ch_n fun hU => ?_
     obtain rfl := Option.some.inj hg
     exact ⟨((W (x36_4 + 1), out_5), m4), Nat.lt_succ_self _, hn4, sub_ [(0, 0), (1, 1)]⟩
   ·refine awp_exit ?_
    repeat first | refine st_ ?_ | refine sn_ ?_
    replace hg := leave hg hn4
    refine sr_ 10 26 hU ?_
    refine go_ ?_
    refine ch_n fun hU => ?_
    refine aw_r ?_
    obtain rfl := Option.some.inj hg
    exact fin_ [] ⟨rfl, rfl⟩
theorem w_ref28_Same (a : (List api_Required)) (b : (List api_Required)) (r : Bool) (hg : g_ref28_Same a b = some r) : Fn Try.prog 12 0 [.sl 2 (encL api_Required.enc a), .sl 2 (encL api_Required.enc b)] [] (fun d' b' => d' = .val (.bool r) ∧ b' = []) := by
 unfold g_ref28_Same at hg
 refine Fn.of Try.func12 rfl rfl rfl fun w0 I ρ0 => ?_
 show awp _ ⟨w0, I, ρ0, 0, 0, 26⟩ _ _ _
 refine sr_ 0 8 mk_U ?_
 refine go_ ?_
 refine ch_n fun hU => ?_
 refine awp_seq ?_
 refine sr_ 8 48 hU ?_
 refine go_ ?_
 refine ch_n fun hU => ?_
 refine cg_ rfl hg (fun h3 hg => ?_) fun h3 hg => ?_
 ·refine awp_seq ?_
  refine awp_region (sys _ _ []) 48 56 hU rfl rfl ?_
  refine go_ ?_
  refine ch_n fun hU => ?_
  refine aw_r ?_
  obtain rfl := Option.some.inj hg
  exact fin_ [] ⟨rfl, rfl⟩
 ·refine awp_skip ?_
  repeat first | refine st_ ?_ | refine sn_ ?_
  refine awp_seq ?_
  refine sr_ 48 72 hU ?_
  refine go_ ?_
  refine ch_n fun hU => ?_
  refine awp_block ?_
  refine lp_ (fun (x13_1 : Int) => mk [(0, .sl 2 (encL api_Required.enc a)), (1, .sl 2 (encL api_Required.enc b)), (12, .val (.int .i64 (a.length : Int))), (13, .val (.int .i64 x13_1))] [] 0) hg (sub_ []) ?_
  rintro x13_1 m1 o1 hg hn1
  replace hg : g_ref28_Same.l1 a b x13_1 = some o1 := hg
  show awp _ _ _ _ (mk _ _ _)
  unfold g_ref28_Same.l1 at hg
  refine sr_ 0 8 mk_U ?_
  refine go_ ?_
  refine ch_n fun hU => ?_
  refine awp_seq ?_
  refine cg_ rfl hg (fun h7 hg => ?_) fun h7 hg => ?_
  ·refine awp_skip ?_
   repeat first | refine st_ ?_ | refine sn_ ?_
   refine awp_seq ?_
   refine awp_block ?_
   refine sr_ 8 24 hU ?_
   refine go_ ?_
   refine ch_n fun hU => ?_
   refine awp_seq ?_
   refine awp_draw (sys _ _ []) (by kernel_rfl) [0, 0, 3, 7, 0, 0, 48, 112, 255] 24 96 hU rfl rfl (by kernel_rfl) ?_
   refine go_ ?_
   obtain ⟨e, he, hg⟩ := bind_some hg
   refine go_ ?_
   refine c0_ rfl rfl (r_loadEA ty54 (enc_cells api_Required.enc_len (getI_at he) (o := 0) (m := 2) (cs := [.int .i64 e.First, .int .i64 e.Then]) rfl (by decide) rfl) (enc_cells_le api_Required.enc_len (getI_at he) (o := 0) (m := 2) (by decide) rfl)) rfl rfl ?_
   refine go_ ?_
   obtain ⟨e_2, he_2, hg⟩ := bind_some hg
   refine go_ ?_
   refine c0_ rfl rfl (r_loadEA ty54 (enc_cells api_Required.enc_len (getI_at he_2) (o := 0) (m := 2) (cs := [.int .i64 e_2.First, .int .i64 e_2.Then]) rfl (by decide) rfl) (enc_cells_le api_Required.enc_len (getI_at he_2) (o := 0) (m := 2) (by decide) rfl)) rfl rfl ?_
   refine c0_ rfl rfl (steq54_neq e e_2) rfl rfl ?_
   refine ch_n fun hU => ?_
   refine cg_ rfl hg (fun h10 hg => ?_) fun h10 hg => ?_
   ·refine awp_seq ?_
    refine awp_region (sys _ _ []) 96 104 hU rfl rfl ?_
    refine go_ ?_
    refine ch_n fun hU => ?_
    refine aw_r ?_
    replace hg := leave hg hn1
    obtain rfl := Option.some.inj hg
    exact fin_ [] ⟨rfl, rfl⟩
   ·refine awp_skip ?_
    repeat first | refine st_ ?_ | refine sn_ ?_
    refine awp_region (sys _ _ []) 96 112 hU rfl rfl ?_
    refine go_ ?_
    refine ch_n fun hU => ?_
    obtain rfl := Option.some.inj hg
    exact ⟨(W (x13_1 + 1), m1), Nat.lt_succ_self _, hn1, sub_ []⟩
  ·refine awp_exit ?_
   repeat first | refine st_ ?_ | refine sn_ ?_
   replace hg := leave hg hn1
   refine sr_ 8 16 hU ?_
   refine go_ ?_
   refine ch_n fun hU => ?_
   refine aw_r ?_
   obtain rfl := Option.some.inj hg
   exact fin_ [] ⟨rfl, rfl⟩
end Go.Proofs.Ytkpcbnnlefcebaa
