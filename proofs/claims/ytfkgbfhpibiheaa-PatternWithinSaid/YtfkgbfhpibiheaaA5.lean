/- The program computes the plain functions. -/
import Derived.Test.YtfkgbfhpibiheaaT1
import Derived.Test.YtfkgbfhpibiheaaA1
import Derived.Test.YtfkgbfhpibiheaaA3
import Derived.Test.YtfkgbfhpibiheaaA4
set_option linter.unusedVariables false
set_option linter.unusedSimpArgs false
set_option maxRecDepth 100000
set_option maxHeartbeats 1600000
namespace Go.Proofs.Ytfkgbfhpibiheaa
open Go.RowKit
theorem w_pattern_first_c1 (h' : api_Hit) (c0 : (List Int)) (r : Bool × (List Int)) (hg : g_pattern_first_c1 h' c0 = some r) : Fn Try.prog 53 1 [.agg [.val (.int .i64 h'.Pattern), .val (.int .i64 h'.At)], .ptr 0 0] [.box [.row 1] 22, .row 3 1 (encL eI c0)] (fun d' b' => d' = .val (.bool r.1) ∧ b' = [.box [.row 1] 22, .row 3 1 (encL eI r.2)]) := by
 unfold g_pattern_first_c1 at hg
 refine Fn.of Try.func53 rfl rfl rfl fun w0 I ρ0 => ?_
 show awp _ ⟨w0, I, ρ0, 1, 2, 16⟩ _ _ _
 refine sr_ 2 18 mk_U ?_
 refine go_ ?_
 refine ch_n fun hU => ?_
 refine awp_seq ?_
 refine sr_ 18 66 hU ?_
 refine go_ ?_
 obtain ⟨e, he, hg⟩ := bind_some hg
 refine go_ ?_
 refine ch_s (rd := [1]) rfl rfl (.loadR1 ty3 (enc_cell eI_len (getI_at he) (o := 0) (c := .int .i64 e) rfl rfl)) rfl rfl ?_
 refine go_ ?_
 refine ch_n fun hU => ?_
 refine cg_ rfl hg (fun h3 hg => ?_) fun h3 hg => ?_
 ·refine awp_region (sys _ _ []) 66 122 hU rfl rfl ?_
  refine go_ ?_
  refine ch_s (rd := [1]) rfl rfl (r_storeR ty3 rfl (enc_cells_le eI_len (getI_at he) (o := 0) (m := 1) (by decide) rfl) ck3 (cs' := [.int .i64 h'.At]) (.cons .int .nil) (enc_splice eI_len (getI_at he) (o := 0) (x' := h'.At) (Nat.le_of_ble_eq_true rfl) rfl rfl)) rfl rfl ?_
  refine ch_n fun hU => ?_
  refine sr_ 122 130 hU ?_
  refine go_ ?_
  refine ch_n fun hU => ?_
  refine aw_r ?_
  obtain rfl := Option.some.inj hg
  exact fin_ [(0, 0), (1, 1)] ⟨rfl, rfl⟩
 ·refine awp_skip ?_
  repeat first | refine st_ ?_ | refine sn_ ?_
  refine sr_ 66 74 hU ?_
  refine go_ ?_
  refine ch_n fun hU => ?_
  refine aw_r ?_
  obtain rfl := Option.some.inj hg
  exact fin_ [(0, 0), (1, 1)] ⟨rfl, rfl⟩
theorem w_pattern_hits_List_Int_clo_53_0_boxw_22 (p : (List api_Pattern)) (b : (List UInt8)) (yield : api_Hit → (List Int) → Option (Bool × (List Int))) (yield_b0 : (List Int)) (hf_yield : ∀ (x0 : api_Hit) (b0 : (List Int)) (y : Bool × (List Int)), yield x0 b0 = some y → Fn Try.prog 53 1 [.agg [.val (.int .i64 x0.Pattern), .val (.int .i64 x0.At)], .ptr 0 0] [.box [.row 1] 22, .row 3 1 (encL eI b0)] (fun d' b' => d' = .val (.bool y.1) ∧ b' = [.box [.row 1] 22, .row 3 1 (encL eI y.2)])) (r : (List Int)) (hg : g_pattern_hits_List_Int p b yield yield_b0 = some r) : Fn Try.prog 31 1 [.sl 3 (encL api_Pattern.enc p), .sl 1 (encL e8 b), .clo 53 0 [.ptr 0 0]] [.box [.row 1] 22, .row 3 1 (encL eI yield_b0)] (fun d' b' => d' = .tup [] ∧ b' = [.box [.row 1] 22, .row 3 1 (encL eI r)]) := by
 unfold g_pattern_hits_List_Int at hg
 refine Fn.of Try.func31 rfl rfl rfl fun w0 I ρ0 => ?_
 show awp _ ⟨w0, I, ρ0, 1, 2, 54⟩ _ _ _
 refine sr_ 2 26 mk_U ?_
 refine go_ ?_
 obtain ⟨y, hy, hg⟩ := bind_some hg
 refine ca_ (w_pattern_machine _ _ hy) ?_
 refine go_ ?_
 refine ch_n fun hU => ?_
 refine sr_ 26 34 hU ?_
 refine go_ ?_
 refine ch_n fun hU => ?_
 refine sr_ 34 58 hU ?_
 refine go_ ?_
 refine ch_n fun hU => ?_
 refine awp_block ?_
 refine lp_ (fun ((at_1, x16_1, l_1) : Int × Int × List Int) => mk [(0, .sl 3 (encL api_Pattern.enc p)), (2, .clo 53 0 [.ptr 0 0]), (6, .sl 258 (encL pattern_state.enc y)), (7, .val (.int .i16 at_1)), (14, .sl 1 (encL e8 b)), (15, .val (.int .i64 (b.length : Int))), (16, .val (.int .i64 x16_1))] [(0, .box [.row 1] 22), (1, .row 3 1 (encL eI l_1))] 2) hg (sub_ [(0, 0), (1, 1)]) ?_
 rintro ⟨at_1, x16_1, l_1⟩ m1 o1 hg hn1
 replace hg : g_pattern_hits_List_Int.l1 p b yield y at_1 x16_1 l_1 = some o1 := hg
 show awp _ _ _ _ (mk _ _ _)
 unfold g_pattern_hits_List_Int.l1 at hg
 refine sr_ 2 10 mk_U ?_
 refine go_ ?_
 refine ch_n fun hU => ?_
 refine awp_seq ?_
 refine cg_ rfl hg (fun h5 hg => ?_) fun h5 hg => ?_
 ·refine awp_skip ?_
  repeat first | refine st_ ?_ | refine sn_ ?_
  refine awp_seq ?_
  refine awp_block ?_
  refine sr_ 10 50 hU ?_
  refine go_ ?_
  obtain ⟨e, he, hg⟩ := bind_some hg
  refine go_ ?_
  refine c0_ rfl rfl (r_loadE1 ty5 (enc_cell e8_len (getI_at he) (o := 0) (c := .int .u8 (e.toNat : Int)) rfl rfl)) rfl rfl ?_
  refine go_ ?_
  refine ch_n fun hU => ?_
  refine sr_ 50 114 hU ?_
  refine go_ ?_
  obtain ⟨e_2, he_2, hg⟩ := bind_some hg
  refine go_ ?_
  refine c0_ rfl rfl (r_fieldE fd88_0 ty86 (by decide) (enc_lt pattern_state.enc_len (getI_at he_2) (o := 0) (by decide) rfl)) rfl rfl ?_
  obtain ⟨e_3, he_3, hg⟩ := bind_some hg
  refine ch_x (rd := []) rfl rfl (.idxA (j := (((e.toNat : Int)).toNat)) und86 ty85 (getI_ix he_3) (arrL_lt (getI_at he_3))) rfl rfl (fun _ => ⟨_, rfl⟩) ?_
  rintro _ rfl
  refine c0_ rfl rfl (r_loadE1 ty85 (enc_cellE pattern_state.enc_len (getI_at he_2) rfl (getI_at he_3))) rfl rfl ?_
  refine go_ ?_
  refine ch_n fun hU => ?_
  refine sr_ 114 170 hU ?_
  refine go_ ?_
  obtain ⟨e_4, he_4, hg⟩ := bind_some hg
  refine go_ ?_
  refine c0_ rfl rfl (r_fieldE fd88_2 ty22 (by decide) (enc_lt pattern_state.enc_len (getI_at he_4) (o := 257) (by decide) rfl)) rfl rfl ?_
  refine c0_ rfl rfl (r_loadE1 ty22 (enc_cell pattern_state.enc_len (getI_at he_4) (o := 257) (c := .sl 1 (encL eI e_4.ends)) (aC_past (i := 1) rfl) rfl)) rfl rfl ?_
  refine go_ ?_
  refine ch_n fun hU => ?_
  refine awp_block ?_
  refine lp_ (fun ((x34_2, l_2) : Int × List Int) => mk [(0, .sl 3 (encL api_Pattern.enc p)), (2, .clo 53 0 [.ptr 0 0]), (6, .sl 258 (encL pattern_state.enc y)), (7, .val (.int .i16 e_3)), (8, .val (.int .i64 x16_1)), (14, .sl 1 (encL e8 b)), (15, .val (.int .i64 (b.length : Int))), (16, .val (.int .i64 x16_1)), (32, .sl 1 (encL eI e_4.ends)), (33, .val (.int .i64 (e_4.ends.length : Int))), (34, .val (.int .i64 x34_2))] [(0, .box [.row 1] 22), (1, .row 3 1 (encL eI l_2))] 2) hg (sub_ [(0, 0), (1, 1)]) ?_
  rintro ⟨x34_2, l_2⟩ m2 o2 hg hn2
  replace hg : g_pattern_hits_List_Int.l2 p yield x16_1 e_3 e_4 x34_2 l_2 = some o2 := hg
  show awp _ _ _ _ (mk _ _ _)
  unfold g_pattern_hits_List_Int.l2 at hg
  refine sr_ 2 10 mk_U ?_
  refine go_ ?_
  refine ch_n fun hU => ?_
  refine awp_seq ?_
  refine cg_ rfl hg (fun h10 hg => ?_) fun h10 hg => ?_
  ·refine awp_skip ?_
   repeat first | refine st_ ?_ | refine sn_ ?_
   refine awp_seq ?_
   refine awp_block ?_
   refine sr_ 10 34 hU ?_
   obtain ⟨e_5, he_5, hg⟩ := bind_some hg
   refine go_ ?_
   refine c0_ rfl rfl (r_loadE1 ty3 (enc_cell eI_len (getI_at he_5) (o := 0) (c := .int .i64 e_5) rfl rfl)) rfl rfl ?_
   refine go_ ?_
   refine ch_n fun hU => ?_
   refine sr_ 34 146 hU ?_
   refine go_ ?_
   obtain ⟨e_6, he_6, hg⟩ := bind_some hg
   refine go_ ?_
   refine c0_ rfl rfl (r_fieldE fd45_1 ty27 (by decide) (enc_lt api_Pattern.enc_len (getI_at he_6) (o := 2) (by decide) rfl)) rfl rfl ?_
   refine c0_ rfl rfl (r_loadE1 ty27 (enc_cell api_Pattern.enc_len (getI_at he_6) (o := 2) (c := .sl 1 (encL e8 e_6.Bytes)) rfl rfl)) rfl rfl ?_
   refine go_ ?_
   refine c0_ rfl rfl (.build (r := [.val (.int .i64 e_5), .val (.int .i64 (W ((W (x16_1 + 1)) - (e_6.Bytes.length : Int))))]) und47 pl47 z47 (by kernel_rfl) rfl) rfl rfl ?_
   obtain ⟨y_2, hy_2, hg⟩ := bind_some hg
   refine ch_callC (rd := [0, 1]) (ps := [0]) (gs := [1]) false rfl rfl (hf_yield (api_Hit.mk e_5 (W ((W (x16_1 + 1)) - (e_6.Bytes.length : Int)))) l_2 _ hy_2) rfl rfl (.cons (.agg (.cons .val (.cons .val .nil))) (.cons (.ptr rfl) .nil)) ⟨_, _, _, rfl, .head _, ⟨_, rfl, (by repeat' (first | exact AgL.nil | apply AgL.cons | exact Ag.val | exact Ag.sl | exact Ag.nils | exact Ag.ptr rfl | exact Ag.rowK rfl))⟩, ⟨_, _, _, rfl, .tail _ (.head _), rfl, rfl⟩⟩ rfl (by intro h; cases h) rfl (by intro h; first | (cases h; done) | exact ⟨_, _, ⟨rfl, rfl⟩, by simp, by simp⟩) ?_
   rintro _ _ ⟨rfl, rfl⟩
   refine go_ ?_
   refine ch_n fun hU => ?_
   refine cg_ rfl hg (fun h13 hg => ?_) fun h13 hg => ?_
   ·refine awp_ret ?_
    repeat first | refine st_ ?_ | refine sn_ ?_
    replace hg := leave hg hn2
    replace hg := leave hg hn1
    obtain rfl := Option.some.inj hg
    exact fin_ [(0, 0), (1, 130)] ⟨rfl, rfl⟩
   ·refine awp_skip ?_
    repeat first | refine st_ ?_ | refine sn_ ?_
    refine awp_region (sys _ _ []) 146 162 hU rfl rfl ?_
    refine go_ ?_
    refine ch_n fun hU => ?_
    obtain rfl := Option.some.inj hg
    exact ⟨((W (x34_2 + 1), y_2.2), m2), Nat.lt_succ_self _, hn2, sub_ [(0, 0), (1, 130)]⟩
  ·refine awp_exit ?_
   repeat first | refine st_ ?_ | refine sn_ ?_
   replace hg := leave hg hn2
   refine awp_region (sys _ _ []) 10 26 hU rfl rfl ?_
   refine go_ ?_
   refine ch_n fun hU => ?_
   obtain rfl := Option.some.inj hg
   exact ⟨((e_3, W (x16_1 + 1), l_2), m1), Nat.lt_succ_self _, hn1, sub_ [(0, 0), (1, 1)]⟩
 ·refine awp_exit ?_
  repeat first | refine st_ ?_ | refine sn_ ?_
  replace hg := leave hg hn1
  obtain rfl := Option.some.inj hg
  exact fin_ [(0, 0), (1, 1)] ⟨rfl, rfl⟩
theorem w_pattern_first_own (p : (List api_Pattern)) (b : (List UInt8)) (r : (List Int)) (hg : g_pattern_first p b = some r) : Fn Try.prog 38 0 [.sl 3 (encL api_Pattern.enc p), .sl 1 (encL e8 b)] [] (fun d' b' => d' = .row 0 ∧ b' = [.row 3 1 (encL eI r)]) := by
 unfold g_pattern_first at hg
 refine Fn.of Try.func38 rfl rfl rfl fun w0 I ρ0 => ?_
 show awp _ ⟨w0, I, ρ0, 0, 0, 24⟩ _ _ _
 refine sr_ 0 8 mk_U ?_
 refine go_ ?_
 refine ch_n fun hU => ?_
 refine sr_ 8 48 hU ?_
 refine go_ ?_
 obtain ⟨m, hm, hg⟩ := bind_some hg
 refine c0_ rfl rfl (r_makeSl (f := eI) sl22 z3 ck3 (.cons .int .nil) rfl hm rfl) rfl rfl ?_
 refine go_ ?_
 refine ch_n fun hU => ?_
 refine awp_seq ?_
 refine sr_ 48 72 hU ?_
 refine go_ ?_
 refine ch_n fun hU => ?_
 refine awp_block ?_
 refine lp_ (fun ((x12_1, l_1) : Int × List Int) => mk [(0, .sl 3 (encL api_Pattern.enc p)), (1, .sl 1 (encL e8 b)), (5, .ptr 0 0), (11, .val (.int .i64 (m.length : Int))), (12, .val (.int .i64 x12_1))] [(0, .box [.row 1] 22), (1, .row 3 1 (encL eI l_1))] 2) hg (sub_ [(0, 32), (1, 24)]) ?_
 rintro ⟨x12_1, l_1⟩ m1 o1 hg hn1
 replace hg : g_pattern_first.l1 p b m x12_1 l_1 = some o1 := hg
 show awp _ _ _ _ (mk _ _ _)
 unfold g_pattern_first.l1 at hg
 refine sr_ 2 10 mk_U ?_
 refine go_ ?_
 refine ch_n fun hU => ?_
 refine awp_seq ?_
 refine cg_ rfl hg (fun h5 hg => ?_) fun h5 hg => ?_
 ·refine awp_skip ?_
  repeat first | refine st_ ?_ | refine sn_ ?_
  refine awp_seq ?_
  refine awp_block ?_
  refine sr_ 10 26 hU ?_
  refine go_ ?_
  refine ch_n fun hU => ?_
  refine awp_region (sys _ _ []) 26 58 hU rfl rfl ?_
  refine go_ ?_
  obtain ⟨e, he, hg⟩ := bind_some hg
  refine go_ ?_
  refine ch_s (rd := [1]) rfl rfl (r_storeR ty3 rfl (enc_cells_le eI_len (getI_at he) (o := 0) (m := 1) (by decide) rfl) ck3 (cs' := [.int .i64 (-1)]) (.cons .int .nil) (enc_splice eI_len (getI_at he) (o := 0) (x' := -1) (Nat.le_of_ble_eq_true rfl) rfl rfl)) rfl rfl ?_
  refine ch_n fun hU => ?_
  refine awp_region (sys _ _ []) 58 74 hU rfl rfl ?_
  refine go_ ?_
  refine ch_n fun hU => ?_
  obtain rfl := Option.some.inj hg
  exact ⟨((W (x12_1 + 1), setI l_1 ((x12_1).toNat) (-1)), m1), Nat.lt_succ_self _, hn1, sub_ [(0, 0), (1, 1)]⟩
 ·refine awp_exit ?_
  repeat first | refine st_ ?_ | refine sn_ ?_
  replace hg := leave hg hn1
  refine sr_ 10 42 hU ?_
  refine go_ ?_
  obtain ⟨y, hy, hg⟩ := bind_some hg
  refine ch_call (rd := [0, 1]) (ps := [0]) (gs := [1]) false rfl (w_pattern_hits_List_Int_clo_53_0_boxw_22 p b (fun x0 b0 => g_pattern_first_c1 x0 b0) l_1 (fun x0 b0 y h => w_pattern_first_c1 x0 b0 y h) _ hy) rfl rfl (.cons .sl (.cons .sl (.cons (.clo (.cons (.ptr rfl) .nil)) .nil))) ⟨_, _, _, rfl, .head _, ⟨_, rfl, (by repeat' (first | exact AgL.nil | apply AgL.cons | exact Ag.val | exact Ag.sl | exact Ag.nils | exact Ag.ptr rfl | exact Ag.rowK rfl))⟩, ⟨_, _, _, rfl, .tail _ (.head _), rfl, rfl⟩⟩ rfl (by intro h; cases h) rfl (by intro h; first | (cases h; done) | exact ⟨_, _, ⟨rfl, rfl⟩, by simp, by simp⟩) ?_
  rintro _ _ ⟨rfl, rfl⟩
  refine ch_n fun hU => ?_
  refine sr_ 42 58 hU ?_
  refine go_ ?_
  refine ch_n fun hU => ?_
  refine aw_r ?_
  obtain rfl := Option.some.inj hg
  exact fin_ [(0, 34)] ⟨rfl, rfl⟩
theorem w_pattern_First (p : (List api_Pattern)) (b : (List UInt8)) (r : (List Int) × Int) (hg : g_pattern_First p b = some r) : Fn Try.prog 15 0 [.sl 3 (encL api_Pattern.enc p), .sl 1 (encL e8 b)] [] (fun d' b' => d' = .tup [.sl 1 (encL eI r.1), .val (.int .i64 r.2)] ∧ b' = []) := by
 unfold g_pattern_First at hg
 refine Fn.of Try.func15 rfl rfl rfl fun w0 I ρ0 => ?_
 show awp _ ⟨w0, I, ρ0, 0, 0, 16⟩ _ _ _
 refine sr_ 0 16 mk_U ?_
 refine go_ ?_
 refine ch_n fun hU => ?_
 refine awp_seq ?_
 refine sr_ 16 48 hU ?_
 refine go_ ?_
 obtain ⟨y, hy, hg⟩ := bind_some hg
 refine ca_ (w_pattern_early _ _ _ hy) ?_
 refine go_ ?_
 refine ch_n fun hU => ?_
 refine sr_ 48 64 hU ?_
 refine go_ ?_
 refine ch_n fun hU => ?_
 refine cg_ rfl hg (fun h4 hg => ?_) fun h4 hg => ?_
 ·refine awp_seq ?_
  refine awp_region (sys _ _ []) 64 88 hU rfl rfl ?_
  refine go_ ?_
  refine ch_n fun hU => ?_
  refine aw_r ?_
  obtain rfl := Option.some.inj hg
  exact fin_ [] ⟨rfl, rfl⟩
 ·refine awp_skip ?_
  repeat first | refine st_ ?_ | refine sn_ ?_
  refine sr_ 64 104 hU ?_
  refine go_ ?_
  obtain ⟨y_2, hy_2, hg⟩ := bind_some hg
  refine ch_call (rd := []) (ps := []) (gs := []) false rfl (w_pattern_first_own _ _ _ hy_2) rfl rfl (.cons .sl (.cons .sl .nil)) rfl rfl (by intro h; cases h) rfl (by intro h; first | (cases h; done) | exact ⟨_, _, ⟨rfl, rfl⟩, by simp, by simp⟩) ?_
  rintro _ _ ⟨rfl, rfl⟩
  refine go_ ?_
  refine ch_n fun hU => ?_
  refine aw_r ?_
  obtain rfl := Option.some.inj hg
  exact fin_ [] ⟨rfl, rfl⟩
theorem w_ref11_First (p : (List api_Pattern)) (b : (List UInt8)) (r : (List Int) × Int) (hg : g_ref11_First p b = some r) : Fn Try.prog 16 0 [.sl 3 (encL api_Pattern.enc p), .sl 1 (encL e8 b)] [] (fun d' b' => d' = .tup [.sl 1 (encL eI r.1), .val (.int .i64 r.2)] ∧ b' = []) := by
 unfold g_ref11_First at hg
 refine Fn.of Try.func16 rfl rfl rfl fun w0 I ρ0 => ?_
 show awp _ ⟨w0, I, ρ0, 0, 0, 46⟩ _ _ _
 refine sr_ 0 16 mk_U ?_
 refine go_ ?_
 refine ch_n fun hU => ?_
 refine awp_seq ?_
 refine sr_ 16 40 hU ?_
 refine go_ ?_
 obtain ⟨y, hy, hg⟩ := bind_some hg
 refine ca_ (w_ref11_Check _ _ hy) ?_
 refine go_ ?_
 refine ch_n fun hU => ?_
 refine sr_ 40 56 hU ?_
 refine go_ ?_
 refine ch_n fun hU => ?_
 refine cg_ rfl hg (fun h4 hg => ?_) fun h4 hg => ?_
 ·refine awp_seq ?_
  refine awp_region (sys _ _ []) 56 80 hU rfl rfl ?_
  refine go_ ?_
  refine ch_n fun hU => ?_
  refine aw_r ?_
  obtain rfl := Option.some.inj hg
  exact fin_ [] ⟨rfl, rfl⟩
 ·refine awp_skip ?_
  repeat first | refine st_ ?_ | refine sn_ ?_
  refine awp_seq ?_
  refine sr_ 56 80 hU ?_
  refine go_ ?_
  refine ch_n fun hU => ?_
  refine cg_ rfl hg (fun h7 hg => ?_) fun h7 hg => ?_
  ·refine awp_seq ?_
   refine awp_region (sys _ _ []) 80 96 hU rfl rfl ?_
   refine go_ ?_
   refine ch_n fun hU => ?_
   refine aw_r ?_
   obtain rfl := Option.some.inj hg
   exact fin_ [] ⟨rfl, rfl⟩
  ·refine awp_skip ?_
   repeat first | refine st_ ?_ | refine sn_ ?_
   refine sr_ 80 88 hU ?_
   refine go_ ?_
   refine ch_n fun hU => ?_
   refine awp_seq ?_
   refine sr_ 88 96 hU ?_
   refine go_ ?_
   refine ch_n fun hU => ?_
   refine awp_block ?_
   refine lp_ (fun ((k_1, out_1) : Int × List Int) => mk [(0, .sl 3 (encL api_Pattern.enc p)), (1, .sl 1 (encL e8 b)), (7, .row 0), (8, .val (.int .i64 k_1))] [(0, .row 3 1 (encL eI out_1))] 1) hg (sub_ []) ?_
   rintro ⟨k_1, out_1⟩ m1 o1 hg hn1
   replace hg : g_ref11_First.l1 p b k_1 out_1 = some o1 := hg
   show awp _ _ _ _ (mk _ _ _)
   unfold g_ref11_First.l1 at hg
   refine awp_seq ?_
   refine sr_ 1 33 mk_U ?_
   refine go_ ?_
   refine ch_n fun hU => ?_
   refine cg_ rfl hg (fun h12 hg => ?_) fun h12 hg => ?_
   ·refine awp_skip ?_
    repeat first | refine st_ ?_ | refine sn_ ?_
    refine awp_seq ?_
    refine awp_block ?_
    refine sr_ 33 41 hU ?_
    refine go_ ?_
    refine ch_n fun hU => ?_
    refine awp_seq ?_
    refine sr_ 41 73 hU ?_
    refine go_ ?_
    refine ch_n fun hU => ?_
    refine awp_block ?_
    refine lp_ (fun ((x_2, i_2) : Int × Int) => mk [(0, .sl 3 (encL api_Pattern.enc p)), (1, .sl 1 (encL e8 b)), (7, .row 0), (8, .val (.int .i64 k_1)), (9, .val (.int .i64 x_2)), (10, .val (.int .i64 i_2))] [(0, .row 3 1 (encL eI out_1))] 1) hg (sub_ [(0, 0)]) ?_
    rintro ⟨x_2, i_2⟩ m2 o2 hg hn2
    replace hg : g_ref11_First.l2 p b k_1 out_1 x_2 i_2 = some o2 := hg
    show awp _ _ _ _ (mk _ _ _)
    unfold g_ref11_First.l2 at hg
    refine awp_seq ?_
    refine sr_ 1 17 mk_U ?_
    refine go_ ?_
    refine ch_n fun hU => ?_
    refine cg_ rfl hg (fun h16 hg => ?_) fun h16 hg => ?_
    ·refine awp_skip ?_
     repeat first | refine st_ ?_ | refine sn_ ?_
     refine awp_cut (ι := Int) (fun (x_3 : Int) => mk [(0, .sl 3 (encL api_Pattern.enc p)), (1, .sl 1 (encL e8 b)), (7, .row 0), (8, .val (.int .i64 k_1)), (9, .val (.int .i64 x_3)), (10, .val (.int .i64 i_2))] [(0, .row 3 1 (encL eI out_1))] 1) (fun (x_3 : Int) => g_ref11_First.j3 i_2 x_3 = some o2) ?_ ?_
     ·refine awp_block ?_
      refine sr_ 17 81 hU ?_
      refine go_ ?_
      obtain ⟨e, he, hg⟩ := bind_some hg
      refine go_ ?_
      refine c0_ rfl rfl (r_fieldE fd45_1 ty27 (by decide) (enc_lt api_Pattern.enc_len (getI_at he) (o := 2) (by decide) rfl)) rfl rfl ?_
      refine c0_ rfl rfl (r_loadE1 ty27 (enc_cell api_Pattern.enc_len (getI_at he) (o := 2) (c := .sl 1 (encL e8 e.Bytes)) rfl rfl)) rfl rfl ?_
      refine go_ ?_
      obtain ⟨y_2, hy_2, hg⟩ := bind_some hg
      refine ca_ (w_ref11_at _ _ _ _ hy_2) ?_
      refine ch_n fun hU => ?_
      refine cg_ rfl hg (fun h18 hg => ?_) fun h18 hg => ?_
      ·refine awp_region (sys _ _ []) 81 97 hU rfl rfl ?_
       refine go_ ?_
       refine ch_n fun hU => ?_
       exact ⟨i_2, hg, sub_ [(0, 0)]⟩
      ·refine awp_skip ?_
       repeat first | refine st_ ?_ | refine sn_ ?_
       exact ⟨x_2, hg, sub_ [(0, 0)]⟩
     ·rintro x_3 hg
      replace hg : g_ref11_First.j3 i_2 x_3 = some o2 := hg
      show awp _ _ _ _ (mk _ _ _)
      unfold g_ref11_First.j3 at hg
      refine awp_region (sys _ _ []) 1 25 mk_U rfl rfl ?_
      refine go_ ?_
      refine ch_n fun hU => ?_
      obtain rfl := Option.some.inj hg
      exact ⟨((x_3, W (i_2 - 1)), m2), Nat.lt_succ_self _, hn2, sub_ [(0, 0)]⟩
    ·refine awp_exit ?_
     repeat first | refine st_ ?_ | refine sn_ ?_
     replace hg := leave hg hn2
     refine awp_region (sys _ _ []) 17 57 hU rfl rfl ?_
     refine go_ ?_
     refine c0_ rfl rfl (r_buildFull sl22 z3 (by decide) rfl rfl rfl rfl ck3 (cs := [.int .i64 x_2]) (.cons .int .nil) rfl (l := ([x_2] : List Int)) (f := eI) rfl) rfl rfl ?_
     obtain ⟨l, hl, hg⟩ := bind_some hg
     refine ch_s (rd := [0, 33]) rfl rfl (r_append sl22 eI_len .row rfl .row rfl hl rfl) rfl rfl ?_
     refine go_ ?_
     refine ch_n fun hU => ?_
     refine awp_region (sys _ _ []) 57 81 hU rfl rfl ?_
     refine go_ ?_
     refine ch_n fun hU => ?_
     obtain rfl := Option.some.inj hg
     exact ⟨((W (k_1 + 1), l), m1), Nat.lt_succ_self _, hn1, sub_ [(0, 41)]⟩
   ·refine awp_exit ?_
    repeat first | refine st_ ?_ | refine sn_ ?_
    replace hg := leave hg hn1
    refine sr_ 33 57 hU ?_
    refine go_ ?_
    refine ch_n fun hU => ?_
    refine aw_r ?_
    obtain rfl := Option.some.inj hg
    exact fin_ [] ⟨rfl, rfl⟩
theorem w_law11_sameHits (a : (List api_Hit)) (b : (List api_Hit)) (r : Bool) (hg : g_law11_sameHits a b = some r) : Fn Try.prog 19 0 [.sl 2 (encL api_Hit.enc a), .sl 2 (encL api_Hit.enc b)] [] (fun d' b' => d' = .val (.bool r) ∧ b' = []) := by
 unfold g_law11_sameHits at hg
 refine Fn.of Try.func19 rfl rfl rfl fun w0 I ρ0 => ?_
 show awp _ ⟨w0, I, ρ0, 0, 0, 26⟩ _ _ _
 refine sr_ 0 8 mk_U ?_
 refine go_ ?_
 refine ch_n fun hU => ?_
 refine awp_seq ?_
 refine sr_ 8 48 hU ?_
 refine go_ ?_
 refine ch_n fun hU => ?_
 refine cg_ rfl hg (fun h3 hg => ?_) fun h3 hg => ?_
 ·refine awp_seq ?_
  refine awp_region (sys _ _ []) 48 56 hU rfl rfl ?_
  refine go_ ?_
  refine ch_n fun hU => ?_
  refine aw_r ?_
  obtain rfl := Option.some.inj hg
  exact fin_ [] ⟨rfl, rfl⟩
 ·refine awp_skip ?_
  repeat first | refine st_ ?_ | refine sn_ ?_
  refine awp_seq ?_
  refine sr_ 48 56 hU ?_
  refine go_ ?_
  refine ch_n fun hU => ?_
  refine awp_block ?_
  refine lp_ (fun (i_1 : Int) => mk [(0, .sl 2 (encL api_Hit.enc a)), (1, .sl 2 (encL api_Hit.enc b)), (5, .val (.int .i64 i_1))] [] 0) hg (sub_ []) ?_
  rintro i_1 m1 o1 hg hn1
  replace hg : g_law11_sameHits.l1 a b i_1 = some o1 := hg
  show awp _ _ _ _ (mk _ _ _)
  unfold g_law11_sameHits.l1 at hg
  refine awp_seq ?_
  refine sr_ 0 32 mk_U ?_
  refine go_ ?_
  refine ch_n fun hU => ?_
  refine cg_ rfl hg (fun h7 hg => ?_) fun h7 hg => ?_
  ·refine awp_skip ?_
   repeat first | refine st_ ?_ | refine sn_ ?_
   refine awp_seq ?_
   refine awp_block ?_
   refine awp_seq ?_
   refine awp_draw (sys _ _ []) (by kernel_rfl) [0, 0, 3, 7, 0, 0, 48, 112, 255] 32 104 hU rfl rfl (by kernel_rfl) ?_
   refine go_ ?_
   obtain ⟨e, he, hg⟩ := bind_some hg
   refine go_ ?_
   refine c0_ rfl rfl (r_loadEA ty47 (enc_cells api_Hit.enc_len (getI_at he) (o := 0) (m := 2) (cs := [.int .i64 e.Pattern, .int .i64 e.At]) rfl (by decide) rfl) (enc_cells_le api_Hit.enc_len (getI_at he) (o := 0) (m := 2) (by decide) rfl)) rfl rfl ?_
   refine go_ ?_
   obtain ⟨e_2, he_2, hg⟩ := bind_some hg
   refine go_ ?_
   refine c0_ rfl rfl (r_loadEA ty47 (enc_cells api_Hit.enc_len (getI_at he_2) (o := 0) (m := 2) (cs := [.int .i64 e_2.Pattern, .int .i64 e_2.At]) rfl (by decide) rfl) (enc_cells_le api_Hit.enc_len (getI_at he_2) (o := 0) (m := 2) (by decide) rfl)) rfl rfl ?_
   refine c0_ rfl rfl (steq47_neq e e_2) rfl rfl ?_
   refine ch_n fun hU => ?_
   refine cg_ rfl hg (fun h9 hg => ?_) fun h9 hg => ?_
   ·refine awp_seq ?_
    refine awp_region (sys _ _ []) 104 112 hU rfl rfl ?_
    refine go_ ?_
    refine ch_n fun hU => ?_
    refine aw_r ?_
    replace hg := leave hg hn1
    obtain rfl := Option.some.inj hg
    exact fin_ [] ⟨rfl, rfl⟩
   ·refine awp_skip ?_
    repeat first | refine st_ ?_ | refine sn_ ?_
    refine awp_region (sys _ _ []) 104 128 hU rfl rfl ?_
    refine go_ ?_
    refine ch_n fun hU => ?_
    obtain rfl := Option.some.inj hg
    exact ⟨(W (i_1 + 1), m1), Nat.lt_succ_self _, hn1, sub_ []⟩
  ·refine awp_exit ?_
   repeat first | refine st_ ?_ | refine sn_ ?_
   replace hg := leave hg hn1
   refine sr_ 32 40 hU ?_
   refine go_ ?_
   refine ch_n fun hU => ?_
   refine aw_r ?_
   obtain rfl := Option.some.inj hg
   exact fin_ [] ⟨rfl, rfl⟩
theorem w_ref11_Prefix (b : (List UInt8)) (r : (List Int)) (hg : g_ref11_Prefix b = some r) : Fn Try.prog 21 0 [.sl 1 (encL e8 b)] [] (fun d' b' => d' = .sl 1 (encL eI r) ∧ b' = []) := by
 unfold g_ref11_Prefix at hg
 refine Fn.of Try.func21 rfl rfl rfl fun w0 I ρ0 => ?_
 show awp _ ⟨w0, I, ρ0, 0, 0, 49⟩ _ _ _
 refine sr_ 0 8 mk_U ?_
 refine go_ ?_
 refine ch_n fun hU => ?_
 refine sr_ 8 16 hU ?_
 refine go_ ?_
 refine ch_n fun hU => ?_
 refine awp_seq ?_
 refine sr_ 16 24 hU ?_
 refine go_ ?_
 refine ch_n fun hU => ?_
 refine awp_block ?_
 refine lp_ (fun ((n_1, out_1) : Int × List Int) => mk [(0, .sl 1 (encL e8 b)), (3, .row 0), (4, .val (.int .i64 n_1))] [(0, .row 3 1 (encL eI out_1))] 1) hg (sub_ []) ?_
 rintro ⟨n_1, out_1⟩ m1 o1 hg hn1
 replace hg : g_ref11_Prefix.l1 b n_1 out_1 = some o1 := hg
 show awp _ _ _ _ (mk _ _ _)
 unfold g_ref11_Prefix.l1 at hg
 refine awp_seq ?_
 refine sr_ 1 33 mk_U ?_
 refine go_ ?_
 refine ch_n fun hU => ?_
 refine cg_ rfl hg (fun h5 hg => ?_) fun h5 hg => ?_
 ·refine awp_skip ?_
  repeat first | refine st_ ?_ | refine sn_ ?_
  refine awp_seq ?_
  refine awp_block ?_
  refine sr_ 33 41 hU ?_
  refine go_ ?_
  refine ch_n fun hU => ?_
  refine awp_cut (ι := Int) (fun (k_2 : Int) => mk [(0, .sl 1 (encL e8 b)), (3, .row 0), (4, .val (.int .i64 n_1)), (5, .val (.int .i64 k_2))] [(0, .row 3 1 (encL eI out_1))] 1) (fun (k_2 : Int) => g_ref11_Prefix.j2 b n_1 out_1 k_2 = some o1) ?_ ?_
  ·refine awp_seq ?_
   refine awp_region (sys _ _ []) 41 57 hU rfl rfl ?_
   refine go_ ?_
   refine ch_n fun hU => ?_
   refine cg_ rfl hg (fun h8 hg => ?_) fun h8 hg => ?_
   ·refine awp_region (sys _ _ []) 57 113 hU rfl rfl ?_
    refine go_ ?_
    obtain ⟨e, he, hg⟩ := bind_some hg
    refine go_ ?_
    refine ch_s (rd := [0]) rfl rfl (.loadR1 ty3 (enc_cell eI_len (getI_at he) (o := 0) (c := .int .i64 e) rfl rfl)) rfl rfl ?_
    refine go_ ?_
    refine ch_n fun hU => ?_
    exact ⟨W (e + 1), hg, sub_ [(0, 0)]⟩
   ·refine awp_skip ?_
    repeat first | refine st_ ?_ | refine sn_ ?_
    exact ⟨0, hg, sub_ [(0, 0)]⟩
  ·rintro k_2 hg
   replace hg : g_ref11_Prefix.j2 b n_1 out_1 k_2 = some o1 := hg
   show awp _ _ _ _ (mk _ _ _)
   unfold g_ref11_Prefix.j2 at hg
   refine awp_seq ?_
   refine awp_block ?_
   refine lp_ (fun (k_3 : Int) => mk [(0, .sl 1 (encL e8 b)), (3, .row 0), (4, .val (.int .i64 n_1)), (5, .val (.int .i64 k_3))] [(0, .row 3 1 (encL eI out_1))] 1) hg (sub_ [(0, 0)]) ?_
   rintro k_3 m3 o3 hg hn3
   replace hg : g_ref11_Prefix.l3 b n_1 out_1 k_3 = some o3 := hg
   show awp _ _ _ _ (mk _ _ _)
   unfold g_ref11_Prefix.l3 at hg
   refine awp_seq ?_
   refine awp_cut (ι := Bool) (fun (x41_4 : Bool) => mk [(0, .sl 1 (encL e8 b)), (3, .row 0), (4, .val (.int .i64 n_1)), (5, .val (.int .i64 k_3)), (41, .val (.bool x41_4))] [(0, .row 3 1 (encL eI out_1))] 1) (fun (x41_4 : Bool) => g_ref11_Prefix.j4 n_1 out_1 k_3 x41_4 = some o3) ?_ ?_
   ·refine awp_draw (sys _ _ []) (by kernel_rfl) [0, 1, 3, 7, 7, 31, 63, 127, 127, 511, 1023, 127, 127, 127, 12415, 127, 63615, 129151, 262143, 524287, 1048575, 2097151] 1 177 mk_U rfl rfl (by kernel_rfl) ?_
    refine go_ ?_
    rcases bc_ hg with ⟨h10, hg⟩ | ⟨h10, hg⟩
    ·refine go_ ?_
     rcases bc_ hg with ⟨h11, hg⟩ | ⟨h11, hg⟩
     ·refine go_ ?_
      obtain ⟨l, hl, hg⟩ := bind_some hg
      refine c0_ (gdv_t rfl rfl h11) rfl (r_sliS_hi sl27 e8_len hl) rfl rfl ?_
      refine c0_ (gdv_t rfl rfl h11) rfl (r_convS und27 und5 und9 .sl rfl) rfl rfl ?_
      refine go_ ?_
      obtain ⟨l_2, hl_2, hg⟩ := bind_some hg
      refine c0_ (gdv_t rfl rfl h11) rfl (r_sliS sl27 e8_len hl_2) rfl rfl ?_
      refine c0_ (gdv_t rfl rfl h11) rfl (r_convS und27 und5 und9 .sl rfl) rfl rfl ?_
      refine go_ ?_
      refine ch_n fun hU => ?_
      exact ⟨!(decide ((ofB l) = (ofB l_2))), hg, sub_ [(0, 0)]⟩
     ·refine go_ ?_
      refine ch_n fun hU => ?_
      exact ⟨true, hg, sub_ [(0, 0)]⟩
    ·refine go_ ?_
     refine ch_n fun hU => ?_
     exact ⟨false, hg, sub_ [(0, 0)]⟩
   ·rintro x41_4 hg
    replace hg : g_ref11_Prefix.j4 n_1 out_1 k_3 x41_4 = some o3 := hg
    show awp _ _ _ _ (mk _ _ _)
    unfold g_ref11_Prefix.j4 at hg
    refine cg_ rfl hg (fun h15 hg => ?_) fun h15 hg => ?_
    ·refine awp_skip ?_
     repeat first | refine st_ ?_ | refine sn_ ?_
     refine awp_block ?_
     refine awp_region (sys _ _ []) 1 25 mk_U rfl rfl ?_
     refine go_ ?_
     refine ch_n fun hU => ?_
     obtain rfl := Option.some.inj hg
     exact ⟨(W (k_3 - 1), m3), Nat.lt_succ_self _, hn3, sub_ [(0, 0)]⟩
    ·refine awp_exit ?_
     repeat first | refine st_ ?_ | refine sn_ ?_
     replace hg := leave hg hn3
     refine awp_region (sys _ _ []) 1 41 mk_U rfl rfl ?_
     refine go_ ?_
     refine c0_ rfl rfl (r_buildFull sl22 z3 (by decide) rfl rfl rfl rfl ck3 (cs := [.int .i64 k_3]) (.cons .int .nil) rfl (l := ([k_3] : List Int)) (f := eI) rfl) rfl rfl ?_
     obtain ⟨l_3, hl_3, hg⟩ := bind_some hg
     refine ch_s (rd := [0, 17]) rfl rfl (r_append sl22 eI_len .row rfl .row rfl hl_3 rfl) rfl rfl ?_
     refine go_ ?_
     refine ch_n fun hU => ?_
     refine awp_region (sys _ _ []) 41 65 hU rfl rfl ?_
     refine go_ ?_
     refine ch_n fun hU => ?_
     obtain rfl := Option.some.inj hg
     exact ⟨((W (n_1 + 1), l_3), m1), Nat.lt_succ_self _, hn1, sub_ [(0, 25)]⟩
 ·refine awp_exit ?_
  repeat first | refine st_ ?_ | refine sn_ ?_
  replace hg := leave hg hn1
  refine sr_ 33 49 hU ?_
  refine go_ ?_
  refine ch_n fun hU => ?_
  refine aw_r ?_
  obtain rfl := Option.some.inj hg
  exact fin_ [] ⟨rfl, rfl⟩
theorem w_law11_PatternRaw (p : (List api_Pattern)) (b : (List UInt8)) (r : Bool) (hg : g_law11_PatternRaw p b = some r) : Fn Try.prog 4 0 [.sl 3 (encL api_Pattern.enc p), .sl 1 (encL e8 b)] [] (fun d' b' => d' = .val (.bool r) ∧ b' = []) := by
 unfold g_law11_PatternRaw at hg
 refine Fn.of Try.func4 rfl rfl rfl fun w0 I ρ0 => ?_
 show awp _ ⟨w0, I, ρ0, 0, 0, 81⟩ _ _ _
 refine sr_ 0 8 mk_U ?_
 refine go_ ?_
 refine ch_n fun hU => ?_
 refine awp_seq ?_
 refine awp_cut (ι := Bool) (fun (x20_1 : Bool) => mk [(0, .sl 3 (encL api_Pattern.enc p)), (1, .sl 1 (encL e8 b)), (20, .val (.bool x20_1))] [] 0) (fun (x20_1 : Bool) => g_law11_PatternRaw.j1 p b x20_1 = some r) ?_ ?_
 ·refine awp_region (sys _ _ []) 8 72 hU rfl rfl ?_
  refine go_ ?_
  rcases bc_ hg with ⟨h2, hg⟩ | ⟨h2, hg⟩
  ·refine go_ ?_
   refine ch_n fun hU => ?_
   exact ⟨true, hg, sub_ []⟩
  ·refine go_ ?_
   refine ch_n fun hU => ?_
   exact ⟨decide (300 < (b.length : Int)), hg, sub_ []⟩
 ·rintro x20_1 hg
  replace hg : g_law11_PatternRaw.j1 p b x20_1 = some r := hg
  show awp _ _ _ _ (mk _ _ _)
  unfold g_law11_PatternRaw.j1 at hg
  refine cg_ rfl hg (fun h5 hg => ?_) fun h5 hg => ?_
  ·refine awp_seq ?_
   refine awp_region (sys _ _ []) 0 16 mk_U rfl rfl ?_
   obtain ⟨y, hy, hg⟩ := bind_some hg
   refine ca_ (w_law11_awake _ hy) ?_
   refine go_ ?_
   refine ch_n fun hU => ?_
   refine aw_r ?_
   obtain rfl := Option.some.inj hg
   exact fin_ [] ⟨rfl, rfl⟩
  ·refine awp_skip ?_
   repeat first | refine st_ ?_ | refine sn_ ?_
   refine sr_ 0 64 mk_U ?_
   refine go_ ?_
   obtain ⟨y_2, hy_2, hg⟩ := bind_some hg
   refine ca_ (w_pattern_Find _ _ _ hy_2) ?_
   refine go_ ?_
   refine ch_n fun hU => ?_
   refine sr_ 64 128 hU ?_
   refine go_ ?_
   obtain ⟨y_3, hy_3, hg⟩ := bind_some hg
   refine ca_ (w_ref11_Find _ _ _ hy_3) ?_
   refine go_ ?_
   refine ch_n fun hU => ?_
   refine sr_ 128 192 hU ?_
   refine go_ ?_
   obtain ⟨y_4, hy_4, hg⟩ := bind_some hg
   refine ca_ (w_pattern_First _ _ _ hy_4) ?_
   refine go_ ?_
   refine ch_n fun hU => ?_
   refine sr_ 192 256 hU ?_
   refine go_ ?_
   obtain ⟨y_5, hy_5, hg⟩ := bind_some hg
   refine ca_ (w_ref11_First _ _ _ hy_5) ?_
   refine go_ ?_
   refine ch_n fun hU => ?_
   refine sr_ 256 544 hU ?_
   refine go_ ?_
   obtain ⟨y_6, hy_6, hg⟩ := bind_some hg
   refine ca_ (w_pattern_Check _ _ hy_6) ?_
   refine go_ ?_
   obtain ⟨y_7, hy_7, hg⟩ := bind_some hg
   refine ca_ (w_ref11_Check _ _ hy_7) ?_
   refine go_ ?_
   rcases bc_ hg with ⟨h11, hg⟩ | ⟨h11, hg⟩
   ·refine go_ ?_
    rcases bc_ hg with ⟨h12, hg⟩ | ⟨h12, hg⟩
    ·refine go_ ?_
     obtain ⟨y_8, hy_8, hg⟩ := bind_some hg
     refine ca_ (w_law11_sameHits _ _ _ hy_8) ?_
     refine go_ ?_
     rcases bc_ hg with ⟨h13, hg⟩ | ⟨h13, hg⟩
     ·refine go_ ?_
      rcases bc_ hg with ⟨h14, hg⟩ | ⟨h14, hg⟩
      ·refine go_ ?_
       obtain ⟨y_9, hy_9, hg⟩ := bind_some hg
       refine ca_ (w_ref02_SameInts _ _ _ hy_9) ?_
       refine go_ ?_
       rcases bc_ hg with ⟨h15, hg⟩ | ⟨h15, hg⟩
       ·refine go_ ?_
        obtain ⟨y_10, hy_10, hg⟩ := bind_some hg
        refine ca_ (w_pattern_Prefix _ _ hy_10) ?_
        refine go_ ?_
        obtain ⟨y_11, hy_11, hg⟩ := bind_some hg
        refine ca_ (w_ref11_Prefix _ _ hy_11) ?_
        obtain ⟨y_12, hy_12, hg⟩ := bind_some hg
        refine ca_ (w_ref02_SameInts _ _ _ hy_12) ?_
        refine go_ ?_
        rcases bc_ hg with ⟨h16, hg⟩ | ⟨h16, hg⟩
        ·obtain ⟨y_13, hy_13, hg⟩ := bind_some hg
         refine ca_ (w_law11_awake _ hy_13) ?_
         refine go_ ?_
         refine ch_n fun hU => ?_
         refine aw_r ?_
         obtain rfl := Option.some.inj hg
         exact fin_ [] ⟨rfl, rfl⟩
        ·refine go_ ?_
         refine ch_n fun hU => ?_
         refine aw_r ?_
         obtain rfl := Option.some.inj hg
         exact fin_ [] ⟨rfl, rfl⟩
       ·refine go_ ?_
        refine ch_n fun hU => ?_
        refine aw_r ?_
        obtain rfl := Option.some.inj hg
        exact fin_ [] ⟨rfl, rfl⟩
      ·refine go_ ?_
       refine ch_n fun hU => ?_
       refine aw_r ?_
       obtain rfl := Option.some.inj hg
       exact fin_ [] ⟨rfl, rfl⟩
     ·refine go_ ?_
      refine ch_n fun hU => ?_
      refine aw_r ?_
      obtain rfl := Option.some.inj hg
      exact fin_ [] ⟨rfl, rfl⟩
    ·refine go_ ?_
     refine ch_n fun hU => ?_
     refine aw_r ?_
     obtain rfl := Option.some.inj hg
     exact fin_ [] ⟨rfl, rfl⟩
   ·refine go_ ?_
    refine ch_n fun hU => ?_
    refine aw_r ?_
    obtain rfl := Option.some.inj hg
    exact fin_ [] ⟨rfl, rfl⟩
theorem w_make_size (d : cipherplanmake_Dice) (a : Int) (r : Int × cipherplanmake_Dice) (hg : g_make_size d a = some r) : Fn Try.prog 56 1 [.ptr 0 0, .val (.int .i64 a)] [.box [.sl 1 (encL eI d.L), .val (.int .i64 d.At)] 64] (fun d' b' => d' = .val (.int .i64 r.1) ∧ b' = [.box [.sl 1 (encL eI r.2.L), .val (.int .i64 r.2.At)] 64]) := by
 unfold g_make_size at hg
 refine Fn.of Try.func56 rfl rfl rfl fun w0 I ρ0 => ?_
 show awp _ ⟨w0, I, ρ0, 1, 1, 46⟩ _ _ _
 refine sr_ 1 9 mk_U ?_
 refine go_ ?_
 refine ch_n fun hU => ?_
 refine awp_seq ?_
 refine sr_ 9 17 hU ?_
 refine go_ ?_
 refine ch_n fun hU => ?_
 refine awp_block ?_
 refine awp_cut (ι := Bool) (fun (x6_1 : Bool) => mk [(0, .ptr 0 0), (5, .val (.int .i64 a)), (6, .val (.bool x6_1))] [(0, .box [.sl 1 (encL eI d.L), .val (.int .i64 d.At)] 64)] 1) (fun (x6_1 : Bool) => g_make_size.j1 d a x6_1 = some r) ?_ ?_
 ·refine awp_seq ?_
  refine awp_region (sys _ _ []) 17 33 hU rfl rfl ?_
  refine go_ ?_
  refine ch_n fun hU => ?_
  refine cg_ rfl hg (fun h4 hg => ?_) fun h4 hg => ?_
  ·refine awp_skip ?_
   repeat first | refine st_ ?_ | refine sn_ ?_
   exact ⟨decide (a = 5), hg, sub_ [(0, 0)]⟩
  ·refine awp_seq ?_
   refine awp_region (sys _ _ []) 33 49 hU rfl rfl ?_
   refine go_ ?_
   refine ch_n fun hU => ?_
   refine cg_ rfl hg (fun h6 hg => ?_) fun h6 hg => ?_
   ·refine awp_skip ?_
    repeat first | refine st_ ?_ | refine sn_ ?_
    exact ⟨decide (a = 6), hg, sub_ [(0, 0)]⟩
   ·refine awp_seq ?_
    refine awp_region (sys _ _ []) 49 65 hU rfl rfl ?_
    refine go_ ?_
    refine ch_n fun hU => ?_
    refine cg_ rfl hg (fun h8 hg => ?_) fun h8 hg => ?_
    ·refine awp_skip ?_
     repeat first | refine st_ ?_ | refine sn_ ?_
     exact ⟨decide (a = 10), hg, sub_ [(0, 0)]⟩
    ·refine awp_region (sys _ _ []) 65 81 hU rfl rfl ?_
     refine go_ ?_
     refine ch_n fun hU => ?_
     exact ⟨decide (a = 11), hg, sub_ [(0, 0)]⟩
 ·rintro x6_1 hg
  replace hg : g_make_size.j1 d a x6_1 = some r := hg
  show awp _ _ _ _ (mk _ _ _)
  unfold g_make_size.j1 at hg
  refine cg_ rfl hg (fun h10 hg => ?_) fun h10 hg => ?_
  ·refine awp_seq ?_
   refine awp_region (sys _ _ [9]) 1 33 mk_U rfl rfl ?_
   refine go_ ?_
   refine ch_z (rd := []) rfl rfl (r_buildFull sl22 z3 (by decide) rfl rfl rfl rfl ck3 (cs := [.int .i64 2048, .int .i64 1024, .int .i64 512, .int .i64 3072, .int .i64 1023, .int .i64 4096, .int .i64 16384]) (.cons .int (.cons .int (.cons .int (.cons .int (.cons .int (.cons .int (.cons .int .nil))))))) rfl (l := ([2048, 1024, 512, 3072, 1023, 4096, 16384] : List Int)) (f := eI) rfl) rfl rfl rfl ?_
   obtain ⟨y, hy, hg⟩ := bind_some hg
   refine cb_ [0] [0] [] false (w_make_Dice_Of _ _ _ hy) ?_
   refine go_ ?_
   refine ch_n fun hU => ?_
   refine aw_r ?_
   obtain rfl := Option.some.inj hg
   exact fin_ [(0, 0)] ⟨rfl, rfl⟩
  ·refine awp_cut (ι := Bool) (fun (x14_2 : Bool) => mk [(0, .ptr 0 0), (5, .val (.int .i64 a)), (14, .val (.bool x14_2))] [(0, .box [.sl 1 (encL eI d.L), .val (.int .i64 d.At)] 64)] 1) (fun (x14_2 : Bool) => g_make_size.j2 d a x14_2 = some r) ?_ ?_
   ·refine awp_seq ?_
    refine awp_region (sys _ _ []) 1 17 mk_U rfl rfl ?_
    refine go_ ?_
    refine ch_n fun hU => ?_
    refine cg_ rfl hg (fun h13 hg => ?_) fun h13 hg => ?_
    ·refine awp_skip ?_
     repeat first | refine st_ ?_ | refine sn_ ?_
     exact ⟨decide (a = 7), hg, sub_ [(0, 0)]⟩
    ·refine awp_region (sys _ _ []) 17 33 hU rfl rfl ?_
     refine go_ ?_
     refine ch_n fun hU => ?_
     exact ⟨decide (a = 12), hg, sub_ [(0, 0)]⟩
   ·rintro x14_2 hg
    replace hg : g_make_size.j2 d a x14_2 = some r := hg
    show awp _ _ _ _ (mk _ _ _)
    unfold g_make_size.j2 at hg
    refine cg_ rfl hg (fun h15 hg => ?_) fun h15 hg => ?_
    ·refine awp_seq ?_
     refine awp_region (sys _ _ [9]) 1 33 mk_U rfl rfl ?_
     refine go_ ?_
     refine ch_z (rd := []) rfl rfl (r_buildFull sl22 z3 (by decide) rfl rfl rfl rfl ck3 (cs := [.int .i64 256, .int .i64 160, .int .i64 224, .int .i64 384, .int .i64 521]) (.cons .int (.cons .int (.cons .int (.cons .int (.cons .int .nil))))) rfl (l := ([256, 160, 224, 384, 521] : List Int)) (f := eI) rfl) rfl rfl rfl ?_
     obtain ⟨y_2, hy_2, hg⟩ := bind_some hg
     refine cb_ [0] [0] [] false (w_make_Dice_Of _ _ _ hy_2) ?_
     refine go_ ?_
     refine ch_n fun hU => ?_
     refine aw_r ?_
     obtain rfl := Option.some.inj hg
     exact fin_ [(0, 0)] ⟨rfl, rfl⟩
    ·refine awp_seq ?_
     refine awp_region (sys _ _ []) 1 17 mk_U rfl rfl ?_
     refine go_ ?_
     refine ch_n fun hU => ?_
     refine cg_ rfl hg (fun h18 hg => ?_) fun h18 hg => ?_
     ·refine awp_seq ?_
      refine awp_region (sys _ _ [25]) 17 49 hU rfl rfl ?_
      refine go_ ?_
      refine ch_z (rd := []) rfl rfl (r_buildFull sl22 z3 (by decide) rfl rfl rfl rfl ck3 (cs := [.int .i64 65, .int .i64 44, .int .i64 87]) (.cons .int (.cons .int (.cons .int .nil))) rfl (l := ([65, 44, 87] : List Int)) (f := eI) rfl) rfl rfl rfl ?_
      obtain ⟨y_3, hy_3, hg⟩ := bind_some hg
      refine cb_ [0] [0] [] false (w_make_Dice_Of _ _ _ hy_3) ?_
      refine go_ ?_
      refine ch_n fun hU => ?_
      refine aw_r ?_
      obtain rfl := Option.some.inj hg
      exact fin_ [(0, 0)] ⟨rfl, rfl⟩
     ·refine awp_seq ?_
      refine awp_region (sys _ _ []) 17 33 hU rfl rfl ?_
      refine go_ ?_
      refine ch_n fun hU => ?_
      refine cg_ rfl hg (fun h21 hg => ?_) fun h21 hg => ?_
      ·refine awp_seq ?_
       refine awp_region (sys _ _ [41]) 33 65 hU rfl rfl ?_
       refine go_ ?_
       refine ch_z (rd := []) rfl rfl (r_buildFull sl22 z3 (by decide) rfl rfl rfl rfl ck3 (cs := [.int .i64 768, .int .i64 512, .int .i64 1024]) (.cons .int (.cons .int (.cons .int .nil))) rfl (l := ([768, 512, 1024] : List Int)) (f := eI) rfl) rfl rfl rfl ?_
       obtain ⟨y_4, hy_4, hg⟩ := bind_some hg
       refine cb_ [0] [0] [] false (w_make_Dice_Of _ _ _ hy_4) ?_
       refine go_ ?_
       refine ch_n fun hU => ?_
       refine aw_r ?_
       obtain rfl := Option.some.inj hg
       exact fin_ [(0, 0)] ⟨rfl, rfl⟩
      ·refine awp_seq ?_
       refine awp_region (sys _ _ []) 33 49 hU rfl rfl ?_
       refine go_ ?_
       refine ch_n fun hU => ?_
       refine cg_ rfl hg (fun h24 hg => ?_) fun h24 hg => ?_
       ·refine awp_seq ?_
        refine awp_region (sys _ _ [57]) 49 81 hU rfl rfl ?_
        refine go_ ?_
        refine ch_z (rd := []) rfl rfl (r_buildFull sl22 z3 (by decide) rfl rfl rfl rfl ck3 (cs := [.int .i64 128, .int .i64 40]) (.cons .int (.cons .int .nil)) rfl (l := ([128, 40] : List Int)) (f := eI) rfl) rfl rfl rfl ?_
        obtain ⟨y_5, hy_5, hg⟩ := bind_some hg
        refine cb_ [0] [0] [] false (w_make_Dice_Of _ _ _ hy_5) ?_
        refine go_ ?_
        refine ch_n fun hU => ?_
        refine aw_r ?_
        obtain rfl := Option.some.inj hg
        exact fin_ [(0, 0)] ⟨rfl, rfl⟩
       ·refine awp_seq ?_
        refine awp_region (sys _ _ []) 49 65 hU rfl rfl ?_
        refine go_ ?_
        refine ch_n fun hU => ?_
        refine cg_ rfl hg (fun h27 hg => ?_) fun h27 hg => ?_
        ·refine awp_seq ?_
         refine awp_region (sys _ _ [73]) 65 97 hU rfl rfl ?_
         refine go_ ?_
         refine ch_z (rd := []) rfl rfl (r_buildFull sl22 z3 (by decide) rfl rfl rfl rfl ck3 (cs := [.int .i64 168, .int .i64 112]) (.cons .int (.cons .int .nil)) rfl (l := ([168, 112] : List Int)) (f := eI) rfl) rfl rfl rfl ?_
         obtain ⟨y_6, hy_6, hg⟩ := bind_some hg
         refine cb_ [0] [0] [] false (w_make_Dice_Of _ _ _ hy_6) ?_
         refine go_ ?_
         refine ch_n fun hU => ?_
         refine aw_r ?_
         obtain rfl := Option.some.inj hg
         exact fin_ [(0, 0)] ⟨rfl, rfl⟩
        ·refine awp_cut (ι := Bool) (fun (x40_3 : Bool) => mk [(0, .ptr 0 0), (40, .val (.bool x40_3))] [(0, .box [.sl 1 (encL eI d.L), .val (.int .i64 d.At)] 64)] 1) (fun (x40_3 : Bool) => g_make_size.j3 d x40_3 = some r) ?_ ?_
         ·refine awp_seq ?_
          refine awp_region (sys _ _ []) 65 81 hU rfl rfl ?_
          refine go_ ?_
          refine ch_n fun hU => ?_
          refine cg_ rfl hg (fun h30 hg => ?_) fun h30 hg => ?_
          ·refine awp_skip ?_
           repeat first | refine st_ ?_ | refine sn_ ?_
           exact ⟨decide (a = 16), hg, sub_ [(0, 0)]⟩
          ·refine awp_region (sys _ _ []) 81 97 hU rfl rfl ?_
           refine go_ ?_
           refine ch_n fun hU => ?_
           exact ⟨decide (a = 17), hg, sub_ [(0, 0)]⟩
         ·rintro x40_3 hg
          replace hg : g_make_size.j3 d x40_3 = some r := hg
          show awp _ _ _ _ (mk _ _ _)
          unfold g_make_size.j3 at hg
          refine cg_ rfl hg (fun h32 hg => ?_) fun h32 hg => ?_
          ·refine awp_seq ?_
           refine awp_region (sys _ _ [9]) 1 33 mk_U rfl rfl ?_
           refine go_ ?_
           refine ch_z (rd := []) rfl rfl (r_buildFull sl22 z3 (by decide) rfl rfl rfl rfl ck3 (cs := [.int .i64 128, .int .i64 256]) (.cons .int (.cons .int .nil)) rfl (l := ([128, 256] : List Int)) (f := eI) rfl) rfl rfl rfl ?_
           obtain ⟨y_7, hy_7, hg⟩ := bind_some hg
           refine cb_ [0] [0] [] false (w_make_Dice_Of _ _ _ hy_7) ?_
           refine go_ ?_
           refine ch_n fun hU => ?_
           refine aw_r ?_
           obtain rfl := Option.some.inj hg
           exact fin_ [(0, 0)] ⟨rfl, rfl⟩
          ·refine awp_skip ?_
           repeat first | refine st_ ?_ | refine sn_ ?_
           refine sr_ 1 9 mk_U ?_
           refine go_ ?_
           refine ch_n fun hU => ?_
           refine aw_r ?_
           obtain rfl := Option.some.inj hg
           exact fin_ [(0, 0)] ⟨rfl, rfl⟩
theorem w_make_Use (d : cipherplanmake_Dice) (r : api_Use × cipherplanmake_Dice) (hg : g_make_Use d = some r) : Fn Try.prog 41 1 [.ptr 0 0] [.box [.sl 1 (encL eI d.L), .val (.int .i64 d.At)] 64] (fun d' b' => d' = .agg [.val (.int .i64 r.1.Alg), .val (.int .i64 r.1.Bits)] ∧ b' = [.box [.sl 1 (encL eI r.2.L), .val (.int .i64 r.2.At)] 64]) := by
 unfold g_make_Use at hg
 refine Fn.of Try.func41 rfl rfl rfl fun w0 I ρ0 => ?_
 show awp _ ⟨w0, I, ρ0, 1, 1, 12⟩ _ _ _
 refine sr_ 1 9 mk_U ?_
 refine go_ ?_
 refine ch_n fun hU => ?_
 refine sr_ 9 41 hU ?_
 refine go_ ?_
 obtain ⟨y, hy, hg⟩ := bind_some hg
 refine cb_ [0] [0] [] false (w_make_Dice_Next _ _ _ hy) ?_
 refine go_ ?_
 refine ch_n fun hU => ?_
 refine sr_ 41 89 hU ?_
 refine go_ ?_
 obtain ⟨y_2, hy_2, hg⟩ := bind_some hg
 refine cb_ [0] [0] [] false (w_make_size _ _ _ hy_2) ?_
 refine c0_ rfl rfl (.build (r := [.val (.int .i64 (W (1 + y.1))), .val (.int .i64 y_2.1)]) und43 pl43 z43 (by kernel_rfl) rfl) rfl rfl ?_
 refine go_ ?_
 refine ch_n fun hU => ?_
 refine aw_r ?_
 obtain rfl := Option.some.inj hg
 exact fin_ [(0, 0)] ⟨rfl, rfl⟩
theorem w_make_Patterns_own (d : cipherplanmake_Dice) (r : (List api_Pattern) × cipherplanmake_Dice) (hg : g_make_Patterns d = some r) : Fn Try.prog 22 1 [.ptr 0 0] [.box [.sl 1 (encL eI d.L), .val (.int .i64 d.At)] 64] (fun d' b' => d' = .row 1 ∧ b' = [.box [.sl 1 (encL eI r.2.L), .val (.int .i64 r.2.At)] 64, .row 45 3 (encL api_Pattern.enc r.1)]) := by
 unfold g_make_Patterns at hg
 refine Fn.of Try.func22 rfl rfl rfl fun w0 I ρ0 => ?_
 show awp _ ⟨w0, I, ρ0, 1, 1, 36⟩ _ _ _
 refine sr_ 1 9 mk_U ?_
 refine go_ ?_
 refine ch_n fun hU => ?_
 refine sr_ 9 17 hU ?_
 refine go_ ?_
 refine ch_n fun hU => ?_
 refine awp_seq ?_
 refine sr_ 17 49 hU ?_
 refine go_ ?_
 obtain ⟨y, hy, hg⟩ := bind_some hg
 refine cb_ [0] [0] [] false (w_make_Dice_Next _ _ _ hy) ?_
 refine go_ ?_
 refine ch_n fun hU => ?_
 refine awp_block ?_
 refine lp_ (fun ((i_1, d_1, p_1) : Int × cipherplanmake_Dice × List api_Pattern) => mk [(0, .ptr 0 0), (3, .row 1), (4, .val (.int .i64 i_1))] [(0, .box [.sl 1 (encL eI d_1.L), .val (.int .i64 d_1.At)] 64), (1, .row 45 3 (encL api_Pattern.enc p_1))] 2) hg (sub_ [(0, 0)]) ?_
 rintro ⟨i_1, d_1, p_1⟩ m1 o1 hg hn1
 replace hg : g_make_Patterns.l1 i_1 d_1 p_1 = some o1 := hg
 show awp _ _ _ _ (mk _ _ _)
 unfold g_make_Patterns.l1 at hg
 refine awp_seq ?_
 refine sr_ 2 18 mk_U ?_
 refine go_ ?_
 refine ch_n fun hU => ?_
 refine cg_ rfl hg (fun h5 hg => ?_) fun h5 hg => ?_
 ·refine awp_skip ?_
  repeat first | refine st_ ?_ | refine sn_ ?_
  refine awp_seq ?_
  refine awp_block ?_
  refine sr_ 18 26 hU ?_
  refine go_ ?_
  refine ch_n fun hU => ?_
  refine awp_seq ?_
  refine sr_ 26 58 hU ?_
  refine go_ ?_
  obtain ⟨y_2, hy_2, hg⟩ := bind_some hg
  refine cb_ [0] [0] [] false (w_make_Dice_Next _ _ _ hy_2) ?_
  refine go_ ?_
  refine ch_n fun hU => ?_
  refine awp_block ?_
  refine lp_ (fun ((n_2, d_2, b_2) : Int × cipherplanmake_Dice × List UInt8) => mk [(0, .ptr 0 0), (3, .row 1), (4, .val (.int .i64 i_1)), (5, .row 2), (6, .val (.int .i64 n_2))] [(0, .box [.sl 1 (encL eI d_2.L), .val (.int .i64 d_2.At)] 64), (1, .row 45 3 (encL api_Pattern.enc p_1)), (2, .row 5 1 (encL e8 b_2))] 3) hg (sub_ [(0, 0), (1, 1)]) ?_
  rintro ⟨n_2, d_2, b_2⟩ m2 o2 hg hn2
  replace hg : g_make_Patterns.l2 i_1 p_1 n_2 d_2 b_2 = some o2 := hg
  show awp _ _ _ _ (mk _ _ _)
  unfold g_make_Patterns.l2 at hg
  refine awp_seq ?_
  refine sr_ 3 19 mk_U ?_
  refine go_ ?_
  refine ch_n fun hU => ?_
  refine cg_ rfl hg (fun h9 hg => ?_) fun h9 hg => ?_
  ·refine awp_skip ?_
   repeat first | refine st_ ?_ | refine sn_ ?_
   refine awp_seq ?_
   refine awp_block ?_
   refine awp_region (sys _ _ [35]) 19 83 hU rfl rfl ?_
   refine go_ ?_
   refine ch_z (rd := []) rfl rfl (r_buildFull sl22 z3 (by decide) rfl rfl rfl rfl ck3 (cs := [.int .i64 0, .int .i64 1, .int .i64 2, .int .i64 103]) (.cons .int (.cons .int (.cons .int (.cons .int .nil)))) rfl (l := ([0, 1, 2, 103] : List Int)) (f := eI) rfl) rfl rfl rfl ?_
   obtain ⟨y_3, hy_3, hg⟩ := bind_some hg
   refine cb_ [0] [0] [] false (w_make_Dice_Of _ _ _ hy_3) ?_
   refine c0_ rfl rfl (r_conv_u8 und3 und5) rfl rfl ?_
   refine c0_ rfl rfl (r_buildFull sl27 z5 (by decide) rfl rfl rfl rfl ck5 (cs := [.int .u8 ((u8 y_3.1).toNat : Int)]) (.cons .int .nil) rfl (l := ([(u8 y_3.1)] : List UInt8)) (f := e8) rfl) rfl rfl ?_
   obtain ⟨l, hl, hg⟩ := bind_some hg
   refine ch_s (rd := [2, 59]) rfl rfl (r_append sl27 e8_len .row rfl .row rfl hl rfl) rfl rfl ?_
   refine go_ ?_
   refine ch_n fun hU => ?_
   refine awp_region (sys _ _ []) 83 107 hU rfl rfl ?_
   refine go_ ?_
   refine ch_n fun hU => ?_
   obtain rfl := Option.some.inj hg
   exact ⟨((W (n_2 - 1), y_3.2, l), m2), Nat.lt_succ_self _, hn2, sub_ [(0, 0), (1, 1), (2, 67)]⟩
  ·refine awp_exit ?_
   repeat first | refine st_ ?_ | refine sn_ ?_
   replace hg := leave hg hn2
   refine awp_sub (σ' := mk [(0, .ptr 0 0), (3, .row 1), (4, .val (.int .i64 i_1)), (5, .sl 1 (encL e8 b_2))] [(0, .box [.sl 1 (encL eI d_2.L), .val (.int .i64 d_2.At)] 64), (1, .row 45 3 (encL api_Pattern.enc p_1))] 2) (sub_ [(0, 0), (1, 1)]) ?_
   refine awp_region (sys _ _ []) 2 66 mk_U rfl rfl ?_
   refine go_ ?_
   obtain ⟨y_5, hy_5, hg⟩ := bind_some hg
   refine cb_ [0] [0] [] false (w_make_Use _ _ hy_5) ?_
   refine go_ ?_
   refine c0_ rfl rfl (.build (r := [.val (.int .i64 y_5.1.Alg), .val (.int .i64 y_5.1.Bits), .sl 1 (encL e8 b_2)]) und45 pl45 z45 (by kernel_rfl) rfl) rfl rfl ?_
   refine c0_ rfl rfl (r_buildFull sl30 z45 (by decide) rfl rfl rfl rfl ck45 (cs := [.int .i64 y_5.1.Alg, .int .i64 y_5.1.Bits, .sl 1 (encL e8 b_2)]) (.cons .int (.cons .int (.cons .sl .nil))) rfl (l := ([(api_Pattern.mk y_5.1 b_2)] : List api_Pattern)) (f := api_Pattern.enc) rfl) rfl rfl ?_
   obtain ⟨l_2, hl_2, hg⟩ := bind_some hg
   refine ch_s (rd := [1, 42]) rfl rfl (r_append sl30 api_Pattern.enc_len .row rfl .row rfl hl_2 rfl) rfl rfl ?_
   refine go_ ?_
   refine ch_n fun hU => ?_
   refine awp_region (sys _ _ []) 66 90 hU rfl rfl ?_
   refine go_ ?_
   refine ch_n fun hU => ?_
   obtain rfl := Option.some.inj hg
   exact ⟨((W (i_1 - 1), y_5.2, l_2), m1), Nat.lt_succ_self _, hn1, sub_ [(0, 0), (1, 50)]⟩
 ·refine awp_exit ?_
  repeat first | refine st_ ?_ | refine sn_ ?_
  replace hg := leave hg hn1
  refine sr_ 18 34 hU ?_
  refine go_ ?_
  refine ch_n fun hU => ?_
  refine aw_r ?_
  obtain rfl := Option.some.inj hg
  exact fin_ [(0, 0), (1, 1)] ⟨rfl, rfl⟩
theorem w_law11_PatternPlaces (l : (List Int)) (r : Bool) (hg : g_law11_PatternPlaces l = some r) : Fn Try.prog 5 0 [.sl 1 (encL eI l)] [] (fun d' b' => d' = .val (.bool r) ∧ b' = []) := by
 unfold g_law11_PatternPlaces at hg
 refine Fn.of Try.func5 rfl rfl rfl fun w0 I ρ0 => ?_
 show awp _ ⟨w0, I, ρ0, 0, 0, 179⟩ _ _ _
 refine sr_ 0 8 mk_U ?_
 refine go_ ?_
 refine ch_n fun hU => ?_
 refine awp_seq ?_
 refine sr_ 8 32 hU ?_
 refine go_ ?_
 obtain ⟨y, hy, hg⟩ := bind_some hg
 refine ca_ (w_make_Light _ _ hy) ?_
 refine go_ ?_
 refine ch_n fun hU => ?_
 refine cg_ rfl hg (fun h3 hg => ?_) fun h3 hg => ?_
 ·refine awp_seq ?_
  refine awp_region (sys _ _ []) 32 48 hU rfl rfl ?_
  obtain ⟨y_2, hy_2, hg⟩ := bind_some hg
  refine ca_ (w_law11_awake _ hy_2) ?_
  refine go_ ?_
  refine ch_n fun hU => ?_
  refine aw_r ?_
  obtain rfl := Option.some.inj hg
  exact fin_ [] ⟨rfl, rfl⟩
 ·refine awp_skip ?_
  repeat first | refine st_ ?_ | refine sn_ ?_
  refine sr_ 32 56 hU ?_
  refine go_ ?_
  obtain ⟨y_3, hy_3, hg⟩ := bind_some hg
  refine ch_call (rd := []) (ps := []) (gs := []) false rfl (w_make_Roll _ _ hy_3) rfl rfl (.cons .sl .nil) rfl rfl (by intro h; cases h) rfl (by intro h; first | (cases h; done) | exact ⟨_, _, ⟨rfl, rfl⟩, by simp, by simp⟩) ?_
  rintro _ _ ⟨rfl, rfl⟩
  refine go_ ?_
  refine ch_n fun hU => ?_
  refine sr_ 56 104 hU ?_
  refine go_ ?_
  obtain ⟨y_4, hy_4, hg⟩ := bind_some hg
  refine ch_call (rd := [40]) (ps := [40]) (gs := []) false rfl (w_make_Patterns_own _ _ hy_4) rfl rfl (.cons (.ptr rfl) .nil) ⟨_, _, _, rfl, .head _, ⟨_, rfl, (by repeat' (first | exact AgL.nil | apply AgL.cons | exact Ag.val | exact Ag.sl | exact Ag.nils | exact Ag.ptr rfl | exact Ag.rowK rfl))⟩, rfl⟩ rfl (by intro h; cases h) rfl (by intro h; first | (cases h; done) | exact ⟨_, _, ⟨rfl, rfl⟩, by simp, by simp⟩) ?_
  rintro _ _ ⟨rfl, rfl⟩
  refine go_ ?_
  obtain ⟨y_5, hy_5, hg⟩ := bind_some hg
  refine ch_call (rd := [40]) (ps := [40]) (gs := []) false rfl (w_law11_text_own _ _ _ hy_5) rfl rfl (.cons (.ptr rfl) (.cons .val .nil)) ⟨_, _, _, rfl, .head _, ⟨_, rfl, (by repeat' (first | exact AgL.nil | apply AgL.cons | exact Ag.val | exact Ag.sl | exact Ag.nils | exact Ag.ptr rfl | exact Ag.rowK rfl))⟩, rfl⟩ rfl (by intro h; cases h) rfl (by intro h; first | (cases h; done) | exact ⟨_, _, ⟨rfl, rfl⟩, by simp, by simp⟩) ?_
  rintro _ _ ⟨rfl, rfl⟩
  refine go_ ?_
  refine ch_n fun hU => ?_
  refine awp_seq ?_
  refine awp_sub (σ' := mk [(4, .sl 3 (encL api_Pattern.enc y_4.1)), (5, .row 0)] [(0, .row 5 1 (encL e8 y_5.1))] 1) (sub_ [(0, 80)]) ?_
  refine awp_sub (σ' := mk [(4, .sl 3 (encL api_Pattern.enc y_4.1)), (5, .sl 1 (encL e8 y_5.1))] [] 0) (sub_ []) ?_
  refine awp_region (sys _ _ []) 0 64 mk_U rfl rfl ?_
  refine go_ ?_
  obtain ⟨y_6, hy_6, hg⟩ := bind_some hg
  refine ca_ (w_pattern_Find _ _ _ hy_6) ?_
  refine go_ ?_
  refine ch_n fun hU => ?_
  refine sr_ 64 128 hU ?_
  refine go_ ?_
  obtain ⟨y_7, hy_7, hg⟩ := bind_some hg
  refine ca_ (w_pattern_First _ _ _ hy_7) ?_
  refine go_ ?_
  refine ch_n fun hU => ?_
  refine awp_seq ?_
  refine awp_cut (ι := Bool) (fun (x49_3 : Bool) => mk [(4, .sl 3 (encL api_Pattern.enc y_4.1)), (5, .sl 1 (encL e8 y_5.1)), (6, .sl 2 (encL api_Hit.enc y_6.1)), (8, .sl 1 (encL eI y_7.1)), (49, .val (.bool x49_3))] [] 0) (fun (x49_3 : Bool) => g_law11_PatternPlaces.j3 y_4 y_5 y_6 y_7 x49_3 = some r) ?_ ?_
  ·refine awp_region (sys _ _ []) 128 232 hU rfl rfl ?_
   refine go_ ?_
   rcases bc_ hg with ⟨h9, hg⟩ | ⟨h9, hg⟩
   ·refine go_ ?_
    refine ch_n fun hU => ?_
    exact ⟨true, hg, sub_ []⟩
   ·refine go_ ?_
    rcases bc_ hg with ⟨h11, hg⟩ | ⟨h11, hg⟩
    ·refine go_ ?_
     refine ch_n fun hU => ?_
     exact ⟨true, hg, sub_ []⟩
    ·refine go_ ?_
     refine ch_n fun hU => ?_
     exact ⟨!decide ((y_7.1.length : Int) = (y_4.1.length : Int)), hg, sub_ []⟩
  ·rintro x49_3 hg
   replace hg : g_law11_PatternPlaces.j3 y_4 y_5 y_6 y_7 x49_3 = some r := hg
   show awp _ _ _ _ (mk _ _ _)
   unfold g_law11_PatternPlaces.j3 at hg
   refine cg_ rfl hg (fun h14 hg => ?_) fun h14 hg => ?_
   ·refine awp_seq ?_
    refine awp_region (sys _ _ []) 0 8 mk_U rfl rfl ?_
    refine go_ ?_
    refine ch_n fun hU => ?_
    refine aw_r ?_
    obtain rfl := Option.some.inj hg
    exact fin_ [] ⟨rfl, rfl⟩
   ·refine awp_skip ?_
    repeat first | refine st_ ?_ | refine sn_ ?_
    refine sr_ 0 8 mk_U ?_
    refine go_ ?_
    refine ch_n fun hU => ?_
    refine awp_seq ?_
    refine sr_ 8 16 hU ?_
    refine go_ ?_
    refine ch_n fun hU => ?_
    refine awp_block ?_
    refine lp_ (fun ((n_4, i_4) : Int × Int) => mk [(4, .sl 3 (encL api_Pattern.enc y_4.1)), (5, .sl 1 (encL e8 y_5.1)), (6, .sl 2 (encL api_Hit.enc y_6.1)), (8, .sl 1 (encL eI y_7.1)), (10, .val (.int .i64 n_4)), (11, .val (.int .i64 i_4))] [] 0) hg (sub_ []) ?_
    rintro ⟨n_4, i_4⟩ m4 o4 hg hn4
    replace hg : g_law11_PatternPlaces.l4 y_4 y_5 y_6 y_7 n_4 i_4 = some o4 := hg
    show awp _ _ _ _ (mk _ _ _)
    unfold g_law11_PatternPlaces.l4 at hg
    refine awp_seq ?_
    refine sr_ 0 32 mk_U ?_
    refine go_ ?_
    refine ch_n fun hU => ?_
    refine cg_ rfl hg (fun h19 hg => ?_) fun h19 hg => ?_
    ·refine awp_skip ?_
     repeat first | refine st_ ?_ | refine sn_ ?_
     refine awp_seq ?_
     refine awp_block ?_
     refine sr_ 32 40 hU ?_
     refine go_ ?_
     refine ch_n fun hU => ?_
     refine awp_block ?_
     refine lp_ (fun ((n_5, k_5) : Int × Int) => mk [(4, .sl 3 (encL api_Pattern.enc y_4.1)), (5, .sl 1 (encL e8 y_5.1)), (6, .sl 2 (encL api_Hit.enc y_6.1)), (8, .sl 1 (encL eI y_7.1)), (10, .val (.int .i64 n_5)), (11, .val (.int .i64 i_4)), (12, .val (.int .i64 k_5))] [] 0) hg (sub_ []) ?_
     rintro ⟨n_5, k_5⟩ m5 o5 hg hn5
     replace hg : g_law11_PatternPlaces.l5 y_4 y_5 y_6 y_7 i_4 n_5 k_5 = some o5 := hg
     show awp _ _ _ _ (mk _ _ _)
     unfold g_law11_PatternPlaces.l5 at hg
     refine awp_seq ?_
     refine sr_ 0 32 mk_U ?_
     refine go_ ?_
     refine ch_n fun hU => ?_
     refine cg_ rfl hg (fun h22 hg => ?_) fun h22 hg => ?_
     ·refine awp_skip ?_
      repeat first | refine st_ ?_ | refine sn_ ?_
      refine awp_cut (ι := Int) (fun (n_8 : Int) => mk [(4, .sl 3 (encL api_Pattern.enc y_4.1)), (5, .sl 1 (encL e8 y_5.1)), (6, .sl 2 (encL api_Hit.enc y_6.1)), (8, .sl 1 (encL eI y_7.1)), (10, .val (.int .i64 n_8)), (11, .val (.int .i64 i_4)), (12, .val (.int .i64 k_5))] [] 0) (fun (n_8 : Int) => g_law11_PatternPlaces.j8 k_5 n_8 = some o5) ?_ ?_
      ·refine awp_block ?_
       refine sr_ 32 80 hU ?_
       refine go_ ?_
       obtain ⟨e, he, hg⟩ := bind_some hg
       refine go_ ?_
       refine c0_ rfl rfl (r_fieldE fd45_1 ty27 (by decide) (enc_lt api_Pattern.enc_len (getI_at he) (o := 2) (by decide) rfl)) rfl rfl ?_
       refine c0_ rfl rfl (r_loadE1 ty27 (enc_cell api_Pattern.enc_len (getI_at he) (o := 2) (c := .sl 1 (encL e8 e.Bytes)) rfl rfl)) rfl rfl ?_
       refine go_ ?_
       refine ch_n fun hU => ?_
       refine awp_seq ?_
       refine awp_cut (ι := Bool) (fun (x86_6 : Bool) => mk [(4, .sl 3 (encL api_Pattern.enc y_4.1)), (5, .sl 1 (encL e8 y_5.1)), (6, .sl 2 (encL api_Hit.enc y_6.1)), (8, .sl 1 (encL eI y_7.1)), (10, .val (.int .i64 n_5)), (11, .val (.int .i64 i_4)), (12, .val (.int .i64 k_5)), (86, .val (.bool x86_6))] [] 0) (fun (x86_6 : Bool) => g_law11_PatternPlaces.j6 y_6 y_7 i_4 n_5 k_5 x86_6 = some o5) ?_ ?_
       ·refine awp_draw (sys _ _ []) (by kernel_rfl) [0, 0, 2, 7, 0, 16, 63, 127, 255, 255, 255, 255, 2303, 7423, 16383, 32767, 255, 65791, 262143, 524287] 80 240 hU rfl rfl (by kernel_rfl) ?_
        refine go_ ?_
        rcases bc_ hg with ⟨h24, hg⟩ | ⟨h24, hg⟩
        ·refine go_ ?_
         refine ch_n fun hU => ?_
         exact ⟨true, hg, sub_ []⟩
        ·refine go_ ?_
         obtain ⟨l_2, hl_2, hg⟩ := bind_some hg
         refine c0_ (gdv_t rfl rfl h24) rfl (r_sliS sl27 e8_len hl_2) rfl rfl ?_
         refine c0_ (gdv_t rfl rfl h24) rfl (r_convS und27 und5 und9 .sl rfl) rfl rfl ?_
         refine go_ ?_
         refine c0_ (gdv_t rfl rfl h24) rfl (r_convS und27 und5 und9 .sl rfl) rfl rfl ?_
         refine go_ ?_
         refine ch_n fun hU => ?_
         exact ⟨!decide ((ofB l_2) = (ofB e.Bytes)), hg, sub_ []⟩
       ·rintro x86_6 hg
        replace hg : g_law11_PatternPlaces.j6 y_6 y_7 i_4 n_5 k_5 x86_6 = some o5 := hg
        show awp _ _ _ _ (mk _ _ _)
        unfold g_law11_PatternPlaces.j6 at hg
        refine cg_ rfl hg (fun h27 hg => ?_) fun h27 hg => ?_
        ·refine awp_exit ?_
         repeat first | refine st_ ?_ | refine sn_ ?_
         exact ⟨n_5, hg, sub_ []⟩
        ·refine awp_skip ?_
         repeat first | refine st_ ?_ | refine sn_ ?_
         refine awp_seq ?_
         refine awp_cut (ι := Bool) (fun (x115_7 : Bool) => mk [(4, .sl 3 (encL api_Pattern.enc y_4.1)), (5, .sl 1 (encL e8 y_5.1)), (6, .sl 2 (encL api_Hit.enc y_6.1)), (8, .sl 1 (encL eI y_7.1)), (10, .val (.int .i64 n_5)), (11, .val (.int .i64 i_4)), (12, .val (.int .i64 k_5)), (115, .val (.bool x115_7))] [] 0) (fun (x115_7 : Bool) => g_law11_PatternPlaces.j7 n_5 k_5 x115_7 = some o5) ?_ ?_
         ·refine awp_region (sys _ _ []) 0 232 mk_U rfl rfl ?_
          refine go_ ?_
          rcases bc_ hg with ⟨h28, hg⟩ | ⟨h28, hg⟩
          ·refine go_ ?_
           refine ch_n fun hU => ?_
           exact ⟨true, hg, sub_ []⟩
          ·refine go_ ?_
           obtain ⟨e_2, he_2, hg⟩ := bind_some hg
           refine go_ ?_
           refine c0_ (gdv_t rfl rfl h28) rfl (r_loadEA ty47 (enc_cells api_Hit.enc_len (getI_at he_2) (o := 0) (m := 2) (cs := [.int .i64 e_2.Pattern, .int .i64 e_2.At]) rfl (by decide) rfl) (enc_cells_le api_Hit.enc_len (getI_at he_2) (o := 0) (m := 2) (by decide) rfl)) rfl rfl ?_
           refine go_ ?_
           refine c0_ (gdv_t rfl rfl h28) rfl (.build (r := [.val (.int .i64 k_5), .val (.int .i64 i_4)]) und47 pl47 z47 (by kernel_rfl) rfl) rfl rfl ?_
           refine c0_ (gdv_t rfl rfl h28) rfl (steq47_neq e_2 (api_Hit.mk k_5 i_4)) rfl rfl ?_
           refine go_ ?_
           rcases bc_ hg with ⟨h30, hg⟩ | ⟨h30, hg⟩
           ·refine go_ ?_
            refine ch_n fun hU => ?_
            exact ⟨true, hg, sub_ []⟩
           ·refine go_ ?_
            obtain ⟨e_3, he_3, hg⟩ := bind_some hg
            refine go_ ?_
            refine c0_ (gdv_t rfl rfl h30) rfl (r_loadE1 ty3 (enc_cell eI_len (getI_at he_3) (o := 0) (c := .int .i64 e_3) rfl rfl)) rfl rfl ?_
            refine go_ ?_
            rcases bc_ hg with ⟨h32, hg⟩ | ⟨h32, hg⟩
            ·refine go_ ?_
             refine ch_n fun hU => ?_
             exact ⟨true, hg, sub_ []⟩
            ·refine go_ ?_
             refine c0_ (gdv_t rfl rfl h32) rfl (r_loadE1 ty3 (enc_cell eI_len (getI_at he_3) (o := 0) (c := .int .i64 e_3) rfl rfl)) rfl rfl ?_
             refine go_ ?_
             refine ch_n fun hU => ?_
             exact ⟨decide (e_3 < 0), hg, sub_ []⟩
         ·rintro x115_7 hg
          replace hg : g_law11_PatternPlaces.j7 n_5 k_5 x115_7 = some o5 := hg
          show awp _ _ _ _ (mk _ _ _)
          unfold g_law11_PatternPlaces.j7 at hg
          refine cg_ rfl hg (fun h35 hg => ?_) fun h35 hg => ?_
          ·refine awp_seq ?_
           refine awp_region (sys _ _ []) 0 8 mk_U rfl rfl ?_
           refine go_ ?_
           refine ch_n fun hU => ?_
           refine aw_r ?_
           replace hg := leave hg hn5
           replace hg := leave hg hn4
           obtain rfl := Option.some.inj hg
           exact fin_ [] ⟨rfl, rfl⟩
          ·refine awp_skip ?_
           repeat first | refine st_ ?_ | refine sn_ ?_
           refine awp_region (sys _ _ []) 0 24 mk_U rfl rfl ?_
           refine go_ ?_
           refine ch_n fun hU => ?_
           exact ⟨W (n_5 + 1), hg, sub_ []⟩
      ·rintro n_8 hg
       replace hg : g_law11_PatternPlaces.j8 k_5 n_8 = some o5 := hg
       show awp _ _ _ _ (mk _ _ _)
       unfold g_law11_PatternPlaces.j8 at hg
       refine awp_region (sys _ _ []) 0 24 mk_U rfl rfl ?_
       refine go_ ?_
       refine ch_n fun hU => ?_
       obtain rfl := Option.some.inj hg
       exact ⟨((n_8, W (k_5 + 1)), m5), Nat.lt_succ_self _, hn5, sub_ []⟩
     ·refine awp_exit ?_
      repeat first | refine st_ ?_ | refine sn_ ?_
      replace hg := leave hg hn5
      refine awp_region (sys _ _ []) 32 56 hU rfl rfl ?_
      refine go_ ?_
      refine ch_n fun hU => ?_
      obtain rfl := Option.some.inj hg
      exact ⟨((n_5, W (i_4 + 1)), m4), Nat.lt_succ_self _, hn4, sub_ []⟩
    ·refine awp_exit ?_
     repeat first | refine st_ ?_ | refine sn_ ?_
     replace hg := leave hg hn4
     refine awp_seq ?_
     refine sr_ 32 40 hU ?_
     refine go_ ?_
     refine ch_n fun hU => ?_
     refine awp_block ?_
     refine lp_ (fun (k_9 : Int) => mk [(4, .sl 3 (encL api_Pattern.enc y_4.1)), (5, .sl 1 (encL e8 y_5.1)), (6, .sl 2 (encL api_Hit.enc y_6.1)), (8, .sl 1 (encL eI y_7.1)), (10, .val (.int .i64 n_4)), (14, .val (.int .i64 k_9))] [] 0) hg (sub_ []) ?_
     rintro k_9 m9 o9 hg hn9
     replace hg : g_law11_PatternPlaces.l9 y_4 y_5 y_6 y_7 n_4 k_9 = some o9 := hg
     show awp _ _ _ _ (mk _ _ _)
     unfold g_law11_PatternPlaces.l9 at hg
     refine awp_seq ?_
     refine sr_ 0 32 mk_U ?_
     refine go_ ?_
     refine ch_n fun hU => ?_
     refine cg_ rfl hg (fun h42 hg => ?_) fun h42 hg => ?_
     ·refine awp_skip ?_
      repeat first | refine st_ ?_ | refine sn_ ?_
      refine awp_seq ?_
      refine awp_block ?_
      refine awp_cut (ι := Bool) (fun (x171_10 : Bool) => mk [(4, .sl 3 (encL api_Pattern.enc y_4.1)), (5, .sl 1 (encL e8 y_5.1)), (6, .sl 2 (encL api_Hit.enc y_6.1)), (8, .sl 1 (encL eI y_7.1)), (10, .val (.int .i64 n_4)), (14, .val (.int .i64 k_9)), (171, .val (.bool x171_10))] [] 0) (fun (x171_10 : Bool) => g_law11_PatternPlaces.j10 k_9 x171_10 = some o9) ?_ ?_
      ·refine awp_draw (sys _ _ []) (by kernel_rfl) [0, 0, 3, 7, 15, 31, 63, 63, 255, 511, 63, 63, 3135, 7231, 15423, 31807, 65535, 63, 131135, 524287, 1048575, 2097151, 2097151, 2097151, 14680063, 31457279, 2097151, 2097151, 203423743, 471859199, 2097151, 2097151, 3223322623, 7518289919, 16108224511, 33288093695, 68654465023, 137438953471, 274877906943, 2097151, 2097151, 1649269538815, 3848292794367, 8246339305471, 17042432327679, 35184372088831, 70368744177663, 140737488355327] 32 416 hU rfl rfl (by kernel_rfl) ?_
       refine go_ ?_
       obtain ⟨e_4, he_4, hg⟩ := bind_some hg
       refine go_ ?_
       refine c0_ rfl rfl (r_loadE1 ty3 (enc_cell eI_len (getI_at he_4) (o := 0) (c := .int .i64 e_4) rfl rfl)) rfl rfl ?_
       refine go_ ?_
       rcases bc_ hg with ⟨h43, hg⟩ | ⟨h43, hg⟩
       ·refine go_ ?_
        refine c0_ (gdv_t rfl rfl h43) rfl (r_loadE1 ty3 (enc_cell eI_len (getI_at he_4) (o := 0) (c := .int .i64 e_4) rfl rfl)) rfl rfl ?_
        refine go_ ?_
        obtain ⟨e_5, he_5, hg⟩ := bind_some hg
        refine go_ ?_
        refine c0_ (gdv_t rfl rfl h43) rfl (r_fieldE fd45_1 ty27 (by decide) (enc_lt api_Pattern.enc_len (getI_at he_5) (o := 2) (by decide) rfl)) rfl rfl ?_
        refine c0_ (gdv_t rfl rfl h43) rfl (r_loadE1 ty27 (enc_cell api_Pattern.enc_len (getI_at he_5) (o := 2) (c := .sl 1 (encL e8 e_5.Bytes)) rfl rfl)) rfl rfl ?_
        refine go_ ?_
        rcases bc_ hg with ⟨h44, hg⟩ | ⟨h44, hg⟩
        ·refine go_ ?_
         refine ch_n fun hU => ?_
         exact ⟨true, hg, sub_ []⟩
        ·refine go_ ?_
         refine c0_ (gdv_t rfl rfl h44) rfl (r_loadE1 ty3 (enc_cell eI_len (getI_at he_4) (o := 0) (c := .int .i64 e_4) rfl rfl)) rfl rfl ?_
         refine go_ ?_
         refine c0_ (gdv_t rfl rfl h44) rfl (r_loadE1 ty3 (enc_cell eI_len (getI_at he_4) (o := 0) (c := .int .i64 e_4) rfl rfl)) rfl rfl ?_
         refine go_ ?_
         refine c0_ (gdv_t rfl rfl h44) rfl (r_fieldE fd45_1 ty27 (by decide) (enc_lt api_Pattern.enc_len (getI_at he_5) (o := 2) (by decide) rfl)) rfl rfl ?_
         refine c0_ (gdv_t rfl rfl h44) rfl (r_loadE1 ty27 (enc_cell api_Pattern.enc_len (getI_at he_5) (o := 2) (c := .sl 1 (encL e8 e_5.Bytes)) rfl rfl)) rfl rfl ?_
         refine go_ ?_
         obtain ⟨l_3, hl_3, hg⟩ := bind_some hg
         refine c0_ (gdv_t rfl rfl h44) rfl (r_sliS sl27 e8_len hl_3) rfl rfl ?_
         refine c0_ (gdv_t rfl rfl h44) rfl (r_convS und27 und5 und9 .sl rfl) rfl rfl ?_
         refine go_ ?_
         refine c0_ (gdv_t rfl rfl h44) rfl (r_fieldE fd45_1 ty27 (by decide) (enc_lt api_Pattern.enc_len (getI_at he_5) (o := 2) (by decide) rfl)) rfl rfl ?_
         refine c0_ (gdv_t rfl rfl h44) rfl (r_loadE1 ty27 (enc_cell api_Pattern.enc_len (getI_at he_5) (o := 2) (c := .sl 1 (encL e8 e_5.Bytes)) rfl rfl)) rfl rfl ?_
         refine c0_ (gdv_t rfl rfl h44) rfl (r_convS und27 und5 und9 .sl rfl) rfl rfl ?_
         refine go_ ?_
         refine ch_n fun hU => ?_
         exact ⟨!decide ((ofB l_3) = (ofB e_5.Bytes)), hg, sub_ []⟩
       ·refine go_ ?_
        refine ch_n fun hU => ?_
        exact ⟨false, hg, sub_ []⟩
      ·rintro x171_10 hg
       replace hg : g_law11_PatternPlaces.j10 k_9 x171_10 = some o9 := hg
       show awp _ _ _ _ (mk _ _ _)
       unfold g_law11_PatternPlaces.j10 at hg
       refine cg_ rfl hg (fun h48 hg => ?_) fun h48 hg => ?_
       ·refine awp_seq ?_
        refine awp_region (sys _ _ []) 0 8 mk_U rfl rfl ?_
        refine go_ ?_
        refine ch_n fun hU => ?_
        refine aw_r ?_
        replace hg := leave hg hn9
        obtain rfl := Option.some.inj hg
        exact fin_ [] ⟨rfl, rfl⟩
       ·refine awp_skip ?_
        repeat first | refine st_ ?_ | refine sn_ ?_
        refine awp_region (sys _ _ []) 0 24 mk_U rfl rfl ?_
        refine go_ ?_
        refine ch_n fun hU => ?_
        obtain rfl := Option.some.inj hg
        exact ⟨(W (k_9 + 1), m9), Nat.lt_succ_self _, hn9, sub_ []⟩
     ·refine awp_exit ?_
      repeat first | refine st_ ?_ | refine sn_ ?_
      replace hg := leave hg hn9
      refine sr_ 32 96 hU ?_
      refine go_ ?_
      rcases bc_ hg with ⟨h51, hg⟩ | ⟨h51, hg⟩
      ·obtain ⟨y_8, hy_8, hg⟩ := bind_some hg
       refine ca_ (w_law11_awake _ hy_8) ?_
       refine go_ ?_
       refine ch_n fun hU => ?_
       refine aw_r ?_
       obtain rfl := Option.some.inj hg
       exact fin_ [] ⟨rfl, rfl⟩
      ·refine go_ ?_
       refine ch_n fun hU => ?_
       refine aw_r ?_
       obtain rfl := Option.some.inj hg
       exact fin_ [] ⟨rfl, rfl⟩
end Go.Proofs.Ytfkgbfhpibiheaa
