/- The program computes the plain functions. -/
import Derived.Test.YtbeageaekgccgaaT1
import Derived.Test.YtbeageaekgccgaaA1
set_option linter.unusedVariables false
set_option linter.unusedSimpArgs false
set_option maxRecDepth 100000
set_option maxHeartbeats 1600000
namespace Go.Proofs.Ytbeageaekgccgaa
open Go.RowKit
theorem w_keystore_Check (l : (List api_Entry)) (r : Int) (hg : g_keystore_Check l = some r) : Fn Try.prog 8 0 [.sl 6 (encL api_Entry.enc l)] [] (fun d' b' => d' = .val (.int .i64 r) ∧ b' = []) := by
 unfold g_keystore_Check at hg
 refine Fn.of Try.func8 rfl rfl rfl fun w0 I ρ0 => ?_
 show awp _ ⟨w0, I, ρ0, 0, 0, 45⟩ _ _ _
 refine sr_ 0 8 mk_U ?_
 refine go_ ?_
 refine ch_n fun hU => ?_
 refine awp_seq ?_
 refine sr_ 8 32 hU ?_
 refine go_ ?_
 refine ch_n fun hU => ?_
 refine awp_block ?_
 refine lp_ (fun (x7_1 : Int) => mk [(0, .sl 6 (encL api_Entry.enc l)), (5, .sl 6 (encL api_Entry.enc l)), (6, .val (.int .i64 (l.length : Int))), (7, .val (.int .i64 x7_1))] [] 0) hg (sub_ []) ?_
 rintro x7_1 m1 o1 hg hn1
 replace hg : g_keystore_Check.l1 l x7_1 = some o1 := hg
 show awp _ _ _ _ (mk _ _ _)
 unfold g_keystore_Check.l1 at hg
 refine sr_ 0 8 mk_U ?_
 refine go_ ?_
 refine ch_n fun hU => ?_
 refine awp_seq ?_
 refine cg_ rfl hg (fun h4 hg => ?_) fun h4 hg => ?_
 ·refine awp_skip ?_
  repeat first | refine st_ ?_ | refine sn_ ?_
  refine awp_seq ?_
  refine awp_block ?_
  refine sr_ 8 56 hU ?_
  refine go_ ?_
  obtain ⟨e, he, hg⟩ := bind_some hg
  refine go_ ?_
  refine c0_ rfl rfl (r_loadEA ty28 (enc_cells api_Entry.enc_len (getI_at he) (o := 0) (m := 6) (cs := [.str e.Alias, .int .i64 e.Key.Alg, .int .i64 e.Key.Bits, .int .i64 e.KeyId, .bool e.Secret, .sl 15 (encL api_Certificate.enc e.Chain)]) rfl (by decide) rfl) (enc_cells_le api_Entry.enc_len (getI_at he) (o := 0) (m := 6) (by decide) rfl)) rfl rfl ?_
  refine go_ ?_
  refine ch_n fun hU => ?_
  refine awp_cut (ι := Bool) (fun (x40_2 : Bool) => mk [(0, .sl 6 (encL api_Entry.enc l)), (5, .sl 6 (encL api_Entry.enc l)), (6, .val (.int .i64 (l.length : Int))), (7, .val (.int .i64 x7_1)), (40, .val (.bool x40_2))] [] 0) (fun (x40_2 : Bool) => g_keystore_Check.j2 x7_1 x40_2 = some o1) ?_ ?_
  ·refine awp_draw (sys _ _ []) (by kernel_rfl) [0, 1, 3, 7, 15, 31, 63, 127, 255, 255, 767, 2047, 4095, 8191, 255, 16639, 65535, 131071, 262143, 524287, 1048575, 2097151, 1048575, 5242879, 1048575, 17825791, 67108863, 134217727, 268435455] 56 288 hU rfl rfl (by kernel_rfl) ?_
   refine go_ ?_
   obtain ⟨y, hy, hg⟩ := bind_some hg
   refine ca_ (w_catalog_Named _ _ hy) ?_
   refine go_ ?_
   rcases bc_ hg with ⟨h6, hg⟩ | ⟨h6, hg⟩
   ·refine go_ ?_
    refine ch_n fun hU => ?_
    exact ⟨true, hg, sub_ []⟩
   ·refine go_ ?_
    rcases bc_ hg with ⟨h8, hg⟩ | ⟨h8, hg⟩
    ·refine go_ ?_
     obtain ⟨e_2, he_2, hg⟩ := bind_some hg
     refine go_ ?_
     refine c0_ (gdv_t rfl rfl h8) rfl (r_fieldE fd28_0 ty9 (by decide) (enc_lt api_Entry.enc_len (getI_at he_2) (o := 0) (by decide) rfl)) rfl rfl ?_
     refine c0_ (gdv_t rfl rfl h8) rfl (r_loadE1 ty9 (enc_cell api_Entry.enc_len (getI_at he_2) (o := 0) (c := .str e_2.Alias) rfl rfl)) rfl rfl ?_
     refine go_ ?_
     refine c0_ (gdv_t rfl rfl h8) rfl r_sgeq rfl rfl ?_
     refine go_ ?_
     rcases bc_ hg with ⟨h9, hg⟩ | ⟨h9, hg⟩
     ·refine go_ ?_
      refine ch_n fun hU => ?_
      exact ⟨true, hg, sub_ []⟩
     ·refine go_ ?_
      obtain ⟨y_2, hy_2, hg⟩ := bind_some hg
      refine ca_ (w_keystore_Shows _ _ _ _ hy_2) ?_
      refine go_ ?_
      refine ch_n fun hU => ?_
      exact ⟨!y_2, hg, sub_ []⟩
    ·refine go_ ?_
     obtain ⟨y_3, hy_3, hg⟩ := bind_some hg
     refine ca_ (w_keystore_Shows _ _ _ _ hy_3) ?_
     refine go_ ?_
     refine ch_n fun hU => ?_
     exact ⟨!y_3, hg, sub_ []⟩
  ·rintro x40_2 hg
   replace hg : g_keystore_Check.j2 x7_1 x40_2 = some o1 := hg
   show awp _ _ _ _ (mk _ _ _)
   unfold g_keystore_Check.j2 at hg
   refine cg_ rfl hg (fun h13 hg => ?_) fun h13 hg => ?_
   ·refine awp_seq ?_
    refine awp_region (sys _ _ []) 0 8 mk_U rfl rfl ?_
    refine go_ ?_
    refine ch_n fun hU => ?_
    refine aw_r ?_
    replace hg := leave hg hn1
    obtain rfl := Option.some.inj hg
    exact fin_ [] ⟨rfl, rfl⟩
   ·refine awp_skip ?_
    repeat first | refine st_ ?_ | refine sn_ ?_
    refine awp_region (sys _ _ []) 0 16 mk_U rfl rfl ?_
    refine go_ ?_
    refine ch_n fun hU => ?_
    obtain rfl := Option.some.inj hg
    exact ⟨(W (x7_1 + 1), m1), Nat.lt_succ_self _, hn1, sub_ []⟩
 ·refine awp_exit ?_
  repeat first | refine st_ ?_ | refine sn_ ?_
  replace hg := leave hg hn1
  refine awp_seq ?_
  refine sr_ 8 32 hU ?_
  refine go_ ?_
  refine ch_n fun hU => ?_
  refine cg_ rfl hg (fun h17 hg => ?_) fun h17 hg => ?_
  ·refine awp_seq ?_
   refine awp_region (sys _ _ []) 32 40 hU rfl rfl ?_
   refine go_ ?_
   refine ch_n fun hU => ?_
   refine aw_r ?_
   obtain rfl := Option.some.inj hg
   exact fin_ [] ⟨rfl, rfl⟩
  ·refine awp_skip ?_
   repeat first | refine st_ ?_ | refine sn_ ?_
   refine sr_ 32 40 hU ?_
   refine go_ ?_
   refine ch_n fun hU => ?_
   refine aw_r ?_
   obtain rfl := Option.some.inj hg
   exact fin_ [] ⟨rfl, rfl⟩
theorem w_keystore_Find_c1 (x' : api_Entry) (c0 : ByteArray) (r : Bool) (hg : g_keystore_Find_c1 x' c0 = some r) : Fn Try.prog 27 0 [.agg (api_Entry.dv x'), .elt (([.str c0] : List C).drop 0)] [] (fun d' b' => d' = .val (.bool r) ∧ b' = []) := by
 unfold g_keystore_Find_c1 at hg
 refine Fn.of Try.func27 rfl rfl rfl fun w0 I ρ0 => ?_
 show awp _ ⟨w0, I, ρ0, 0, 0, 8⟩ _ _ _
 refine sr_ 0 16 mk_U ?_
 refine go_ ?_
 refine ch_n fun hU => ?_
 refine sr_ 16 56 hU ?_
 refine go_ ?_
 refine c0_ rfl rfl (r_loadE1 ty9 (c := .str c0) rfl) rfl rfl ?_
 refine go_ ?_
 refine ch_n fun hU => ?_
 refine aw_r ?_
 obtain rfl := Option.some.inj hg
 exact fin_ [] ⟨rfl, rfl⟩
theorem w_slices_IndexFunc_api_Entry_clo_27_0_ref_9 (s : (List api_Entry)) (f : api_Entry → Option (Bool)) (f_c0 : ByteArray) (hf_f : ∀ (x0 : api_Entry) (y : Bool), f x0 = some y → Fn Try.prog 27 0 [.agg (api_Entry.dv x0), .elt (([.str f_c0] : List C).drop 0)] [] (fun d' b' => d' = .val (.bool y) ∧ b' = [])) (r : Int) (hg : g_slices_IndexFunc_api_Entry s f = some r) : Fn Try.prog 26 0 [.sl 6 (encL api_Entry.enc s), .clo 27 0 [.elt (([.str f_c0] : List C).drop 0)]] [] (fun d' b' => d' = .val (.int .i64 r) ∧ b' = []) := by
 unfold g_slices_IndexFunc_api_Entry at hg
 refine Fn.of Try.func26 rfl rfl rfl fun w0 I ρ0 => ?_
 show awp _ ⟨w0, I, ρ0, 0, 0, 19⟩ _ _ _
 refine sr_ 0 8 mk_U ?_
 refine go_ ?_
 refine ch_n fun hU => ?_
 refine awp_seq ?_
 refine sr_ 8 32 hU ?_
 refine go_ ?_
 refine ch_n fun hU => ?_
 refine awp_block ?_
 refine lp_ (fun (x8_1 : Int) => mk [(0, .sl 6 (encL api_Entry.enc s)), (1, .clo 27 0 [.elt (([.str f_c0] : List C).drop 0)]), (7, .val (.int .i64 (s.length : Int))), (8, .val (.int .i64 x8_1))] [] 0) hg (sub_ []) ?_
 rintro x8_1 m1 o1 hg hn1
 replace hg : g_slices_IndexFunc_api_Entry.l1 s f x8_1 = some o1 := hg
 show awp _ _ _ _ (mk _ _ _)
 unfold g_slices_IndexFunc_api_Entry.l1 at hg
 refine sr_ 0 8 mk_U ?_
 refine go_ ?_
 refine ch_n fun hU => ?_
 refine awp_seq ?_
 refine cg_ rfl hg (fun h4 hg => ?_) fun h4 hg => ?_
 ·refine awp_skip ?_
  repeat first | refine st_ ?_ | refine sn_ ?_
  refine awp_seq ?_
  refine awp_block ?_
  refine sr_ 8 24 hU ?_
  refine go_ ?_
  refine ch_n fun hU => ?_
  refine sr_ 24 72 hU ?_
  refine go_ ?_
  obtain ⟨e, he, hg⟩ := bind_some hg
  refine go_ ?_
  refine c0_ rfl rfl (r_loadEA ty28 (enc_cells api_Entry.enc_len (getI_at he) (o := 0) (m := 6) (cs := [.str e.Alias, .int .i64 e.Key.Alg, .int .i64 e.Key.Bits, .int .i64 e.KeyId, .bool e.Secret, .sl 15 (encL api_Certificate.enc e.Chain)]) rfl (by decide) rfl) (enc_cells_le api_Entry.enc_len (getI_at he) (o := 0) (m := 6) (by decide) rfl)) rfl rfl ?_
  obtain ⟨y, hy, hg⟩ := bind_some hg
  refine ch_callCP (rd := []) (ps := []) (gs := []) false rfl rfl (hf_f e _ hy) rfl rfl (.cons (.agg (.cons .val (.cons .val (.cons .val (.cons .val (.cons .val (.cons .sl .nil))))))) (.cons .elt .nil)) rfl rfl (by intro h; cases h) rfl rfl rfl rfl ?_
  refine ch_n fun hU => ?_
  refine cg_ rfl hg (fun h7 hg => ?_) fun h7 hg => ?_
  ·refine awp_seq ?_
   refine awp_region (sys _ _ []) 72 88 hU rfl rfl ?_
   refine go_ ?_
   refine ch_n fun hU => ?_
   refine aw_r ?_
   replace hg := leave hg hn1
   obtain rfl := Option.some.inj hg
   exact fin_ [] ⟨rfl, rfl⟩
  ·refine awp_skip ?_
   repeat first | refine st_ ?_ | refine sn_ ?_
   refine awp_region (sys _ _ []) 72 88 hU rfl rfl ?_
   refine go_ ?_
   refine ch_n fun hU => ?_
   obtain rfl := Option.some.inj hg
   exact ⟨(W (x8_1 + 1), m1), Nat.lt_succ_self _, hn1, sub_ []⟩
 ·refine awp_exit ?_
  repeat first | refine st_ ?_ | refine sn_ ?_
  replace hg := leave hg hn1
  refine sr_ 8 16 hU ?_
  refine go_ ?_
  refine ch_n fun hU => ?_
  refine aw_r ?_
  obtain rfl := Option.some.inj hg
  exact fin_ [] ⟨rfl, rfl⟩
theorem w_slices_Clone_string (s : (List ByteArray)) (r : (List ByteArray)) (hg : g_slices_Clone_string s = some r) : Fn Try.prog 53 0 [.sl 1 (encL eS s)] [] (fun d' b' => d' = .sl 1 (encL eS r) ∧ b' = []) := by
 unfold g_slices_Clone_string at hg
 refine Fn.of Try.func53 rfl rfl rfl fun w0 I ρ0 => ?_
 show awp _ ⟨w0, I, ρ0, 0, 0, 8⟩ _ _ _
 refine sr_ 0 8 mk_U ?_
 refine go_ ?_
 refine ch_n fun hU => ?_
 refine awp_seq ?_
 refine awp_cut (ι := Bool) (fun (x4_1 : Bool) => mk [(0, .sl 1 (encL eS s)), (4, .val (.bool x4_1))] [] 0) (fun (x4_1 : Bool) => g_slices_Clone_string.j1 s x4_1 = some r) ?_ ?_
 ·refine awp_region (sys _ _ []) 8 24 hU rfl rfl ?_
  refine go_ ?_
  refine ch_nilE rfl rfl ⟨_, und51⟩ rfl ?_
  intro bz hz2
  rcases bz with _ | _
  ·replace hg := nilC_f hg
   refine ch_n fun hU => ?_
   exact ⟨false, hg, sub_ []⟩
  ·replace hg := nilC_t ((nil_of_enc eS_len (by decide) (hz2 rfl))) hg
   refine ch_n fun hU => ?_
   exact ⟨true, hg, sub_ []⟩
 ·rintro x4_1 hg
  replace hg : g_slices_Clone_string.j1 s x4_1 = some r := hg
  show awp _ _ _ _ (mk _ _ _)
  unfold g_slices_Clone_string.j1 at hg
  refine cg_ rfl hg (fun h5 hg => ?_) fun h5 hg => ?_
  ·refine awp_seq ?_
   refine awp_region (sys _ _ []) 0 8 mk_U rfl rfl ?_
   refine go_ ?_
   refine ch_n fun hU => ?_
   refine aw_r ?_
   obtain rfl := Option.some.inj hg
   exact fin_ [] ⟨rfl, rfl⟩
  ·refine awp_skip ?_
   repeat first | refine st_ ?_ | refine sn_ ?_
   refine sr_ 0 32 mk_U ?_
   refine c0_ rfl rfl (r_buildFull sl51 z9 (by decide) rfl rfl rfl rfl ck9 (cs := []) .nil rfl (l := ([] : List ByteArray)) (f := eS) rfl) rfl rfl ?_
   refine go_ ?_
   obtain ⟨l, hl, hg⟩ := bind_some hg
   refine ch_s (rd := [0]) rfl rfl (r_append sl51 eS_len .row rfl .sl rfl hl rfl) rfl rfl ?_
   refine go_ ?_
   refine ch_n fun hU => ?_
   refine aw_r ?_
   obtain rfl := Option.some.inj hg
   exact fin_ [] ⟨rfl, rfl⟩
theorem w_certificate_Copy (l : (List api_Certificate)) (r : (List api_Certificate)) (hg : g_certificate_Copy l = some r) : Fn Try.prog 30 0 [.sl 15 (encL api_Certificate.enc l)] [] (fun d' b' => d' = .sl 15 (encL api_Certificate.enc r) ∧ b' = []) := by
 unfold g_certificate_Copy at hg
 refine Fn.of Try.func30 rfl rfl rfl fun w0 I ρ0 => ?_
 show awp _ ⟨w0, I, ρ0, 0, 0, 22⟩ _ _ _
 refine sr_ 0 8 mk_U ?_
 refine go_ ?_
 refine ch_n fun hU => ?_
 refine sr_ 8 16 hU ?_
 refine go_ ?_
 refine ch_n fun hU => ?_
 refine awp_seq ?_
 refine sr_ 16 40 hU ?_
 refine go_ ?_
 refine ch_n fun hU => ?_
 refine awp_block ?_
 refine lp_ (fun ((x8_1, out_1) : Int × List api_Certificate) => mk [(3, .row 0), (6, .sl 15 (encL api_Certificate.enc l)), (7, .val (.int .i64 (l.length : Int))), (8, .val (.int .i64 x8_1))] [(0, .row 64 15 (encL api_Certificate.enc out_1))] 1) hg (sub_ []) ?_
 rintro ⟨x8_1, out_1⟩ m1 o1 hg hn1
 replace hg : g_certificate_Copy.l1 l x8_1 out_1 = some o1 := hg
 show awp _ _ _ _ (mk _ _ _)
 unfold g_certificate_Copy.l1 at hg
 refine sr_ 1 9 mk_U ?_
 refine go_ ?_
 refine ch_n fun hU => ?_
 refine awp_seq ?_
 refine cg_ rfl hg (fun h5 hg => ?_) fun h5 hg => ?_
 ·refine awp_skip ?_
  repeat first | refine st_ ?_ | refine sn_ ?_
  refine awp_seq ?_
  refine awp_block ?_
  refine sr_ 9 41 hU ?_
  obtain ⟨e, he, hg⟩ := bind_some hg
  refine go_ ?_
  refine c0_ rfl rfl (r_loadEA ty64 (enc_cells api_Certificate.enc_len (getI_at he) (o := 0) (m := 15) (cs := [.int .i64 e.Serial, .str e.Issuer, .str e.Subject, .int .i64 e.Key.Alg, .int .i64 e.Key.Bits, .int .i64 e.KeyId, .int .i64 e.Hash.Alg, .int .i64 e.Hash.Bits, .int .i64 e.From, .int .i64 e.To, .bool e.Authority, .int .i64 e.Path, .sl 1 (encL eS e.Names), .int .i64 e.Seal.Key, .int .i64 e.Seal.Sum]) rfl (by decide) rfl) (enc_cells_le api_Certificate.enc_len (getI_at he) (o := 0) (m := 15) (by decide) rfl)) rfl rfl ?_
  refine go_ ?_
  refine ch_n fun hU => ?_
  refine sr_ 41 81 hU ?_
  refine go_ ?_
  obtain ⟨y, hy, hg⟩ := bind_some hg
  refine ca_ (w_slices_Clone_string _ _ hy) ?_
  refine go_ ?_
  refine ch_n fun hU => ?_
  refine awp_region (sys _ _ []) 81 121 hU rfl rfl ?_
  refine go_ ?_
  refine c0_ rfl rfl (r_buildFull sl26 z64 (by decide) rfl rfl rfl rfl ck64 (cs := [.int .i64 e.Serial, .str e.Issuer, .str e.Subject, .int .i64 e.Key.Alg, .int .i64 e.Key.Bits, .int .i64 e.KeyId, .int .i64 e.Hash.Alg, .int .i64 e.Hash.Bits, .int .i64 e.From, .int .i64 e.To, .bool e.Authority, .int .i64 e.Path, .sl 1 (encL eS y), .int .i64 e.Seal.Key, .int .i64 e.Seal.Sum]) (.cons .int (.cons .str (.cons .str (.cons .int (.cons .int (.cons .int (.cons .int (.cons .int (.cons .int (.cons .int (.cons .bool (.cons .int (.cons .sl (.cons .int (.cons .int .nil))))))))))))))) rfl (l := ([(api_Certificate.mk e.Serial e.Issuer e.Subject e.Key e.KeyId e.Hash e.From e.To e.Authority e.Path y e.Seal)] : List api_Certificate)) (f := api_Certificate.enc) rfl) rfl rfl ?_
  obtain ⟨l_2, hl_2, hg⟩ := bind_some hg
  refine ch_s (rd := [0, 97]) rfl rfl (r_append sl26 api_Certificate.enc_len .row rfl .row rfl hl_2 rfl) rfl rfl ?_
  refine go_ ?_
  refine ch_n fun hU => ?_
  refine awp_region (sys _ _ []) 121 137 hU rfl rfl ?_
  refine go_ ?_
  refine ch_n fun hU => ?_
  obtain rfl := Option.some.inj hg
  exact ⟨((W (x8_1 + 1), l_2), m1), Nat.lt_succ_self _, hn1, sub_ [(0, 105)]⟩
 ·refine awp_exit ?_
  repeat first | refine st_ ?_ | refine sn_ ?_
  replace hg := leave hg hn1
  refine sr_ 9 25 hU ?_
  refine go_ ?_
  refine ch_n fun hU => ?_
  refine aw_r ?_
  obtain rfl := Option.some.inj hg
  exact fin_ [] ⟨rfl, rfl⟩
theorem w_keystore_own (x' : api_Entry) (r : api_Entry) (hg : g_keystore_own x' = some r) : Fn Try.prog 17 0 [.agg (api_Entry.dv x')] [] (fun d' b' => d' = .agg (api_Entry.dv r) ∧ b' = []) := by
 unfold g_keystore_own at hg
 refine Fn.of Try.func17 rfl rfl rfl fun w0 I ρ0 => ?_
 show awp _ ⟨w0, I, ρ0, 0, 0, 8⟩ _ _ _
 refine sr_ 0 16 mk_U ?_
 refine go_ ?_
 refine ch_n fun hU => ?_
 refine sr_ 16 56 hU ?_
 refine go_ ?_
 obtain ⟨y, hy, hg⟩ := bind_some hg
 refine ca_ (w_certificate_Copy _ _ hy) ?_
 refine go_ ?_
 refine ch_n fun hU => ?_
 refine sr_ 56 72 hU ?_
 refine go_ ?_
 refine ch_n fun hU => ?_
 refine aw_r ?_
 obtain rfl := Option.some.inj hg
 exact fin_ [] ⟨rfl, rfl⟩
theorem w_keystore_Find (l : (List api_Entry)) (alias : ByteArray) (r : api_Entry × Bool) (hg : g_keystore_Find l alias = some r) : Fn Try.prog 14 0 [.sl 6 (encL api_Entry.enc l), .val (.string alias)] [] (fun d' b' => d' = .tup [.agg (api_Entry.dv r.1), .val (.bool r.2)] ∧ b' = []) := by
 unfold g_keystore_Find at hg
 refine Fn.of Try.func14 rfl rfl rfl fun w0 I ρ0 => ?_
 show awp _ ⟨w0, I, ρ0, 0, 0, 18⟩ _ _ _
 refine sr_ 0 24 mk_U ?_
 refine go_ ?_
 refine ch_n fun hU => ?_
 refine awp_seq ?_
 refine awp_sub (σ' := mk [(0, .sl 6 (encL api_Entry.enc l)), (3, .elt (([.str alias] : List C).drop 0)), (4, .ptr 0 0)] [(0, .box [.val (.string (⟨#[]⟩ : ByteArray)), .val (.int .i64 0), .val (.int .i64 0), .val (.int .i64 0), .val (.bool false), .val (.slice none 0 0)] 28)] 1) (Sub.lists [(0, 8)] rfl rfl ⟨⟨_, rfl, .sl _ _⟩, ⟨_, rfl, .frzb (ks := [none]) rfl (.cons .str .nil) (look_ne rfl)⟩, ⟨_, rfl, .ptr rfl⟩, trivial⟩ ⟨.inl ⟨8, _, rfl, rfl, ⟨rfl, .cons (.val _) (.cons (.val _) (.cons (.val _) (.cons (.val _) (.cons (.val _) (.cons (.val _) .nil)))))⟩⟩, trivial⟩) ?_
 refine awp_region (sys _ _ []) 1 33 mk_U rfl rfl ?_
 refine go_ ?_
 obtain ⟨y, hy, hg⟩ := bind_some hg
 refine ca_ (w_slices_IndexFunc_api_Entry_clo_27_0_ref_9 l (fun x0 => g_keystore_Find_c1 x0 alias) alias (fun x0 y h => w_keystore_Find_c1 x0 alias y h) _ hy) ?_
 refine go_ ?_
 refine ch_n fun hU => ?_
 refine awp_seq ?_
 refine sr_ 33 49 hU ?_
 refine go_ ?_
 refine ch_n fun hU => ?_
 refine cg_ rfl hg (fun h4 hg => ?_) fun h4 hg => ?_
 ·refine awp_seq ?_
  refine awp_region (sys _ _ []) 49 73 hU rfl rfl ?_
  refine c0_ rfl rfl (.build (r := [.val (.string (⟨#[]⟩ : ByteArray)), .val (.int .i64 0), .val (.int .i64 0), .val (.int .i64 0), .val (.bool false), .val (.slice none 0 0)]) und28 pl28 z28 (by kernel_rfl) rfl) rfl rfl ?_
  refine go_ ?_
  refine ch_n fun hU => ?_
  refine aw_r ?_
  obtain rfl := Option.some.inj hg
  exact fin_ [] ⟨rfl, rfl⟩
 ·refine awp_skip ?_
  repeat first | refine st_ ?_ | refine sn_ ?_
  refine sr_ 49 105 hU ?_
  refine go_ ?_
  obtain ⟨e, he, hg⟩ := bind_some hg
  refine go_ ?_
  refine c0_ rfl rfl (r_loadEA ty28 (enc_cells api_Entry.enc_len (getI_at he) (o := 0) (m := 6) (cs := [.str e.Alias, .int .i64 e.Key.Alg, .int .i64 e.Key.Bits, .int .i64 e.KeyId, .bool e.Secret, .sl 15 (encL api_Certificate.enc e.Chain)]) rfl (by decide) rfl) (enc_cells_le api_Entry.enc_len (getI_at he) (o := 0) (m := 6) (by decide) rfl)) rfl rfl ?_
  obtain ⟨y_2, hy_2, hg⟩ := bind_some hg
  refine ca_ (w_keystore_own _ _ hy_2) ?_
  refine go_ ?_
  refine ch_n fun hU => ?_
  refine aw_r ?_
  obtain rfl := Option.some.inj hg
  exact fin_ [] ⟨rfl, rfl⟩
theorem w_math_bits_Len64 (x' : Int) (r : Int) (hg : g_math_bits_Len64 x' = some r) : Fn Try.prog 52 0 [.val (.int .u64 x')] [] (fun d' b' => d' = .val (.int .i64 r) ∧ b' = []) := by
 unfold g_math_bits_Len64 at hg
 refine Fn.of Try.func52 rfl rfl rfl fun w0 I ρ0 => ?_
 show awp _ ⟨w0, I, ρ0, 0, 0, 25⟩ _ _ _
 refine sr_ 0 8 mk_U ?_
 refine go_ ?_
 refine ch_n fun hU => ?_
 refine awp_cut (ι := Int × Int) (fun ((x_1, n_1) : Int × Int) => mk [(0, .val (.int .u64 x_1)), (2, .val (.int .i64 n_1))] [] 0) (fun ((x_1, n_1) : Int × Int) => g_math_bits_Len64.j1 x_1 n_1 = some r) ?_ ?_
 ·refine awp_seq ?_
  refine awp_region (sys _ _ []) 8 24 hU rfl rfl ?_
  refine go_ ?_
  refine ch_n fun hU => ?_
  refine cg_ rfl hg (fun h3 hg => ?_) fun h3 hg => ?_
  ·refine awp_seq ?_
   refine awp_region (sys _ _ []) 24 48 hU rfl rfl ?_
   refine go_ ?_
   obtain ⟨q, hq, hg⟩ := bind_some hg
   refine c0_ rfl rfl (r_shrK hq) rfl rfl ?_
   refine go_ ?_
   refine ch_n fun hU => ?_
   refine awp_region (sys _ _ []) 48 56 hU rfl rfl ?_
   refine go_ ?_
   refine ch_n fun hU => ?_
   exact ⟨(q, 32), hg, sub_ []⟩
  ·refine awp_skip ?_
   repeat first | refine st_ ?_ | refine sn_ ?_
   exact ⟨(x', 0), hg, sub_ []⟩
 ·rintro ⟨x_1, n_1⟩ hg
  replace hg : g_math_bits_Len64.j1 x_1 n_1 = some r := hg
  show awp _ _ _ _ (mk _ _ _)
  unfold g_math_bits_Len64.j1 at hg
  refine awp_cut (ι := Int × Int) (fun ((x_2, n_2) : Int × Int) => mk [(0, .val (.int .u64 x_2)), (2, .val (.int .i64 n_2))] [] 0) (fun ((x_2, n_2) : Int × Int) => g_math_bits_Len64.j2 x_2 n_2 = some r) ?_ ?_
  ·refine awp_seq ?_
   refine awp_region (sys _ _ []) 0 16 mk_U rfl rfl ?_
   refine go_ ?_
   refine ch_n fun hU => ?_
   refine cg_ rfl hg (fun h7 hg => ?_) fun h7 hg => ?_
   ·refine awp_seq ?_
    refine awp_region (sys _ _ []) 16 40 hU rfl rfl ?_
    refine go_ ?_
    obtain ⟨q_2, hq_2, hg⟩ := bind_some hg
    refine c0_ rfl rfl (r_shrK hq_2) rfl rfl ?_
    refine go_ ?_
    refine ch_n fun hU => ?_
    refine awp_region (sys _ _ []) 40 64 hU rfl rfl ?_
    refine go_ ?_
    refine ch_n fun hU => ?_
    exact ⟨(q_2, W (n_1 + 16)), hg, sub_ []⟩
   ·refine awp_skip ?_
    repeat first | refine st_ ?_ | refine sn_ ?_
    exact ⟨(x_1, n_1), hg, sub_ []⟩
  ·rintro ⟨x_2, n_2⟩ hg
   replace hg : g_math_bits_Len64.j2 x_2 n_2 = some r := hg
   show awp _ _ _ _ (mk _ _ _)
   unfold g_math_bits_Len64.j2 at hg
   refine awp_cut (ι := Int × Int) (fun ((x_3, n_3) : Int × Int) => mk [(0, .val (.int .u64 x_3)), (2, .val (.int .i64 n_3))] [] 0) (fun ((x_3, n_3) : Int × Int) => g_math_bits_Len64.j3 x_3 n_3 = some r) ?_ ?_
   ·refine awp_seq ?_
    refine awp_region (sys _ _ []) 0 16 mk_U rfl rfl ?_
    refine go_ ?_
    refine ch_n fun hU => ?_
    refine cg_ rfl hg (fun h11 hg => ?_) fun h11 hg => ?_
    ·refine awp_seq ?_
     refine awp_region (sys _ _ []) 16 40 hU rfl rfl ?_
     refine go_ ?_
     obtain ⟨q_3, hq_3, hg⟩ := bind_some hg
     refine c0_ rfl rfl (r_shrK hq_3) rfl rfl ?_
     refine go_ ?_
     refine ch_n fun hU => ?_
     refine awp_region (sys _ _ []) 40 64 hU rfl rfl ?_
     refine go_ ?_
     refine ch_n fun hU => ?_
     exact ⟨(q_3, W (n_2 + 8)), hg, sub_ []⟩
    ·refine awp_skip ?_
     repeat first | refine st_ ?_ | refine sn_ ?_
     exact ⟨(x_2, n_2), hg, sub_ []⟩
   ·rintro ⟨x_3, n_3⟩ hg
    replace hg : g_math_bits_Len64.j3 x_3 n_3 = some r := hg
    show awp _ _ _ _ (mk _ _ _)
    unfold g_math_bits_Len64.j3 at hg
    refine sr_ 0 56 mk_U ?_
    refine go_ ?_
    refine c0_ rfl rfl (r_conv_u8 und81 und5) rfl rfl ?_
    obtain ⟨c, hc, hg⟩ := bind_some hg
    refine c0_ rfl rfl (r_idxT und9 hc) rfl rfl ?_
    refine c0_ rfl rfl (r_conv_8i (u := c) und5 und3) rfl rfl ?_
    refine go_ ?_
    refine ch_n fun hU => ?_
    refine aw_r ?_
    obtain rfl := Option.some.inj hg
    exact fin_ [] ⟨rfl, rfl⟩
theorem w_math_bits_Len (x' : Int) (r : Int) (hg : g_math_bits_Len x' = some r) : Fn Try.prog 29 0 [.val (.int .u64 x')] [] (fun d' b' => d' = .val (.int .i64 r) ∧ b' = []) := by
 unfold g_math_bits_Len at hg
 refine Fn.of Try.func29 rfl rfl rfl fun w0 I ρ0 => ?_
 show awp _ ⟨w0, I, ρ0, 0, 0, 8⟩ _ _ _
 refine sr_ 0 8 mk_U ?_
 refine go_ ?_
 refine ch_n fun hU => ?_
 refine awp_seq ?_
 refine awp_condc (fun h => ?_) (fun h => ?_)
 ·exact absurd h (by decide)
 ·refine awp_skip ?_
  repeat first | refine st_ ?_ | refine sn_ ?_
  refine sr_ 8 32 hU ?_
  refine go_ ?_
  obtain ⟨y, hy, hg⟩ := bind_some hg
  refine ca_ (w_math_bits_Len64 _ _ hy) ?_
  refine go_ ?_
  refine ch_n fun hU => ?_
  refine aw_r ?_
  obtain rfl := Option.some.inj hg
  exact fin_ [] ⟨rfl, rfl⟩
theorem w_keystore_Merge_c1 (x' : api_Entry) (y : api_Entry) (r : Int) (hg : g_keystore_Merge_c1 x' y = some r) : Fn Try.prog 16 0 [.agg (api_Entry.dv x'), .agg (api_Entry.dv y)] [] (fun d' b' => d' = .val (.int .i64 r) ∧ b' = []) := by
 unfold g_keystore_Merge_c1 at hg
 refine Fn.of Try.func16 rfl rfl rfl fun w0 I ρ0 => ?_
 show awp _ ⟨w0, I, ρ0, 0, 0, 10⟩ _ _ _
 refine sr_ 0 24 mk_U ?_
 refine go_ ?_
 refine ch_n fun hU => ?_
 refine awp_seq ?_
 refine sr_ 24 64 hU ?_
 refine go_ ?_
 refine c0_ rfl rfl r_slss rfl rfl ?_
 refine ch_n fun hU => ?_
 refine cg_ rfl hg (fun h3 hg => ?_) fun h3 hg => ?_
 ·refine awp_seq ?_
  refine awp_region (sys _ _ []) 64 72 hU rfl rfl ?_
  refine go_ ?_
  refine ch_n fun hU => ?_
  refine aw_r ?_
  obtain rfl := Option.some.inj hg
  exact fin_ [] ⟨rfl, rfl⟩
 ·refine awp_skip ?_
  repeat first | refine st_ ?_ | refine sn_ ?_
  refine sr_ 64 72 hU ?_
  refine go_ ?_
  refine ch_n fun hU => ?_
  refine aw_r ?_
  obtain rfl := Option.some.inj hg
  exact fin_ [] ⟨rfl, rfl⟩
theorem w_slices_insertionSortCmpFunc_api_Entry_clo_16_0_ (data : List api_Entry) (a : Int) (b : Int) (cmp : api_Entry → api_Entry → Option (Int)) (hf_cmp : ∀ (x0 : api_Entry) (x1 : api_Entry) (y : Int), cmp x0 x1 = some y → Fn Try.prog 16 0 [.agg (api_Entry.dv x0), .agg (api_Entry.dv x1)] [] (fun d' b' => d' = .val (.int .i64 y) ∧ b' = [])) (r : (List api_Entry)) (hg : g_slices_insertionSortCmpFunc_api_Entry data a b cmp = some r) : Fn Try.prog 43 1 [.row 0, .val (.int .i64 a), .val (.int .i64 b), .clo 16 0 []] [.row 28 6 (encL api_Entry.enc data)] (fun d' b' => d' = .tup [] ∧ b' = [.row 28 6 (encL api_Entry.enc r)]) := by
 unfold g_slices_insertionSortCmpFunc_api_Entry at hg
 refine Fn.of Try.func43 rfl rfl rfl fun w0 I ρ0 => ?_
 show awp _ ⟨w0, I, ρ0, 1, 1, 53⟩ _ _ _
 refine sr_ 1 25 mk_U ?_
 refine go_ ?_
 refine ch_n fun hU => ?_
 refine awp_block ?_
 refine lp_ (fun ((i_1, data_1) : Int × List api_Entry) => mk [(0, .row 0), (1, .val (.int .i64 a)), (2, .val (.int .i64 b)), (3, .clo 16 0 []), (8, .val (.int .i64 i_1))] [(0, .row 28 6 (encL api_Entry.enc data_1))] 1) hg (sub_ [(0, 0)]) ?_
 rintro ⟨i_1, data_1⟩ m1 o1 hg hn1
 replace hg : g_slices_insertionSortCmpFunc_api_Entry.l1 a b cmp i_1 data_1 = some o1 := hg
 show awp _ _ _ _ (mk _ _ _)
 unfold g_slices_insertionSortCmpFunc_api_Entry.l1 at hg
 refine awp_seq ?_
 refine sr_ 1 25 mk_U ?_
 refine go_ ?_
 refine ch_n fun hU => ?_
 refine cg_ rfl hg (fun h3 hg => ?_) fun h3 hg => ?_
 ·refine awp_skip ?_
  repeat first | refine st_ ?_ | refine sn_ ?_
  refine awp_seq ?_
  refine awp_block ?_
  refine sr_ 25 41 hU ?_
  refine go_ ?_
  refine ch_n fun hU => ?_
  refine awp_block ?_
  refine lp_ (fun ((j_2, data_2) : Int × List api_Entry) => mk [(0, .row 0), (1, .val (.int .i64 a)), (2, .val (.int .i64 b)), (3, .clo 16 0 []), (8, .val (.int .i64 i_1)), (9, .val (.int .i64 j_2))] [(0, .row 28 6 (encL api_Entry.enc data_2))] 1) hg (sub_ [(0, 0)]) ?_
  rintro ⟨j_2, data_2⟩ m2 o2 hg hn2
  replace hg : g_slices_insertionSortCmpFunc_api_Entry.l2 a cmp i_1 j_2 data_2 = some o2 := hg
  show awp _ _ _ _ (mk _ _ _)
  unfold g_slices_insertionSortCmpFunc_api_Entry.l2 at hg
  refine awp_seq ?_
  refine awp_cut (ι := Bool) (fun (x34_3 : Bool) => mk [(0, .row 0), (1, .val (.int .i64 a)), (2, .val (.int .i64 b)), (3, .clo 16 0 []), (8, .val (.int .i64 i_1)), (9, .val (.int .i64 j_2)), (34, .val (.bool x34_3))] [(0, .row 28 6 (encL api_Entry.enc data_2))] 1) (fun (x34_3 : Bool) => g_slices_insertionSortCmpFunc_api_Entry.j3 i_1 j_2 data_2 x34_3 = some o2) ?_ ?_
  ·refine awp_draw (sys _ _ []) (by kernel_rfl) [0, 0, 3, 7, 15, 15, 15, 111, 239, 15, 15, 1039, 3599, 7695, 16383, 32767, 65535] 1 137 mk_U rfl rfl (by kernel_rfl) ?_
   refine go_ ?_
   rcases bc_ hg with ⟨h5, hg⟩ | ⟨h5, hg⟩
   ·refine go_ ?_
    obtain ⟨e, he, hg⟩ := bind_some hg
    refine go_ ?_
    refine ch_s (rd := [0]) (gdv_t rfl rfl h5) rfl (r_loadRA ty28 (enc_cells api_Entry.enc_len (getI_at he) (o := 0) (m := 6) (cs := [.str e.Alias, .int .i64 e.Key.Alg, .int .i64 e.Key.Bits, .int .i64 e.KeyId, .bool e.Secret, .sl 15 (encL api_Certificate.enc e.Chain)]) rfl (by decide) rfl) (enc_cells_le api_Entry.enc_len (getI_at he) (o := 0) (m := 6) (by decide) rfl)) rfl rfl ?_
    refine go_ ?_
    obtain ⟨e_2, he_2, hg⟩ := bind_some hg
    refine go_ ?_
    refine ch_s (rd := [0]) (gdv_t rfl rfl h5) rfl (r_loadRA ty28 (enc_cells api_Entry.enc_len (getI_at he_2) (o := 0) (m := 6) (cs := [.str e_2.Alias, .int .i64 e_2.Key.Alg, .int .i64 e_2.Key.Bits, .int .i64 e_2.KeyId, .bool e_2.Secret, .sl 15 (encL api_Certificate.enc e_2.Chain)]) rfl (by decide) rfl) (enc_cells_le api_Entry.enc_len (getI_at he_2) (o := 0) (m := 6) (by decide) rfl)) rfl rfl ?_
    obtain ⟨y, hy, hg⟩ := bind_some hg
    refine ch_callCP (rd := []) (ps := []) (gs := []) false (gdv_t rfl rfl h5) rfl (hf_cmp e e_2 _ hy) rfl rfl (.cons (.agg (.cons .val (.cons .val (.cons .val (.cons .val (.cons .val (.cons .sl .nil))))))) (.cons (.agg (.cons .val (.cons .val (.cons .val (.cons .val (.cons .val (.cons .sl .nil))))))) .nil)) rfl rfl (by intro h; cases h) rfl rfl rfl rfl ?_
    refine go_ ?_
    refine ch_n fun hU => ?_
    exact ⟨decide (y < 0), hg, sub_ [(0, 0)]⟩
   ·refine go_ ?_
    refine ch_n fun hU => ?_
    exact ⟨false, hg, sub_ [(0, 0)]⟩
  ·rintro x34_3 hg
   replace hg : g_slices_insertionSortCmpFunc_api_Entry.j3 i_1 j_2 data_2 x34_3 = some o2 := hg
   show awp _ _ _ _ (mk _ _ _)
   unfold g_slices_insertionSortCmpFunc_api_Entry.j3 at hg
   refine cg_ rfl hg (fun h8 hg => ?_) fun h8 hg => ?_
   ·refine awp_skip ?_
    repeat first | refine st_ ?_ | refine sn_ ?_
    refine awp_seq ?_
    refine awp_block ?_
    refine awp_draw (sys _ _ []) (by kernel_rfl) [0, 0, 0, 0, 8, 0, 0, 64, 224, 480, 0, 0, 3072, 7168, 16355, 32739, 65535, 131071] 1 145 mk_U rfl rfl (by kernel_rfl) ?_
    refine go_ ?_
    obtain ⟨e_3, he_3, hg⟩ := bind_some hg
    refine go_ ?_
    refine ch_s (rd := [0]) rfl rfl (r_loadRA ty28 (enc_cells api_Entry.enc_len (getI_at he_3) (o := 0) (m := 6) (cs := [.str e_3.Alias, .int .i64 e_3.Key.Alg, .int .i64 e_3.Key.Bits, .int .i64 e_3.KeyId, .bool e_3.Secret, .sl 15 (encL api_Certificate.enc e_3.Chain)]) rfl (by decide) rfl) (enc_cells_le api_Entry.enc_len (getI_at he_3) (o := 0) (m := 6) (by decide) rfl)) rfl rfl ?_
    refine go_ ?_
    obtain ⟨e_4, he_4, hg⟩ := bind_some hg
    refine go_ ?_
    refine ch_s (rd := [0]) rfl rfl (r_loadRA ty28 (enc_cells api_Entry.enc_len (getI_at he_4) (o := 0) (m := 6) (cs := [.str e_4.Alias, .int .i64 e_4.Key.Alg, .int .i64 e_4.Key.Bits, .int .i64 e_4.KeyId, .bool e_4.Secret, .sl 15 (encL api_Certificate.enc e_4.Chain)]) rfl (by decide) rfl) (enc_cells_le api_Entry.enc_len (getI_at he_4) (o := 0) (m := 6) (by decide) rfl)) rfl rfl ?_
    refine go_ ?_
    refine ch_s (rd := [0]) rfl rfl (r_storeR ty28 rfl (enc_cells_le api_Entry.enc_len (getI_at he_4) (o := 0) (m := 6) (by decide) rfl) ck28 (cs' := [.str e_3.Alias, .int .i64 e_3.Key.Alg, .int .i64 e_3.Key.Bits, .int .i64 e_3.KeyId, .bool e_3.Secret, .sl 15 (encL api_Certificate.enc e_3.Chain)]) (.cons .str (.cons .int (.cons .int (.cons .int (.cons .bool (.cons .sl .nil)))))) (enc_splice api_Entry.enc_len (getI_at he_4) (o := 0) (x' := e_3) (Nat.le_of_ble_eq_true rfl) rfl rfl)) rfl rfl ?_
    obtain ⟨e_5, he_5, hg⟩ := bind_some hg
    refine go_ ?_
    refine ch_s (rd := [0]) rfl rfl (r_storeR ty28 rfl (enc_cells_le api_Entry.enc_len (getI_at he_5) (o := 0) (m := 6) (by decide) rfl) ck28 (cs' := [.str e_4.Alias, .int .i64 e_4.Key.Alg, .int .i64 e_4.Key.Bits, .int .i64 e_4.KeyId, .bool e_4.Secret, .sl 15 (encL api_Certificate.enc e_4.Chain)]) (.cons .str (.cons .int (.cons .int (.cons .int (.cons .bool (.cons .sl .nil)))))) (enc_splice api_Entry.enc_len (getI_at he_5) (o := 0) (x' := e_4) (Nat.le_of_ble_eq_true rfl) rfl rfl)) rfl rfl ?_
    refine ch_n fun hU => ?_
    refine awp_region (sys _ _ []) 145 169 hU rfl rfl ?_
    refine go_ ?_
    refine ch_n fun hU => ?_
    obtain rfl := Option.some.inj hg
    exact ⟨((W (j_2 - 1), setI (setI data_2 ((j_2).toNat) e_3) ((W (j_2 - 1)).toNat) e_4), m2), Nat.lt_succ_self _, hn2, sub_ [(0, 0)]⟩
   ·refine awp_exit ?_
    repeat first | refine st_ ?_ | refine sn_ ?_
    replace hg := leave hg hn2
    refine awp_region (sys _ _ []) 1 25 mk_U rfl rfl ?_
    refine go_ ?_
    refine ch_n fun hU => ?_
    obtain rfl := Option.some.inj hg
    exact ⟨((W (i_1 + 1), data_2), m1), Nat.lt_succ_self _, hn1, sub_ [(0, 0)]⟩
 ·refine awp_exit ?_
  repeat first | refine st_ ?_ | refine sn_ ?_
  replace hg := leave hg hn1
  obtain rfl := Option.some.inj hg
  exact fin_ [(0, 0)] ⟨rfl, rfl⟩
theorem w_slices_siftDownCmpFunc_api_Entry_clo_16_0_ (data : List api_Entry) (lo : Int) (hi : Int) (first : Int) (cmp : api_Entry → api_Entry → Option (Int)) (hf_cmp : ∀ (x0 : api_Entry) (x1 : api_Entry) (y : Int), cmp x0 x1 = some y → Fn Try.prog 16 0 [.agg (api_Entry.dv x0), .agg (api_Entry.dv x1)] [] (fun d' b' => d' = .val (.int .i64 y) ∧ b' = [])) (r : (List api_Entry)) (hg : g_slices_siftDownCmpFunc_api_Entry data lo hi first cmp = some r) : Fn Try.prog 64 1 [.row 0, .val (.int .i64 lo), .val (.int .i64 hi), .val (.int .i64 first), .clo 16 0 []] [.row 28 6 (encL api_Entry.enc data)] (fun d' b' => d' = .tup [] ∧ b' = [.row 28 6 (encL api_Entry.enc r)]) := by
 unfold g_slices_siftDownCmpFunc_api_Entry at hg
 refine Fn.of Try.func64 rfl rfl rfl fun w0 I ρ0 => ?_
 show awp _ ⟨w0, I, ρ0, 1, 1, 82⟩ _ _ _
 refine sr_ 1 17 mk_U ?_
 refine go_ ?_
 refine ch_n fun hU => ?_
 refine awp_block ?_
 refine lp_ (fun ((root_1, data_1) : Int × List api_Entry) => mk [(0, .row 0), (2, .val (.int .i64 hi)), (3, .val (.int .i64 first)), (4, .clo 16 0 []), (10, .val (.int .i64 root_1))] [(0, .row 28 6 (encL api_Entry.enc data_1))] 1) hg (sub_ [(0, 0)]) ?_
 rintro ⟨root_1, data_1⟩ m1 o1 hg hn1
 replace hg : g_slices_siftDownCmpFunc_api_Entry.l1 hi first cmp root_1 data_1 = some o1 := hg
 show awp _ _ _ _ (mk _ _ _)
 unfold g_slices_siftDownCmpFunc_api_Entry.l1 at hg
 refine awp_block ?_
 refine sr_ 1 33 mk_U ?_
 refine go_ ?_
 refine ch_n fun hU => ?_
 refine awp_seq ?_
 refine sr_ 33 57 hU ?_
 refine go_ ?_
 refine ch_n fun hU => ?_
 refine cg_ rfl hg (fun h4 hg => ?_) fun h4 hg => ?_
 ·refine awp_exit ?_
  repeat first | refine st_ ?_ | refine sn_ ?_
  replace hg := leave hg hn1
  obtain rfl := Option.some.inj hg
  exact fin_ [(0, 0)] ⟨rfl, rfl⟩
 ·refine awp_skip ?_
  repeat first | refine st_ ?_ | refine sn_ ?_
  refine awp_cut (ι := Int) (fun (child_3 : Int) => mk [(0, .row 0), (2, .val (.int .i64 hi)), (3, .val (.int .i64 first)), (4, .clo 16 0 []), (10, .val (.int .i64 root_1)), (11, .val (.int .i64 child_3))] [(0, .row 28 6 (encL api_Entry.enc data_1))] 1) (fun (child_3 : Int) => g_slices_siftDownCmpFunc_api_Entry.j3 first cmp root_1 data_1 child_3 = some o1) ?_ ?_
  ·refine awp_cut (ι := Bool) (fun (x40_2 : Bool) => mk [(0, .row 0), (2, .val (.int .i64 hi)), (3, .val (.int .i64 first)), (4, .clo 16 0 []), (10, .val (.int .i64 root_1)), (11, .val (.int .i64 (W ((W (2 * root_1)) + 1)))), (40, .val (.bool x40_2))] [(0, .row 28 6 (encL api_Entry.enc data_1))] 1) (fun (x40_2 : Bool) => g_slices_siftDownCmpFunc_api_Entry.j2 first cmp root_1 data_1 x40_2 = some o1) ?_ ?_
   ·refine awp_draw (sys _ _ []) (by kernel_rfl) [0, 1, 0, 7, 15, 31, 31, 31, 31, 415, 991, 2015, 31, 31, 31, 24607, 57375, 127007, 258079, 524287, 1048575, 2097151] 57 233 hU rfl rfl (by kernel_rfl) ?_
    refine go_ ?_
    rcases bc_ hg with ⟨h5, hg⟩ | ⟨h5, hg⟩
    ·refine go_ ?_
     obtain ⟨e, he, hg⟩ := bind_some hg
     refine go_ ?_
     refine ch_s (rd := [0]) (gdv_t rfl rfl h5) rfl (r_loadRA ty28 (enc_cells api_Entry.enc_len (getI_at he) (o := 0) (m := 6) (cs := [.str e.Alias, .int .i64 e.Key.Alg, .int .i64 e.Key.Bits, .int .i64 e.KeyId, .bool e.Secret, .sl 15 (encL api_Certificate.enc e.Chain)]) rfl (by decide) rfl) (enc_cells_le api_Entry.enc_len (getI_at he) (o := 0) (m := 6) (by decide) rfl)) rfl rfl ?_
     refine go_ ?_
     obtain ⟨e_2, he_2, hg⟩ := bind_some hg
     refine go_ ?_
     refine ch_s (rd := [0]) (gdv_t rfl rfl h5) rfl (r_loadRA ty28 (enc_cells api_Entry.enc_len (getI_at he_2) (o := 0) (m := 6) (cs := [.str e_2.Alias, .int .i64 e_2.Key.Alg, .int .i64 e_2.Key.Bits, .int .i64 e_2.KeyId, .bool e_2.Secret, .sl 15 (encL api_Certificate.enc e_2.Chain)]) rfl (by decide) rfl) (enc_cells_le api_Entry.enc_len (getI_at he_2) (o := 0) (m := 6) (by decide) rfl)) rfl rfl ?_
     obtain ⟨y, hy, hg⟩ := bind_some hg
     refine ch_callCP (rd := []) (ps := []) (gs := []) false (gdv_t rfl rfl h5) rfl (hf_cmp e e_2 _ hy) rfl rfl (.cons (.agg (.cons .val (.cons .val (.cons .val (.cons .val (.cons .val (.cons .sl .nil))))))) (.cons (.agg (.cons .val (.cons .val (.cons .val (.cons .val (.cons .val (.cons .sl .nil))))))) .nil)) rfl rfl (by intro h; cases h) rfl rfl rfl rfl ?_
     refine go_ ?_
     refine ch_n fun hU => ?_
     exact ⟨decide (y < 0), hg, sub_ [(0, 0)]⟩
    ·refine go_ ?_
     refine ch_n fun hU => ?_
     exact ⟨false, hg, sub_ [(0, 0)]⟩
   ·rintro x40_2 hg
    replace hg : g_slices_siftDownCmpFunc_api_Entry.j2 first cmp root_1 data_1 x40_2 = some o1 := hg
    show awp _ _ _ _ (mk _ _ _)
    unfold g_slices_siftDownCmpFunc_api_Entry.j2 at hg
    refine cg_ rfl hg (fun h8 hg => ?_) fun h8 hg => ?_
    ·refine awp_region (sys _ _ []) 1 25 mk_U rfl rfl ?_
     refine go_ ?_
     refine ch_n fun hU => ?_
     exact ⟨W ((W ((W (2 * root_1)) + 1)) + 1), hg, sub_ [(0, 0)]⟩
    ·refine awp_skip ?_
     repeat first | refine st_ ?_ | refine sn_ ?_
     exact ⟨W ((W (2 * root_1)) + 1), hg, sub_ [(0, 0)]⟩
  ·rintro child_3 hg
   replace hg : g_slices_siftDownCmpFunc_api_Entry.j3 first cmp root_1 data_1 child_3 = some o1 := hg
   show awp _ _ _ _ (mk _ _ _)
   unfold g_slices_siftDownCmpFunc_api_Entry.j3 at hg
   refine awp_seq ?_
   refine awp_seq ?_
   refine awp_draw (sys _ _ []) (by kernel_rfl) [0, 0, 0, 0, 12, 30, 62, 0, 0, 0, 768, 1920, 3968, 8191, 16383, 32767] 1 129 mk_U rfl rfl (by kernel_rfl) ?_
   refine go_ ?_
   obtain ⟨e_3, he_3, hg⟩ := bind_some hg
   refine go_ ?_
   refine ch_s (rd := [0]) rfl rfl (r_loadRA ty28 (enc_cells api_Entry.enc_len (getI_at he_3) (o := 0) (m := 6) (cs := [.str e_3.Alias, .int .i64 e_3.Key.Alg, .int .i64 e_3.Key.Bits, .int .i64 e_3.KeyId, .bool e_3.Secret, .sl 15 (encL api_Certificate.enc e_3.Chain)]) rfl (by decide) rfl) (enc_cells_le api_Entry.enc_len (getI_at he_3) (o := 0) (m := 6) (by decide) rfl)) rfl rfl ?_
   refine go_ ?_
   obtain ⟨e_4, he_4, hg⟩ := bind_some hg
   refine go_ ?_
   refine ch_s (rd := [0]) rfl rfl (r_loadRA ty28 (enc_cells api_Entry.enc_len (getI_at he_4) (o := 0) (m := 6) (cs := [.str e_4.Alias, .int .i64 e_4.Key.Alg, .int .i64 e_4.Key.Bits, .int .i64 e_4.KeyId, .bool e_4.Secret, .sl 15 (encL api_Certificate.enc e_4.Chain)]) rfl (by decide) rfl) (enc_cells_le api_Entry.enc_len (getI_at he_4) (o := 0) (m := 6) (by decide) rfl)) rfl rfl ?_
   obtain ⟨y_2, hy_2, hg⟩ := bind_some hg
   refine ch_callCP (rd := []) (ps := []) (gs := []) false rfl rfl (hf_cmp e_3 e_4 _ hy_2) rfl rfl (.cons (.agg (.cons .val (.cons .val (.cons .val (.cons .val (.cons .val (.cons .sl .nil))))))) (.cons (.agg (.cons .val (.cons .val (.cons .val (.cons .val (.cons .val (.cons .sl .nil))))))) .nil)) rfl rfl (by intro h; cases h) rfl rfl rfl rfl ?_
   refine go_ ?_
   refine ch_n fun hU => ?_
   refine cg_ rfl hg (fun h11 hg => ?_) fun h11 hg => ?_
   ·refine awp_ret ?_
    repeat first | refine st_ ?_ | refine sn_ ?_
    replace hg := leave hg hn1
    obtain rfl := Option.some.inj hg
    exact fin_ [(0, 0)] ⟨rfl, rfl⟩
   ·refine awp_skip ?_
    repeat first | refine st_ ?_ | refine sn_ ?_
    refine awp_seq ?_
    refine awp_draw (sys _ _ []) (by kernel_rfl) [0, 0, 0, 6, 0, 0, 0, 96, 0, 0, 0, 1536, 3840, 7936, 0, 0, 0, 98304, 245760, 507904, 1048335, 2096911, 4194303, 8388607] 129 321 hU rfl rfl (by kernel_rfl) ?_
    refine go_ ?_
    refine ch_s (rd := [0]) rfl rfl (r_loadRA ty28 (enc_cells api_Entry.enc_len (getI_at he_4) (o := 0) (m := 6) (cs := [.str e_4.Alias, .int .i64 e_4.Key.Alg, .int .i64 e_4.Key.Bits, .int .i64 e_4.KeyId, .bool e_4.Secret, .sl 15 (encL api_Certificate.enc e_4.Chain)]) rfl (by decide) rfl) (enc_cells_le api_Entry.enc_len (getI_at he_4) (o := 0) (m := 6) (by decide) rfl)) rfl rfl ?_
    refine go_ ?_
    refine ch_s (rd := [0]) rfl rfl (r_loadRA ty28 (enc_cells api_Entry.enc_len (getI_at he_3) (o := 0) (m := 6) (cs := [.str e_3.Alias, .int .i64 e_3.Key.Alg, .int .i64 e_3.Key.Bits, .int .i64 e_3.KeyId, .bool e_3.Secret, .sl 15 (encL api_Certificate.enc e_3.Chain)]) rfl (by decide) rfl) (enc_cells_le api_Entry.enc_len (getI_at he_3) (o := 0) (m := 6) (by decide) rfl)) rfl rfl ?_
    refine go_ ?_
    refine ch_s (rd := [0]) rfl rfl (r_storeR ty28 rfl (enc_cells_le api_Entry.enc_len (getI_at he_3) (o := 0) (m := 6) (by decide) rfl) ck28 (cs' := [.str e_4.Alias, .int .i64 e_4.Key.Alg, .int .i64 e_4.Key.Bits, .int .i64 e_4.KeyId, .bool e_4.Secret, .sl 15 (encL api_Certificate.enc e_4.Chain)]) (.cons .str (.cons .int (.cons .int (.cons .int (.cons .bool (.cons .sl .nil)))))) (enc_splice api_Entry.enc_len (getI_at he_3) (o := 0) (x' := e_4) (Nat.le_of_ble_eq_true rfl) rfl rfl)) rfl rfl ?_
    obtain ⟨e_5, he_5, hg⟩ := bind_some hg
    refine go_ ?_
    refine ch_s (rd := [0]) rfl rfl (r_storeR ty28 rfl (enc_cells_le api_Entry.enc_len (getI_at he_5) (o := 0) (m := 6) (by decide) rfl) ck28 (cs' := [.str e_3.Alias, .int .i64 e_3.Key.Alg, .int .i64 e_3.Key.Bits, .int .i64 e_3.KeyId, .bool e_3.Secret, .sl 15 (encL api_Certificate.enc e_3.Chain)]) (.cons .str (.cons .int (.cons .int (.cons .int (.cons .bool (.cons .sl .nil)))))) (enc_splice api_Entry.enc_len (getI_at he_5) (o := 0) (x' := e_3) (Nat.le_of_ble_eq_true rfl) rfl rfl)) rfl rfl ?_
    refine ch_n fun hU => ?_
    refine awp_region (sys _ _ []) 321 337 hU rfl rfl ?_
    refine go_ ?_
    refine ch_n fun hU => ?_
    obtain rfl := Option.some.inj hg
    exact ⟨((child_3, setI (setI data_1 ((W (first + root_1)).toNat) e_4) ((W (first + child_3)).toNat) e_3), m1), Nat.lt_succ_self _, hn1, sub_ [(0, 0)]⟩
theorem w_slices_heapSortCmpFunc_api_Entry_clo_16_0_ (data : List api_Entry) (a : Int) (b : Int) (cmp : api_Entry → api_Entry → Option (Int)) (hf_cmp : ∀ (x0 : api_Entry) (x1 : api_Entry) (y : Int), cmp x0 x1 = some y → Fn Try.prog 16 0 [.agg (api_Entry.dv x0), .agg (api_Entry.dv x1)] [] (fun d' b' => d' = .val (.int .i64 y) ∧ b' = [])) (r : (List api_Entry)) (hg : g_slices_heapSortCmpFunc_api_Entry data a b cmp = some r) : Fn Try.prog 44 1 [.row 0, .val (.int .i64 a), .val (.int .i64 b), .clo 16 0 []] [.row 28 6 (encL api_Entry.enc data)] (fun d' b' => d' = .tup [] ∧ b' = [.row 28 6 (encL api_Entry.enc r)]) := by
 unfold g_slices_heapSortCmpFunc_api_Entry at hg
 refine Fn.of Try.func44 rfl rfl rfl fun w0 I ρ0 => ?_
 show awp _ ⟨w0, I, ρ0, 1, 1, 60⟩ _ _ _
 refine sr_ 1 17 mk_U ?_
 refine go_ ?_
 refine ch_n fun hU => ?_
 refine sr_ 17 25 hU ?_
 refine go_ ?_
 refine ch_n fun hU => ?_
 refine sr_ 25 57 hU ?_
 refine go_ ?_
 refine ch_n fun hU => ?_
 refine awp_seq ?_
 refine sr_ 57 89 hU ?_
 refine go_ ?_
 obtain ⟨q, hq, hg⟩ := bind_some hg
 refine c0_ rfl rfl (r_quo hq) rfl rfl ?_
 refine go_ ?_
 refine ch_n fun hU => ?_
 refine awp_block ?_
 refine lp_ (fun ((i_1, data_1) : Int × List api_Entry) => mk [(0, .row 0), (3, .clo 16 0 []), (8, .val (.int .i64 a)), (9, .val (.int .i64 0)), (10, .val (.int .i64 (W (b - a)))), (11, .val (.int .i64 i_1))] [(0, .row 28 6 (encL api_Entry.enc data_1))] 1) hg (sub_ [(0, 0)]) ?_
 rintro ⟨i_1, data_1⟩ m1 o1 hg hn1
 replace hg : g_slices_heapSortCmpFunc_api_Entry.l1 a b cmp i_1 data_1 = some o1 := hg
 show awp _ _ _ _ (mk _ _ _)
 unfold g_slices_heapSortCmpFunc_api_Entry.l1 at hg
 refine awp_seq ?_
 refine sr_ 1 17 mk_U ?_
 refine go_ ?_
 refine ch_n fun hU => ?_
 refine cg_ rfl hg (fun h6 hg => ?_) fun h6 hg => ?_
 ·refine awp_skip ?_
  repeat first | refine st_ ?_ | refine sn_ ?_
  refine awp_seq ?_
  refine awp_block ?_
  refine awp_region (sys _ _ []) 17 65 hU rfl rfl ?_
  refine go_ ?_
  obtain ⟨y, hy, hg⟩ := bind_some hg
  refine cb_ [0] [0] [] false (w_slices_siftDownCmpFunc_api_Entry_clo_16_0_ data_1 i_1 (W (b - a)) a cmp hf_cmp _ hy) ?_
  refine ch_n fun hU => ?_
  refine awp_region (sys _ _ []) 65 89 hU rfl rfl ?_
  refine go_ ?_
  refine ch_n fun hU => ?_
  obtain rfl := Option.some.inj hg
  exact ⟨((W (i_1 - 1), y), m1), Nat.lt_succ_self _, hn1, sub_ [(0, 0)]⟩
 ·refine awp_exit ?_
  repeat first | refine st_ ?_ | refine sn_ ?_
  replace hg := leave hg hn1
  refine sr_ 17 41 hU ?_
  refine go_ ?_
  refine ch_n fun hU => ?_
  refine awp_block ?_
  refine lp_ (fun ((i_2, data_2) : Int × List api_Entry) => mk [(0, .row 0), (3, .clo 16 0 []), (8, .val (.int .i64 a)), (9, .val (.int .i64 0)), (12, .val (.int .i64 i_2))] [(0, .row 28 6 (encL api_Entry.enc data_2))] 1) hg (sub_ [(0, 0)]) ?_
  rintro ⟨i_2, data_2⟩ m2 o2 hg hn2
  replace hg : g_slices_heapSortCmpFunc_api_Entry.l2 a cmp i_2 data_2 = some o2 := hg
  show awp _ _ _ _ (mk _ _ _)
  unfold g_slices_heapSortCmpFunc_api_Entry.l2 at hg
  refine awp_seq ?_
  refine sr_ 1 17 mk_U ?_
  refine go_ ?_
  refine ch_n fun hU => ?_
  refine cg_ rfl hg (fun h11 hg => ?_) fun h11 hg => ?_
  ·refine awp_skip ?_
   repeat first | refine st_ ?_ | refine sn_ ?_
   refine awp_seq ?_
   refine awp_block ?_
   refine awp_seq ?_
   refine awp_draw (sys _ _ []) (by kernel_rfl) [0, 0, 0, 0, 0, 24, 0, 0, 0, 384, 960, 1984, 0, 0, 12288, 28672, 65475, 131011, 262143, 524287] 17 177 hU rfl rfl (by kernel_rfl) ?_
   refine go_ ?_
   obtain ⟨e, he, hg⟩ := bind_some hg
   refine go_ ?_
   refine ch_s (rd := [0]) rfl rfl (r_loadRA ty28 (enc_cells api_Entry.enc_len (getI_at he) (o := 0) (m := 6) (cs := [.str e.Alias, .int .i64 e.Key.Alg, .int .i64 e.Key.Bits, .int .i64 e.KeyId, .bool e.Secret, .sl 15 (encL api_Certificate.enc e.Chain)]) rfl (by decide) rfl) (enc_cells_le api_Entry.enc_len (getI_at he) (o := 0) (m := 6) (by decide) rfl)) rfl rfl ?_
   refine go_ ?_
   obtain ⟨e_2, he_2, hg⟩ := bind_some hg
   refine go_ ?_
   refine ch_s (rd := [0]) rfl rfl (r_loadRA ty28 (enc_cells api_Entry.enc_len (getI_at he_2) (o := 0) (m := 6) (cs := [.str e_2.Alias, .int .i64 e_2.Key.Alg, .int .i64 e_2.Key.Bits, .int .i64 e_2.KeyId, .bool e_2.Secret, .sl 15 (encL api_Certificate.enc e_2.Chain)]) rfl (by decide) rfl) (enc_cells_le api_Entry.enc_len (getI_at he_2) (o := 0) (m := 6) (by decide) rfl)) rfl rfl ?_
   refine go_ ?_
   refine ch_s (rd := [0]) rfl rfl (r_storeR ty28 rfl (enc_cells_le api_Entry.enc_len (getI_at he_2) (o := 0) (m := 6) (by decide) rfl) ck28 (cs' := [.str e.Alias, .int .i64 e.Key.Alg, .int .i64 e.Key.Bits, .int .i64 e.KeyId, .bool e.Secret, .sl 15 (encL api_Certificate.enc e.Chain)]) (.cons .str (.cons .int (.cons .int (.cons .int (.cons .bool (.cons .sl .nil)))))) (enc_splice api_Entry.enc_len (getI_at he_2) (o := 0) (x' := e) (Nat.le_of_ble_eq_true rfl) rfl rfl)) rfl rfl ?_
   obtain ⟨e_3, he_3, hg⟩ := bind_some hg
   refine go_ ?_
   refine ch_s (rd := [0]) rfl rfl (r_storeR ty28 rfl (enc_cells_le api_Entry.enc_len (getI_at he_3) (o := 0) (m := 6) (by decide) rfl) ck28 (cs' := [.str e_2.Alias, .int .i64 e_2.Key.Alg, .int .i64 e_2.Key.Bits, .int .i64 e_2.KeyId, .bool e_2.Secret, .sl 15 (encL api_Certificate.enc e_2.Chain)]) (.cons .str (.cons .int (.cons .int (.cons .int (.cons .bool (.cons .sl .nil)))))) (enc_splice api_Entry.enc_len (getI_at he_3) (o := 0) (x' := e_2) (Nat.le_of_ble_eq_true rfl) rfl rfl)) rfl rfl ?_
   refine ch_n fun hU => ?_
   refine awp_region (sys _ _ []) 177 225 hU rfl rfl ?_
   refine go_ ?_
   obtain ⟨y_2, hy_2, hg⟩ := bind_some hg
   refine cb_ [0] [0] [] false (w_slices_siftDownCmpFunc_api_Entry_clo_16_0_ (setI (setI data_2 ((a).toNat) e) ((W (a + i_2)).toNat) e_2) 0 i_2 a cmp hf_cmp _ hy_2) ?_
   refine ch_n fun hU => ?_
   refine awp_region (sys _ _ []) 225 249 hU rfl rfl ?_
   refine go_ ?_
   refine ch_n fun hU => ?_
   obtain rfl := Option.some.inj hg
   exact ⟨((W (i_2 - 1), y_2), m2), Nat.lt_succ_self _, hn2, sub_ [(0, 0)]⟩
  ·refine awp_exit ?_
   repeat first | refine st_ ?_ | refine sn_ ?_
   replace hg := leave hg hn2
   obtain rfl := Option.some.inj hg
   exact fin_ [(0, 0)] ⟨rfl, rfl⟩
theorem w_slices_nextPowerOfTwo (length : Int) (r : Int) (hg : g_slices_nextPowerOfTwo length = some r) : Fn Try.prog 65 0 [.val (.int .i64 length)] [] (fun d' b' => d' = .val (.int .u64 r) ∧ b' = []) := by
 unfold g_slices_nextPowerOfTwo at hg
 refine Fn.of Try.func65 rfl rfl rfl fun w0 I ρ0 => ?_
 show awp _ ⟨w0, I, ρ0, 0, 0, 7⟩ _ _ _
 refine sr_ 0 8 mk_U ?_
 refine go_ ?_
 refine ch_n fun hU => ?_
 refine sr_ 8 48 hU ?_
 refine go_ ?_
 refine c0_ rfl rfl (r_convK und3 und56) rfl rfl ?_
 obtain ⟨y, hy, hg⟩ := bind_some hg
 refine ca_ (w_math_bits_Len _ _ hy) ?_
 obtain ⟨q, hq, hg⟩ := bind_some hg
 refine c0_ rfl rfl (r_shlK hq) rfl rfl ?_
 refine go_ ?_
 refine ch_n fun hU => ?_
 refine aw_r ?_
 obtain rfl := Option.some.inj hg
 exact fin_ [] ⟨rfl, rfl⟩
theorem w_slices_xorshift_Next (r' : Int) (r : Int × Int) (hg : g_slices_xorshift_Next r' = some r) : Fn Try.prog 66 1 [.ptr 0 0] [.box [.val (.int .u64 r')] 94] (fun d' b' => d' = .val (.int .u64 r.1) ∧ b' = [.box [.val (.int .u64 r.2)] 94]) := by
 unfold g_slices_xorshift_Next at hg
 refine Fn.of Try.func66 rfl rfl rfl fun w0 I ρ0 => ?_
 show awp _ ⟨w0, I, ρ0, 1, 1, 33⟩ _ _ _
 refine sr_ 1 9 mk_U ?_
 refine go_ ?_
 refine ch_n fun hU => ?_
 refine awp_seq ?_
 refine awp_draw (sys _ _ []) (by kernel_rfl) [0, 1, 3, 0, 8, 24, 56, 127, 255, 511] 9 89 hU rfl rfl (by kernel_rfl) ?_
 refine go_ ?_
 obtain ⟨q, hq, hg⟩ := bind_some hg
 refine c0_ rfl rfl (r_shlK hq) rfl rfl ?_
 refine c0_ rfl rfl r_xorK rfl rfl ?_
 refine go_ ?_
 refine ch_n fun hU => ?_
 refine awp_seq ?_
 refine awp_draw (sys _ _ []) (by kernel_rfl) [0, 1, 3, 0, 8, 24, 56, 127, 255, 511] 89 169 hU rfl rfl (by kernel_rfl) ?_
 refine go_ ?_
 obtain ⟨q_2, hq_2, hg⟩ := bind_some hg
 refine c0_ rfl rfl (r_shrK hq_2) rfl rfl ?_
 refine c0_ rfl rfl r_xorK rfl rfl ?_
 refine go_ ?_
 refine ch_n fun hU => ?_
 refine awp_seq ?_
 refine awp_draw (sys _ _ []) (by kernel_rfl) [0, 1, 3, 0, 8, 24, 56, 127, 255, 511] 169 249 hU rfl rfl (by kernel_rfl) ?_
 refine go_ ?_
 obtain ⟨q_3, hq_3, hg⟩ := bind_some hg
 refine c0_ rfl rfl (r_shlK hq_3) rfl rfl ?_
 refine c0_ rfl rfl r_xorK rfl rfl ?_
 refine go_ ?_
 refine ch_n fun hU => ?_
 refine sr_ 249 281 hU ?_
 refine go_ ?_
 refine ch_n fun hU => ?_
 refine aw_r ?_
 obtain rfl := Option.some.inj hg
 exact fin_ [(0, 0)] ⟨rfl, rfl⟩
theorem w_slices_breakPatternsCmpFunc_api_Entry_clo_16_0_ (data : List api_Entry) (a : Int) (b : Int) (cmp : api_Entry → api_Entry → Option (Int)) (hf_cmp : ∀ (x0 : api_Entry) (x1 : api_Entry) (y : Int), cmp x0 x1 = some y → Fn Try.prog 16 0 [.agg (api_Entry.dv x0), .agg (api_Entry.dv x1)] [] (fun d' b' => d' = .val (.int .i64 y) ∧ b' = [])) (r : (List api_Entry)) (hg : g_slices_breakPatternsCmpFunc_api_Entry data a b cmp = some r) : Fn Try.prog 45 1 [.row 0, .val (.int .i64 a), .val (.int .i64 b), .clo 16 0 []] [.row 28 6 (encL api_Entry.enc data)] (fun d' b' => d' = .tup [] ∧ b' = [.row 28 6 (encL api_Entry.enc r)]) := by
 unfold g_slices_breakPatternsCmpFunc_api_Entry at hg
 refine Fn.of Try.func45 rfl rfl rfl fun w0 I ρ0 => ?_
 show awp _ ⟨w0, I, ρ0, 1, 1, 67⟩ _ _ _
 refine sr_ 1 33 mk_U ?_
 refine go_ ?_
 refine ch_n fun hU => ?_
 refine sr_ 33 49 hU ?_
 refine go_ ?_
 refine ch_n fun hU => ?_
 refine cg_ rfl hg (fun h3 hg => ?_) fun h3 hg => ?_
 ·refine awp_seq ?_
  refine awp_region (sys _ _ []) 49 81 hU rfl rfl ?_
  refine go_ ?_
  refine c0_ rfl rfl (r_convK und3 und94) rfl rfl ?_
  refine go_ ?_
  refine ch_n fun hU => ?_
  refine sr_ 81 105 hU ?_
  refine go_ ?_
  obtain ⟨y, hy, hg⟩ := bind_some hg
  refine ca_ (w_slices_nextPowerOfTwo _ _ hy) ?_
  refine go_ ?_
  refine ch_n fun hU => ?_
  refine sr_ 105 161 hU ?_
  refine go_ ?_
  obtain ⟨q, hq, hg⟩ := bind_some hg
  refine c0_ rfl rfl (r_quo hq) rfl rfl ?_
  refine go_ ?_
  refine ch_n fun hU => ?_
  refine awp_block ?_
  refine lp_ (fun ((idx_1, data_1, random_1) : Int × List api_Entry × Int) => mk [(0, .row 0), (1, .val (.int .i64 a)), (8, .val (.int .i64 (W (b - a)))), (9, .ptr 1 0), (10, .val (.int .u64 y)), (11, .val (.int .i64 idx_1))] [(0, .row 28 6 (encL api_Entry.enc data_1)), (1, .box [.val (.int .u64 random_1)] 94)] 2) hg (sub_ [(0, 0), (1, 65)]) ?_
  rintro ⟨idx_1, data_1, random_1⟩ m1 o1 hg hn1
  replace hg : g_slices_breakPatternsCmpFunc_api_Entry.l1 a b y idx_1 data_1 random_1 = some o1 := hg
  show awp _ _ _ _ (mk _ _ _)
  unfold g_slices_breakPatternsCmpFunc_api_Entry.l1 at hg
  refine awp_seq ?_
  refine sr_ 2 66 mk_U ?_
  refine go_ ?_
  obtain ⟨q_2, hq_2, hg⟩ := bind_some hg
  refine c0_ rfl rfl (r_quo hq_2) rfl rfl ?_
  refine go_ ?_
  refine ch_n fun hU => ?_
  refine cg_ rfl hg (fun h8 hg => ?_) fun h8 hg => ?_
  ·refine awp_skip ?_
   repeat first | refine st_ ?_ | refine sn_ ?_
   refine awp_seq ?_
   refine awp_block ?_
   refine sr_ 66 114 hU ?_
   obtain ⟨y_2, hy_2, hg⟩ := bind_some hg
   refine cb_ [1] [1] [] false (w_slices_xorshift_Next _ _ hy_2) ?_
   refine go_ ?_
   refine c0_ rfl rfl r_subK rfl rfl ?_
   refine c0_ rfl rfl r_andK rfl rfl ?_
   refine c0_ rfl rfl (r_conv_i64 und56 und3) rfl rfl ?_
   refine go_ ?_
   refine ch_n fun hU => ?_
   refine awp_cut (ι := Int) (fun (other_2 : Int) => mk [(0, .row 0), (1, .val (.int .i64 a)), (8, .val (.int .i64 (W (b - a)))), (9, .ptr 1 0), (10, .val (.int .u64 y)), (11, .val (.int .i64 idx_1)), (12, .val (.int .i64 other_2))] [(0, .row 28 6 (encL api_Entry.enc data_1)), (1, .box [.val (.int .u64 y_2.2)] 94)] 2) (fun (other_2 : Int) => g_slices_breakPatternsCmpFunc_api_Entry.j2 a idx_1 data_1 y_2 other_2 = some o1) ?_ ?_
   ·refine awp_seq ?_
    refine awp_region (sys _ _ []) 114 138 hU rfl rfl ?_
    refine go_ ?_
    refine ch_n fun hU => ?_
    refine cg_ rfl hg (fun h11 hg => ?_) fun h11 hg => ?_
    ·refine awp_region (sys _ _ []) 138 170 hU rfl rfl ?_
     refine go_ ?_
     refine ch_n fun hU => ?_
     exact ⟨W ((W (andK .u64 y_2.1 (IntKind.wrap .u64 (y - 1)))) - (W (b - a))), hg, sub_ [(0, 0), (1, 1)]⟩
    ·refine awp_skip ?_
     repeat first | refine st_ ?_ | refine sn_ ?_
     exact ⟨W (andK .u64 y_2.1 (IntKind.wrap .u64 (y - 1))), hg, sub_ [(0, 0), (1, 1)]⟩
   ·rintro other_2 hg
    replace hg : g_slices_breakPatternsCmpFunc_api_Entry.j2 a idx_1 data_1 y_2 other_2 = some o1 := hg
    show awp _ _ _ _ (mk _ _ _)
    unfold g_slices_breakPatternsCmpFunc_api_Entry.j2 at hg
    refine awp_draw (sys _ _ []) (by kernel_rfl) [0, 0, 0, 0, 0, 24, 0, 0, 0, 384, 960, 1984, 0, 0, 12288, 28672, 65475, 131011, 262143, 524287] 2 162 mk_U rfl rfl (by kernel_rfl) ?_
    refine go_ ?_
    obtain ⟨e, he, hg⟩ := bind_some hg
    refine go_ ?_
    refine ch_s (rd := [0]) rfl rfl (r_loadRA ty28 (enc_cells api_Entry.enc_len (getI_at he) (o := 0) (m := 6) (cs := [.str e.Alias, .int .i64 e.Key.Alg, .int .i64 e.Key.Bits, .int .i64 e.KeyId, .bool e.Secret, .sl 15 (encL api_Certificate.enc e.Chain)]) rfl (by decide) rfl) (enc_cells_le api_Entry.enc_len (getI_at he) (o := 0) (m := 6) (by decide) rfl)) rfl rfl ?_
    refine go_ ?_
    obtain ⟨e_2, he_2, hg⟩ := bind_some hg
    refine go_ ?_
    refine ch_s (rd := [0]) rfl rfl (r_loadRA ty28 (enc_cells api_Entry.enc_len (getI_at he_2) (o := 0) (m := 6) (cs := [.str e_2.Alias, .int .i64 e_2.Key.Alg, .int .i64 e_2.Key.Bits, .int .i64 e_2.KeyId, .bool e_2.Secret, .sl 15 (encL api_Certificate.enc e_2.Chain)]) rfl (by decide) rfl) (enc_cells_le api_Entry.enc_len (getI_at he_2) (o := 0) (m := 6) (by decide) rfl)) rfl rfl ?_
    refine go_ ?_
    refine ch_s (rd := [0]) rfl rfl (r_storeR ty28 rfl (enc_cells_le api_Entry.enc_len (getI_at he_2) (o := 0) (m := 6) (by decide) rfl) ck28 (cs' := [.str e.Alias, .int .i64 e.Key.Alg, .int .i64 e.Key.Bits, .int .i64 e.KeyId, .bool e.Secret, .sl 15 (encL api_Certificate.enc e.Chain)]) (.cons .str (.cons .int (.cons .int (.cons .int (.cons .bool (.cons .sl .nil)))))) (enc_splice api_Entry.enc_len (getI_at he_2) (o := 0) (x' := e) (Nat.le_of_ble_eq_true rfl) rfl rfl)) rfl rfl ?_
    obtain ⟨e_3, he_3, hg⟩ := bind_some hg
    refine go_ ?_
    refine ch_s (rd := [0]) rfl rfl (r_storeR ty28 rfl (enc_cells_le api_Entry.enc_len (getI_at he_3) (o := 0) (m := 6) (by decide) rfl) ck28 (cs' := [.str e_2.Alias, .int .i64 e_2.Key.Alg, .int .i64 e_2.Key.Bits, .int .i64 e_2.KeyId, .bool e_2.Secret, .sl 15 (encL api_Certificate.enc e_2.Chain)]) (.cons .str (.cons .int (.cons .int (.cons .int (.cons .bool (.cons .sl .nil)))))) (enc_splice api_Entry.enc_len (getI_at he_3) (o := 0) (x' := e_2) (Nat.le_of_ble_eq_true rfl) rfl rfl)) rfl rfl ?_
    refine ch_n fun hU => ?_
    refine awp_region (sys _ _ []) 162 186 hU rfl rfl ?_
    refine go_ ?_
    refine ch_n fun hU => ?_
    obtain rfl := Option.some.inj hg
    exact ⟨((W (idx_1 + 1), setI (setI data_1 ((idx_1).toNat) e) ((W (a + other_2)).toNat) e_2, y_2.2), m1), Nat.lt_succ_self _, hn1, sub_ [(0, 0), (1, 1)]⟩
  ·refine awp_exit ?_
   repeat first | refine st_ ?_ | refine sn_ ?_
   replace hg := leave hg hn1
   obtain rfl := Option.some.inj hg
   exact fin_ [(0, 0)] ⟨rfl, rfl⟩
 ·refine awp_skip ?_
  repeat first | refine st_ ?_ | refine sn_ ?_
  obtain rfl := Option.some.inj hg
  exact fin_ [(0, 0)] ⟨rfl, rfl⟩
theorem w_slices_order2CmpFunc_api_Entry_clo_16_0_ (data : (List api_Entry)) (a : Int) (b : Int) (swaps : Int) (cmp : api_Entry → api_Entry → Option (Int)) (hf_cmp : ∀ (x0 : api_Entry) (x1 : api_Entry) (y : Int), cmp x0 x1 = some y → Fn Try.prog 16 0 [.agg (api_Entry.dv x0), .agg (api_Entry.dv x1)] [] (fun d' b' => d' = .val (.int .i64 y) ∧ b' = [])) (r : Int × Int × Int) (hg : g_slices_order2CmpFunc_api_Entry data a b swaps cmp = some r) : Fn Try.prog 79 1 [.sl 6 (encL api_Entry.enc data), .val (.int .i64 a), .val (.int .i64 b), .ptr 0 0, .clo 16 0 []] [.box [.val (.int .i64 swaps)] 3] (fun d' b' => d' = .tup [.val (.int .i64 r.1), .val (.int .i64 r.2.1)] ∧ b' = [.box [.val (.int .i64 r.2.2)] 3]) := by
 unfold g_slices_order2CmpFunc_api_Entry at hg
 refine Fn.of Try.func79 rfl rfl rfl fun w0 I ρ0 => ?_
 show awp _ ⟨w0, I, ρ0, 1, 1, 32⟩ _ _ _
 refine sr_ 1 17 mk_U ?_
 refine go_ ?_
 refine ch_n fun hU => ?_
 refine awp_seq ?_
 refine awp_seq ?_
 refine awp_draw (sys _ _ []) (by kernel_rfl) [0, 0, 0, 6, 14, 0, 0, 96, 224, 511, 1023] 17 105 hU rfl rfl (by kernel_rfl) ?_
 refine go_ ?_
 obtain ⟨e, he, hg⟩ := bind_some hg
 refine go_ ?_
 refine c0_ rfl rfl (r_loadEA ty28 (enc_cells api_Entry.enc_len (getI_at he) (o := 0) (m := 6) (cs := [.str e.Alias, .int .i64 e.Key.Alg, .int .i64 e.Key.Bits, .int .i64 e.KeyId, .bool e.Secret, .sl 15 (encL api_Certificate.enc e.Chain)]) rfl (by decide) rfl) (enc_cells_le api_Entry.enc_len (getI_at he) (o := 0) (m := 6) (by decide) rfl)) rfl rfl ?_
 refine go_ ?_
 obtain ⟨e_2, he_2, hg⟩ := bind_some hg
 refine go_ ?_
 refine c0_ rfl rfl (r_loadEA ty28 (enc_cells api_Entry.enc_len (getI_at he_2) (o := 0) (m := 6) (cs := [.str e_2.Alias, .int .i64 e_2.Key.Alg, .int .i64 e_2.Key.Bits, .int .i64 e_2.KeyId, .bool e_2.Secret, .sl 15 (encL api_Certificate.enc e_2.Chain)]) rfl (by decide) rfl) (enc_cells_le api_Entry.enc_len (getI_at he_2) (o := 0) (m := 6) (by decide) rfl)) rfl rfl ?_
 obtain ⟨y, hy, hg⟩ := bind_some hg
 refine ch_callCP (rd := []) (ps := []) (gs := []) false rfl rfl (hf_cmp e e_2 _ hy) rfl rfl (.cons (.agg (.cons .val (.cons .val (.cons .val (.cons .val (.cons .val (.cons .sl .nil))))))) (.cons (.agg (.cons .val (.cons .val (.cons .val (.cons .val (.cons .val (.cons .sl .nil))))))) .nil)) rfl rfl (by intro h; cases h) rfl rfl rfl rfl ?_
 refine go_ ?_
 refine ch_n fun hU => ?_
 refine cg_ rfl hg (fun h3 hg => ?_) fun h3 hg => ?_
 ·refine awp_seq ?_
  refine awp_region (sys _ _ []) 105 153 hU rfl rfl ?_
  refine go_ ?_
  refine ch_n fun hU => ?_
  refine sr_ 153 185 hU ?_
  refine go_ ?_
  refine ch_n fun hU => ?_
  refine aw_r ?_
  obtain rfl := Option.some.inj hg
  exact fin_ [(0, 0)] ⟨rfl, rfl⟩
 ·refine awp_skip ?_
  repeat first | refine st_ ?_ | refine sn_ ?_
  refine sr_ 105 137 hU ?_
  refine go_ ?_
  refine ch_n fun hU => ?_
  refine aw_r ?_
  obtain rfl := Option.some.inj hg
  exact fin_ [(0, 0)] ⟨rfl, rfl⟩
theorem w_slices_medianCmpFunc_api_Entry_clo_16_0_ (data : (List api_Entry)) (a : Int) (b : Int) (c : Int) (swaps : Int) (cmp : api_Entry → api_Entry → Option (Int)) (hf_cmp : ∀ (x0 : api_Entry) (x1 : api_Entry) (y : Int), cmp x0 x1 = some y → Fn Try.prog 16 0 [.agg (api_Entry.dv x0), .agg (api_Entry.dv x1)] [] (fun d' b' => d' = .val (.int .i64 y) ∧ b' = [])) (r : Int × Int) (hg : g_slices_medianCmpFunc_api_Entry data a b c swaps cmp = some r) : Fn Try.prog 68 1 [.sl 6 (encL api_Entry.enc data), .val (.int .i64 a), .val (.int .i64 b), .val (.int .i64 c), .ptr 0 0, .clo 16 0 []] [.box [.val (.int .i64 swaps)] 3] (fun d' b' => d' = .val (.int .i64 r.1) ∧ b' = [.box [.val (.int .i64 r.2)] 3]) := by
 unfold g_slices_medianCmpFunc_api_Entry at hg
 refine Fn.of Try.func68 rfl rfl rfl fun w0 I ρ0 => ?_
 show awp _ ⟨w0, I, ρ0, 1, 1, 41⟩ _ _ _
 refine sr_ 1 9 mk_U ?_
 refine go_ ?_
 refine ch_n fun hU => ?_
 refine sr_ 9 97 hU ?_
 refine go_ ?_
 obtain ⟨y, hy, hg⟩ := bind_some hg
 refine cb_ [0] [0] [] false (w_slices_order2CmpFunc_api_Entry_clo_16_0_ data a b swaps cmp hf_cmp _ hy) ?_
 refine go_ ?_
 refine ch_n fun hU => ?_
 refine sr_ 97 185 hU ?_
 refine go_ ?_
 obtain ⟨y_2, hy_2, hg⟩ := bind_some hg
 refine cb_ [0] [0] [] false (w_slices_order2CmpFunc_api_Entry_clo_16_0_ data y.2.1 c y.2.2 cmp hf_cmp _ hy_2) ?_
 refine go_ ?_
 refine ch_n fun hU => ?_
 refine sr_ 185 273 hU ?_
 refine go_ ?_
 obtain ⟨y_3, hy_3, hg⟩ := bind_some hg
 refine cb_ [0] [0] [] false (w_slices_order2CmpFunc_api_Entry_clo_16_0_ data y.1 y_2.1 y_2.2.2 cmp hf_cmp _ hy_3) ?_
 refine go_ ?_
 refine ch_n fun hU => ?_
 refine sr_ 273 289 hU ?_
 refine go_ ?_
 refine ch_n fun hU => ?_
 refine aw_r ?_
 obtain rfl := Option.some.inj hg
 exact fin_ [(0, 0)] ⟨rfl, rfl⟩
theorem w_slices_medianAdjacentCmpFunc_api_Entry_clo_16_0_ (data : (List api_Entry)) (a : Int) (swaps : Int) (cmp : api_Entry → api_Entry → Option (Int)) (hf_cmp : ∀ (x0 : api_Entry) (x1 : api_Entry) (y : Int), cmp x0 x1 = some y → Fn Try.prog 16 0 [.agg (api_Entry.dv x0), .agg (api_Entry.dv x1)] [] (fun d' b' => d' = .val (.int .i64 y) ∧ b' = [])) (r : Int × Int) (hg : g_slices_medianAdjacentCmpFunc_api_Entry data a swaps cmp = some r) : Fn Try.prog 67 1 [.sl 6 (encL api_Entry.enc data), .val (.int .i64 a), .ptr 0 0, .clo 16 0 []] [.box [.val (.int .i64 swaps)] 3] (fun d' b' => d' = .val (.int .i64 r.1) ∧ b' = [.box [.val (.int .i64 r.2)] 3]) := by
 unfold g_slices_medianAdjacentCmpFunc_api_Entry at hg
 refine Fn.of Try.func67 rfl rfl rfl fun w0 I ρ0 => ?_
 show awp _ ⟨w0, I, ρ0, 1, 1, 18⟩ _ _ _
 refine sr_ 1 9 mk_U ?_
 refine go_ ?_
 refine ch_n fun hU => ?_
 refine sr_ 9 89 hU ?_
 refine go_ ?_
 obtain ⟨y, hy, hg⟩ := bind_some hg
 refine cb_ [0] [0] [] false (w_slices_medianCmpFunc_api_Entry_clo_16_0_ data (W (a - 1)) a (W (a + 1)) swaps cmp hf_cmp _ hy) ?_
 refine go_ ?_
 refine ch_n fun hU => ?_
 refine aw_r ?_
 obtain rfl := Option.some.inj hg
 exact fin_ [(0, 0)] ⟨rfl, rfl⟩
theorem w_slices_choosePivotCmpFunc_api_Entry_clo_16_0_ (data : (List api_Entry)) (a : Int) (b : Int) (cmp : api_Entry → api_Entry → Option (Int)) (hf_cmp : ∀ (x0 : api_Entry) (x1 : api_Entry) (y : Int), cmp x0 x1 = some y → Fn Try.prog 16 0 [.agg (api_Entry.dv x0), .agg (api_Entry.dv x1)] [] (fun d' b' => d' = .val (.int .i64 y) ∧ b' = [])) (r : Int × Int) (hg : g_slices_choosePivotCmpFunc_api_Entry data a b cmp = some r) : Fn Try.prog 46 0 [.sl 6 (encL api_Entry.enc data), .val (.int .i64 a), .val (.int .i64 b), .clo 16 0 []] [] (fun d' b' => d' = .tup [.val (.int .i64 r.1), .val (.int .i64 r.2)] ∧ b' = []) := by
 unfold g_slices_choosePivotCmpFunc_api_Entry at hg
 refine Fn.of Try.func46 rfl rfl rfl fun w0 I ρ0 => ?_
 show awp _ ⟨w0, I, ρ0, 0, 0, 63⟩ _ _ _
 refine sr_ 0 16 mk_U ?_
 refine go_ ?_
 refine ch_n fun hU => ?_
 refine sr_ 16 48 hU ?_
 refine go_ ?_
 refine ch_n fun hU => ?_
 refine sr_ 48 56 hU ?_
 refine go_ ?_
 refine ch_n fun hU => ?_
 refine sr_ 56 104 hU ?_
 refine go_ ?_
 obtain ⟨q, hq, hg⟩ := bind_some hg
 refine c0_ rfl rfl (r_quo hq) rfl rfl ?_
 refine go_ ?_
 refine ch_n fun hU => ?_
 refine sr_ 104 152 hU ?_
 refine go_ ?_
 obtain ⟨q_2, hq_2, hg⟩ := bind_some hg
 refine c0_ rfl rfl (r_quo hq_2) rfl rfl ?_
 refine go_ ?_
 refine ch_n fun hU => ?_
 refine sr_ 152 200 hU ?_
 refine go_ ?_
 obtain ⟨q_3, hq_3, hg⟩ := bind_some hg
 refine c0_ rfl rfl (r_quo hq_3) rfl rfl ?_
 refine go_ ?_
 refine ch_n fun hU => ?_
 refine awp_cut (ι := Int × Int) (fun ((j_2, swaps_2) : Int × Int) => mk [(11, .ptr 0 0), (13, .val (.int .i64 j_2))] [(0, .box [.val (.int .i64 swaps_2)] 3)] 1) (fun ((j_2, swaps_2) : Int × Int) => g_slices_choosePivotCmpFunc_api_Entry.j2 j_2 swaps_2 = some r) ?_ ?_
 ·refine awp_seq ?_
  refine awp_region (sys _ _ []) 200 216 hU rfl rfl ?_
  refine go_ ?_
  refine ch_n fun hU => ?_
  refine cg_ rfl hg (fun h8 hg => ?_) fun h8 hg => ?_
  ·refine awp_cut (ι := Int × Int × Int × Int) (fun ((i_1, j_1, k_1, swaps_1) : Int × Int × Int × Int) => mk [(0, .sl 6 (encL api_Entry.enc data)), (3, .clo 16 0 []), (11, .ptr 0 0), (12, .val (.int .i64 i_1)), (13, .val (.int .i64 j_1)), (14, .val (.int .i64 k_1))] [(0, .box [.val (.int .i64 swaps_1)] 3)] 1) (fun ((i_1, j_1, k_1, swaps_1) : Int × Int × Int × Int) => g_slices_choosePivotCmpFunc_api_Entry.j1 data cmp i_1 j_1 k_1 swaps_1 = some r) ?_ ?_
   ·refine awp_seq ?_
    refine awp_region (sys _ _ []) 216 232 hU rfl rfl ?_
    refine go_ ?_
    refine ch_n fun hU => ?_
    refine cg_ rfl hg (fun h10 hg => ?_) fun h10 hg => ?_
    ·refine awp_seq ?_
     refine awp_region (sys _ _ []) 232 272 hU rfl rfl ?_
     refine go_ ?_
     obtain ⟨y, hy, hg⟩ := bind_some hg
     refine cb_ [48] [48] [] false (w_slices_medianAdjacentCmpFunc_api_Entry_clo_16_0_ data (W (a + (W (q * 1)))) 0 cmp hf_cmp _ hy) ?_
     refine go_ ?_
     refine ch_n fun hU => ?_
     refine sr_ 272 312 hU ?_
     refine go_ ?_
     obtain ⟨y_2, hy_2, hg⟩ := bind_some hg
     refine cb_ [48] [48] [] false (w_slices_medianAdjacentCmpFunc_api_Entry_clo_16_0_ data (W (a + (W (q_2 * 2)))) y.2 cmp hf_cmp _ hy_2) ?_
     refine go_ ?_
     refine ch_n fun hU => ?_
     refine awp_region (sys _ _ []) 312 352 hU rfl rfl ?_
     refine go_ ?_
     obtain ⟨y_3, hy_3, hg⟩ := bind_some hg
     refine cb_ [48] [48] [] false (w_slices_medianAdjacentCmpFunc_api_Entry_clo_16_0_ data (W (a + (W (q_3 * 3)))) y_2.2 cmp hf_cmp _ hy_3) ?_
     refine go_ ?_
     refine ch_n fun hU => ?_
     exact ⟨(y.1, y_2.1, y_3.1, y_3.2), hg, sub_ [(0, 48)]⟩
    ·refine awp_skip ?_
     repeat first | refine st_ ?_ | refine sn_ ?_
     exact ⟨(W (a + (W (q * 1))), W (a + (W (q_2 * 2))), W (a + (W (q_3 * 3))), 0), hg, sub_ [(0, 48)]⟩
   ·rintro ⟨i_1, j_1, k_1, swaps_1⟩ hg
    replace hg : g_slices_choosePivotCmpFunc_api_Entry.j1 data cmp i_1 j_1 k_1 swaps_1 = some r := hg
    show awp _ _ _ _ (mk _ _ _)
    unfold g_slices_choosePivotCmpFunc_api_Entry.j1 at hg
    refine awp_region (sys _ _ []) 1 57 mk_U rfl rfl ?_
    refine go_ ?_
    obtain ⟨y_4, hy_4, hg⟩ := bind_some hg
    refine cb_ [0] [0] [] false (w_slices_medianCmpFunc_api_Entry_clo_16_0_ data i_1 j_1 k_1 swaps_1 cmp hf_cmp _ hy_4) ?_
    refine go_ ?_
    refine ch_n fun hU => ?_
    exact ⟨(y_4.1, y_4.2), hg, sub_ [(0, 0)]⟩
  ·refine awp_skip ?_
   repeat first | refine st_ ?_ | refine sn_ ?_
   exact ⟨(W (a + (W (q_2 * 2))), 0), hg, sub_ [(0, 48)]⟩
 ·rintro ⟨j_2, swaps_2⟩ hg
  replace hg : g_slices_choosePivotCmpFunc_api_Entry.j2 j_2 swaps_2 = some r := hg
  show awp _ _ _ _ (mk _ _ _)
  unfold g_slices_choosePivotCmpFunc_api_Entry.j2 at hg
  refine sr_ 1 9 mk_U ?_
  refine go_ ?_
  refine ch_n fun hU => ?_
  refine awp_block ?_
  refine sr_ 9 25 hU ?_
  refine go_ ?_
  refine ch_n fun hU => ?_
  refine cg_ rfl hg (fun h17 hg => ?_) fun h17 hg => ?_
  ·refine awp_seq ?_
   refine awp_region (sys _ _ []) 25 49 hU rfl rfl ?_
   refine go_ ?_
   refine ch_n fun hU => ?_
   refine aw_r ?_
   obtain rfl := Option.some.inj hg
   exact fin_ [] ⟨rfl, rfl⟩
  ·refine awp_seq ?_
   refine awp_region (sys _ _ []) 25 41 hU rfl rfl ?_
   refine go_ ?_
   refine ch_n fun hU => ?_
   refine cg_ rfl hg (fun h20 hg => ?_) fun h20 hg => ?_
   ·refine awp_seq ?_
    refine awp_region (sys _ _ []) 41 65 hU rfl rfl ?_
    refine go_ ?_
    refine ch_n fun hU => ?_
    refine aw_r ?_
    obtain rfl := Option.some.inj hg
    exact fin_ [] ⟨rfl, rfl⟩
   ·refine awp_seq ?_
    refine awp_region (sys _ _ []) 41 65 hU rfl rfl ?_
    refine go_ ?_
    refine ch_n fun hU => ?_
    refine aw_r ?_
    obtain rfl := Option.some.inj hg
    exact fin_ [] ⟨rfl, rfl⟩
end Go.Proofs.Ytbeageaekgccgaa
