/- The program computes the plain functions. -/
import Derived.Test.YtbeageaekgccgaaGreatT1
import Derived.Test.YtbeageaekgccgaaGreatA1
set_option linter.unusedVariables false
set_option linter.unusedSimpArgs false
set_option maxRecDepth 100000
set_option maxHeartbeats 1600000
namespace Go.Proofs.YtbeageaekgccgaaGreat
open Go.RowKit
theorem w_keystore_Check (l : (List api_Entry)) (r : Int) (hg : g_keystore_Check l = some r) : Fn Tryz.prog 17 0 [.sl 6 (encL api_Entry.enc l)] [] (fun d' b' => d' = .val (.int .i64 r) ∧ b' = []) := by
 unfold g_keystore_Check at hg
 refine Fn.of Tryz.func17 rfl rfl rfl fun w0 I ρ0 => ?_
 show awp _ ⟨w0, I, ρ0, 0, 0, 45⟩ _ _ _
 refine sr_ 0 8 mk_U ?_
 refine go_ ?_
 refine ch_n fun hU => ?_
 refine awp_seq ?_
 refine sr_ 8 32 hU ?_
 refine go_ ?_
 refine ch_n fun hU => ?_
 refine awp_block ?_
 refine lp_ (fun (x7_1 : Int) => mk [(0, .sl 6 (encL api_Entry.enc l)), (5, .sl 6 (encL api_Entry.enc l)), (6, .val (.int .i64 (l.length : Int))), (7, .val (.int .i64 x7_1))] [] 0) hg (sub_ []) ?_
 rintro x7_1 m1 o1 hg hn1
 replace hg : g_keystore_Check.l1 l x7_1 = some o1 := hg
 show awp _ _ _ _ (mk _ _ _)
 unfold g_keystore_Check.l1 at hg
 refine sr_ 0 8 mk_U ?_
 refine go_ ?_
 refine ch_n fun hU => ?_
 refine awp_seq ?_
 refine cg_ rfl hg (fun h4 hg => ?_) fun h4 hg => ?_
 ·refine awp_skip ?_
  repeat first | refine st_ ?_ | refine sn_ ?_
  refine awp_seq ?_
  refine awp_block ?_
  refine sr_ 8 56 hU ?_
  refine go_ ?_
  obtain ⟨e, he, hg⟩ := bind_some hg
  refine go_ ?_
  refine c0_ rfl rfl (r_loadEA ty40 (enc_cells api_Entry.enc_len (getI_at he) (o := 0) (m := 6) (cs := [.str e.Alias, .int .i64 e.Key.Alg, .int .i64 e.Key.Bits, .int .i64 e.KeyId, .bool e.Secret, .sl 15 (encL api_Certificate.enc e.Chain)]) rfl (by decide) rfl) (enc_cells_le api_Entry.enc_len (getI_at he) (o := 0) (m := 6) (by decide) rfl)) rfl rfl ?_
  refine go_ ?_
  refine ch_n fun hU => ?_
  refine awp_cut (ι := Bool) (fun (x40_2 : Bool) => mk [(0, .sl 6 (encL api_Entry.enc l)), (5, .sl 6 (encL api_Entry.enc l)), (6, .val (.int .i64 (l.length : Int))), (7, .val (.int .i64 x7_1)), (40, .val (.bool x40_2))] [] 0) (fun (x40_2 : Bool) => g_keystore_Check.j2 x7_1 x40_2 = some o1) ?_ ?_
  ·refine awp_draw (sys _ _ []) (by kernel_rfl) [0, 1, 3, 7, 15, 31, 63, 127, 255, 255, 767, 2047, 4095, 8191, 255, 16639, 65535, 131071, 262143, 524287, 1048575, 2097151, 1048575, 5242879, 1048575, 17825791, 67108863, 134217727, 268435455] 56 288 hU rfl rfl (by kernel_rfl) ?_
   refine go_ ?_
   obtain ⟨y, hy, hg⟩ := bind_some hg
   refine ca_ (w_catalog_Named _ _ hy) ?_
   refine go_ ?_
   rcases bc_ hg with ⟨h6, hg⟩ | ⟨h6, hg⟩
   ·refine go_ ?_
    refine ch_n fun hU => ?_
    exact ⟨true, hg, sub_ []⟩
   ·refine go_ ?_
    rcases bc_ hg with ⟨h8, hg⟩ | ⟨h8, hg⟩
    ·refine go_ ?_
     obtain ⟨e_2, he_2, hg⟩ := bind_some hg
     refine go_ ?_
     refine c0_ (gdv_t rfl rfl h8) rfl (r_fieldE fd40_0 ty9 (by decide) (enc_lt api_Entry.enc_len (getI_at he_2) (o := 0) (by decide) rfl)) rfl rfl ?_
     refine c0_ (gdv_t rfl rfl h8) rfl (r_loadE1 ty9 (enc_cell api_Entry.enc_len (getI_at he_2) (o := 0) (c := .str e_2.Alias) rfl rfl)) rfl rfl ?_
     refine go_ ?_
     refine c0_ (gdv_t rfl rfl h8) rfl r_sgeq rfl rfl ?_
     refine go_ ?_
     rcases bc_ hg with ⟨h9, hg⟩ | ⟨h9, hg⟩
     ·refine go_ ?_
      refine ch_n fun hU => ?_
      exact ⟨true, hg, sub_ []⟩
     ·refine go_ ?_
      obtain ⟨y_2, hy_2, hg⟩ := bind_some hg
      refine ca_ (w_keystore_Shows _ _ _ _ hy_2) ?_
      refine go_ ?_
      refine ch_n fun hU => ?_
      exact ⟨!y_2, hg, sub_ []⟩
    ·refine go_ ?_
     obtain ⟨y_3, hy_3, hg⟩ := bind_some hg
     refine ca_ (w_keystore_Shows _ _ _ _ hy_3) ?_
     refine go_ ?_
     refine ch_n fun hU => ?_
     exact ⟨!y_3, hg, sub_ []⟩
  ·rintro x40_2 hg
   replace hg : g_keystore_Check.j2 x7_1 x40_2 = some o1 := hg
   show awp _ _ _ _ (mk _ _ _)
   unfold g_keystore_Check.j2 at hg
   refine cg_ rfl hg (fun h13 hg => ?_) fun h13 hg => ?_
   ·refine awp_seq ?_
    refine awp_region (sys _ _ []) 0 8 mk_U rfl rfl ?_
    refine go_ ?_
    refine ch_n fun hU => ?_
    refine aw_r ?_
    replace hg := leave hg hn1
    obtain rfl := Option.some.inj hg
    exact fin_ [] ⟨rfl, rfl⟩
   ·refine awp_skip ?_
    repeat first | refine st_ ?_ | refine sn_ ?_
    refine awp_region (sys _ _ []) 0 16 mk_U rfl rfl ?_
    refine go_ ?_
    refine ch_n fun hU => ?_
    obtain rfl := Option.some.inj hg
    exact ⟨(W (x7_1 + 1), m1), Nat.lt_succ_self _, hn1, sub_ []⟩
 ·refine awp_exit ?_
  repeat first | refine st_ ?_ | refine sn_ ?_
  replace hg := leave hg hn1
  refine awp_seq ?_
  refine sr_ 8 32 hU ?_
  refine go_ ?_
  refine ch_n fun hU => ?_
  refine cg_ rfl hg (fun h17 hg => ?_) fun h17 hg => ?_
  ·refine awp_seq ?_
   refine awp_region (sys _ _ []) 32 40 hU rfl rfl ?_
   refine go_ ?_
   refine ch_n fun hU => ?_
   refine aw_r ?_
   obtain rfl := Option.some.inj hg
   exact fin_ [] ⟨rfl, rfl⟩
  ·refine awp_skip ?_
   repeat first | refine st_ ?_ | refine sn_ ?_
   refine sr_ 32 40 hU ?_
   refine go_ ?_
   refine ch_n fun hU => ?_
   refine aw_r ?_
   obtain rfl := Option.some.inj hg
   exact fin_ [] ⟨rfl, rfl⟩
theorem w_keystore_Find_c1 (x' : api_Entry) (c0 : ByteArray) (r : Bool) (hg : g_keystore_Find_c1 x' c0 = some r) : Fn Tryz.prog 42 0 [.agg (api_Entry.dv x'), .elt (([.str c0] : List C).drop 0)] [] (fun d' b' => d' = .val (.bool r) ∧ b' = []) := by
 unfold g_keystore_Find_c1 at hg
 refine Fn.of Tryz.func42 rfl rfl rfl fun w0 I ρ0 => ?_
 show awp _ ⟨w0, I, ρ0, 0, 0, 8⟩ _ _ _
 refine sr_ 0 16 mk_U ?_
 refine go_ ?_
 refine ch_n fun hU => ?_
 refine sr_ 16 56 hU ?_
 refine go_ ?_
 refine c0_ rfl rfl (r_loadE1 ty9 (c := .str c0) rfl) rfl rfl ?_
 refine go_ ?_
 refine ch_n fun hU => ?_
 refine aw_r ?_
 obtain rfl := Option.some.inj hg
 exact fin_ [] ⟨rfl, rfl⟩
theorem w_slices_IndexFunc_api_Entry_clo_42_0_ref_9 (s : (List api_Entry)) (f : api_Entry → Option (Bool)) (f_c0 : ByteArray) (hf_f : ∀ (x0 : api_Entry) (y : Bool), f x0 = some y → Fn Tryz.prog 42 0 [.agg (api_Entry.dv x0), .elt (([.str f_c0] : List C).drop 0)] [] (fun d' b' => d' = .val (.bool y) ∧ b' = [])) (r : Int) (hg : g_slices_IndexFunc_api_Entry s f = some r) : Fn Tryz.prog 41 0 [.sl 6 (encL api_Entry.enc s), .clo 42 0 [.elt (([.str f_c0] : List C).drop 0)]] [] (fun d' b' => d' = .val (.int .i64 r) ∧ b' = []) := by
 unfold g_slices_IndexFunc_api_Entry at hg
 refine Fn.of Tryz.func41 rfl rfl rfl fun w0 I ρ0 => ?_
 show awp _ ⟨w0, I, ρ0, 0, 0, 19⟩ _ _ _
 refine sr_ 0 8 mk_U ?_
 refine go_ ?_
 refine ch_n fun hU => ?_
 refine awp_seq ?_
 refine sr_ 8 32 hU ?_
 refine go_ ?_
 refine ch_n fun hU => ?_
 refine awp_block ?_
 refine lp_ (fun (x8_1 : Int) => mk [(0, .sl 6 (encL api_Entry.enc s)), (1, .clo 42 0 [.elt (([.str f_c0] : List C).drop 0)]), (7, .val (.int .i64 (s.length : Int))), (8, .val (.int .i64 x8_1))] [] 0) hg (sub_ []) ?_
 rintro x8_1 m1 o1 hg hn1
 replace hg : g_slices_IndexFunc_api_Entry.l1 s f x8_1 = some o1 := hg
 show awp _ _ _ _ (mk _ _ _)
 unfold g_slices_IndexFunc_api_Entry.l1 at hg
 refine sr_ 0 8 mk_U ?_
 refine go_ ?_
 refine ch_n fun hU => ?_
 refine awp_seq ?_
 refine cg_ rfl hg (fun h4 hg => ?_) fun h4 hg => ?_
 ·refine awp_skip ?_
  repeat first | refine st_ ?_ | refine sn_ ?_
  refine awp_seq ?_
  refine awp_block ?_
  refine sr_ 8 24 hU ?_
  refine go_ ?_
  refine ch_n fun hU => ?_
  refine sr_ 24 72 hU ?_
  refine go_ ?_
  obtain ⟨e, he, hg⟩ := bind_some hg
  refine go_ ?_
  refine c0_ rfl rfl (r_loadEA ty40 (enc_cells api_Entry.enc_len (getI_at he) (o := 0) (m := 6) (cs := [.str e.Alias, .int .i64 e.Key.Alg, .int .i64 e.Key.Bits, .int .i64 e.KeyId, .bool e.Secret, .sl 15 (encL api_Certificate.enc e.Chain)]) rfl (by decide) rfl) (enc_cells_le api_Entry.enc_len (getI_at he) (o := 0) (m := 6) (by decide) rfl)) rfl rfl ?_
  obtain ⟨y, hy, hg⟩ := bind_some hg
  refine ch_callCP (rd := []) (ps := []) (gs := []) false rfl rfl (hf_f e _ hy) rfl rfl (.cons (.agg (.cons .val (.cons .val (.cons .val (.cons .val (.cons .val (.cons .sl .nil))))))) (.cons .elt .nil)) rfl rfl (by intro h; cases h) rfl rfl rfl rfl ?_
  refine ch_n fun hU => ?_
  refine cg_ rfl hg (fun h7 hg => ?_) fun h7 hg => ?_
  ·refine awp_seq ?_
   refine awp_region (sys _ _ []) 72 88 hU rfl rfl ?_
   refine go_ ?_
   refine ch_n fun hU => ?_
   refine aw_r ?_
   replace hg := leave hg hn1
   obtain rfl := Option.some.inj hg
   exact fin_ [] ⟨rfl, rfl⟩
  ·refine awp_skip ?_
   repeat first | refine st_ ?_ | refine sn_ ?_
   refine awp_region (sys _ _ []) 72 88 hU rfl rfl ?_
   refine go_ ?_
   refine ch_n fun hU => ?_
   obtain rfl := Option.some.inj hg
   exact ⟨(W (x8_1 + 1), m1), Nat.lt_succ_self _, hn1, sub_ []⟩
 ·refine awp_exit ?_
  repeat first | refine st_ ?_ | refine sn_ ?_
  replace hg := leave hg hn1
  refine sr_ 8 16 hU ?_
  refine go_ ?_
  refine ch_n fun hU => ?_
  refine aw_r ?_
  obtain rfl := Option.some.inj hg
  exact fin_ [] ⟨rfl, rfl⟩
theorem w_slices_Clone_string (s : (List ByteArray)) (r : (List ByteArray)) (hg : g_slices_Clone_string s = some r) : Fn Tryz.prog 134 0 [.sl 1 (encL eS s)] [] (fun d' b' => d' = .sl 1 (encL eS r) ∧ b' = []) := by
 unfold g_slices_Clone_string at hg
 refine Fn.of Tryz.func134 rfl rfl rfl fun w0 I ρ0 => ?_
 show awp _ ⟨w0, I, ρ0, 0, 0, 8⟩ _ _ _
 refine sr_ 0 8 mk_U ?_
 refine go_ ?_
 refine ch_n fun hU => ?_
 refine awp_seq ?_
 refine awp_cut (ι := Bool) (fun (x4_1 : Bool) => mk [(0, .sl 1 (encL eS s)), (4, .val (.bool x4_1))] [] 0) (fun (x4_1 : Bool) => g_slices_Clone_string.j1 s x4_1 = some r) ?_ ?_
 ·refine awp_region (sys _ _ []) 8 24 hU rfl rfl ?_
  refine go_ ?_
  refine ch_nilE rfl rfl ⟨_, und64⟩ rfl ?_
  intro bz hz2
  rcases bz with _ | _
  ·replace hg := nilC_f hg
   refine ch_n fun hU => ?_
   exact ⟨false, hg, sub_ []⟩
  ·replace hg := nilC_t ((nil_of_enc eS_len (by decide) (hz2 rfl))) hg
   refine ch_n fun hU => ?_
   exact ⟨true, hg, sub_ []⟩
 ·rintro x4_1 hg
  replace hg : g_slices_Clone_string.j1 s x4_1 = some r := hg
  show awp _ _ _ _ (mk _ _ _)
  unfold g_slices_Clone_string.j1 at hg
  refine cg_ rfl hg (fun h5 hg => ?_) fun h5 hg => ?_
  ·refine awp_seq ?_
   refine awp_region (sys _ _ []) 0 8 mk_U rfl rfl ?_
   refine go_ ?_
   refine ch_n fun hU => ?_
   refine aw_r ?_
   obtain rfl := Option.some.inj hg
   exact fin_ [] ⟨rfl, rfl⟩
  ·refine awp_skip ?_
   repeat first | refine st_ ?_ | refine sn_ ?_
   refine sr_ 0 32 mk_U ?_
   refine c0_ rfl rfl (r_buildFull sl64 z9 (by decide) rfl rfl rfl rfl ck9 (cs := []) .nil rfl (l := ([] : List ByteArray)) (f := eS) rfl) rfl rfl ?_
   refine go_ ?_
   obtain ⟨l, hl, hg⟩ := bind_some hg
   refine ch_s (rd := [0]) rfl rfl (r_append sl64 eS_len .row rfl .sl rfl hl rfl) rfl rfl ?_
   refine go_ ?_
   refine ch_n fun hU => ?_
   refine aw_r ?_
   obtain rfl := Option.some.inj hg
   exact fin_ [] ⟨rfl, rfl⟩
theorem w_certificate_Copy (l : (List api_Certificate)) (r : (List api_Certificate)) (hg : g_certificate_Copy l = some r) : Fn Tryz.prog 86 0 [.sl 15 (encL api_Certificate.enc l)] [] (fun d' b' => d' = .sl 15 (encL api_Certificate.enc r) ∧ b' = []) := by
 unfold g_certificate_Copy at hg
 refine Fn.of Tryz.func86 rfl rfl rfl fun w0 I ρ0 => ?_
 show awp _ ⟨w0, I, ρ0, 0, 0, 22⟩ _ _ _
 refine sr_ 0 8 mk_U ?_
 refine go_ ?_
 refine ch_n fun hU => ?_
 refine sr_ 8 16 hU ?_
 refine go_ ?_
 refine ch_n fun hU => ?_
 refine awp_seq ?_
 refine sr_ 16 40 hU ?_
 refine go_ ?_
 refine ch_n fun hU => ?_
 refine awp_block ?_
 refine lp_ (fun ((x8_1, out_1) : Int × List api_Certificate) => mk [(3, .row 0), (6, .sl 15 (encL api_Certificate.enc l)), (7, .val (.int .i64 (l.length : Int))), (8, .val (.int .i64 x8_1))] [(0, .row 68 15 (encL api_Certificate.enc out_1))] 1) hg (sub_ []) ?_
 rintro ⟨x8_1, out_1⟩ m1 o1 hg hn1
 replace hg : g_certificate_Copy.l1 l x8_1 out_1 = some o1 := hg
 show awp _ _ _ _ (mk _ _ _)
 unfold g_certificate_Copy.l1 at hg
 refine sr_ 1 9 mk_U ?_
 refine go_ ?_
 refine ch_n fun hU => ?_
 refine awp_seq ?_
 refine cg_ rfl hg (fun h5 hg => ?_) fun h5 hg => ?_
 ·refine awp_skip ?_
  repeat first | refine st_ ?_ | refine sn_ ?_
  refine awp_seq ?_
  refine awp_block ?_
  refine sr_ 9 41 hU ?_
  obtain ⟨e, he, hg⟩ := bind_some hg
  refine go_ ?_
  refine c0_ rfl rfl (r_loadEA ty68 (enc_cells api_Certificate.enc_len (getI_at he) (o := 0) (m := 15) (cs := [.int .i64 e.Serial, .str e.Issuer, .str e.Subject, .int .i64 e.Key.Alg, .int .i64 e.Key.Bits, .int .i64 e.KeyId, .int .i64 e.Hash.Alg, .int .i64 e.Hash.Bits, .int .i64 e.From, .int .i64 e.To, .bool e.Authority, .int .i64 e.Path, .sl 1 (encL eS e.Names), .int .i64 e.Seal.Key, .int .i64 e.Seal.Sum]) rfl (by decide) rfl) (enc_cells_le api_Certificate.enc_len (getI_at he) (o := 0) (m := 15) (by decide) rfl)) rfl rfl ?_
  refine go_ ?_
  refine ch_n fun hU => ?_
  refine sr_ 41 81 hU ?_
  refine go_ ?_
  obtain ⟨y, hy, hg⟩ := bind_some hg
  refine ca_ (w_slices_Clone_string _ _ hy) ?_
  refine go_ ?_
  refine ch_n fun hU => ?_
  refine awp_region (sys _ _ []) 81 121 hU rfl rfl ?_
  refine go_ ?_
  refine c0_ rfl rfl (r_buildFull sl38 z68 (by decide) rfl rfl rfl rfl ck68 (cs := [.int .i64 e.Serial, .str e.Issuer, .str e.Subject, .int .i64 e.Key.Alg, .int .i64 e.Key.Bits, .int .i64 e.KeyId, .int .i64 e.Hash.Alg, .int .i64 e.Hash.Bits, .int .i64 e.From, .int .i64 e.To, .bool e.Authority, .int .i64 e.Path, .sl 1 (encL eS y), .int .i64 e.Seal.Key, .int .i64 e.Seal.Sum]) (.cons .int (.cons .str (.cons .str (.cons .int (.cons .int (.cons .int (.cons .int (.cons .int (.cons .int (.cons .int (.cons .bool (.cons .int (.cons .sl (.cons .int (.cons .int .nil))))))))))))))) rfl (l := ([(api_Certificate.mk e.Serial e.Issuer e.Subject e.Key e.KeyId e.Hash e.From e.To e.Authority e.Path y e.Seal)] : List api_Certificate)) (f := api_Certificate.enc) rfl) rfl rfl ?_
  obtain ⟨l_2, hl_2, hg⟩ := bind_some hg
  refine ch_s (rd := [0, 97]) rfl rfl (r_append sl38 api_Certificate.enc_len .row rfl .row rfl hl_2 rfl) rfl rfl ?_
  refine go_ ?_
  refine ch_n fun hU => ?_
  refine awp_region (sys _ _ []) 121 137 hU rfl rfl ?_
  refine go_ ?_
  refine ch_n fun hU => ?_
  obtain rfl := Option.some.inj hg
  exact ⟨((W (x8_1 + 1), l_2), m1), Nat.lt_succ_self _, hn1, sub_ [(0, 105)]⟩
 ·refine awp_exit ?_
  repeat first | refine st_ ?_ | refine sn_ ?_
  replace hg := leave hg hn1
  refine sr_ 9 25 hU ?_
  refine go_ ?_
  refine ch_n fun hU => ?_
  refine aw_r ?_
  obtain rfl := Option.some.inj hg
  exact fin_ [] ⟨rfl, rfl⟩
theorem w_keystore_own (x' : api_Entry) (r : api_Entry) (hg : g_keystore_own x' = some r) : Fn Tryz.prog 39 0 [.agg (api_Entry.dv x')] [] (fun d' b' => d' = .agg (api_Entry.dv r) ∧ b' = []) := by
 unfold g_keystore_own at hg
 refine Fn.of Tryz.func39 rfl rfl rfl fun w0 I ρ0 => ?_
 show awp _ ⟨w0, I, ρ0, 0, 0, 8⟩ _ _ _
 refine sr_ 0 16 mk_U ?_
 refine go_ ?_
 refine ch_n fun hU => ?_
 refine sr_ 16 56 hU ?_
 refine go_ ?_
 obtain ⟨y, hy, hg⟩ := bind_some hg
 refine ca_ (w_certificate_Copy _ _ hy) ?_
 refine go_ ?_
 refine ch_n fun hU => ?_
 refine sr_ 56 72 hU ?_
 refine go_ ?_
 refine ch_n fun hU => ?_
 refine aw_r ?_
 obtain rfl := Option.some.inj hg
 exact fin_ [] ⟨rfl, rfl⟩
theorem w_keystore_Find (l : (List api_Entry)) (alias : ByteArray) (r : api_Entry × Bool) (hg : g_keystore_Find l alias = some r) : Fn Tryz.prog 15 0 [.sl 6 (encL api_Entry.enc l), .val (.string alias)] [] (fun d' b' => d' = .tup [.agg (api_Entry.dv r.1), .val (.bool r.2)] ∧ b' = []) := by
 unfold g_keystore_Find at hg
 refine Fn.of Tryz.func15 rfl rfl rfl fun w0 I ρ0 => ?_
 show awp _ ⟨w0, I, ρ0, 0, 0, 18⟩ _ _ _
 refine sr_ 0 24 mk_U ?_
 refine go_ ?_
 refine ch_n fun hU => ?_
 refine awp_seq ?_
 refine awp_sub (σ' := mk [(0, .sl 6 (encL api_Entry.enc l)), (3, .elt (([.str alias] : List C).drop 0)), (4, .ptr 0 0)] [(0, .box [.val (.string (⟨#[]⟩ : ByteArray)), .val (.int .i64 0), .val (.int .i64 0), .val (.int .i64 0), .val (.bool false), .val (.slice none 0 0)] 40)] 1) (Sub.lists [(0, 8)] rfl rfl ⟨⟨_, rfl, .sl _ _⟩, ⟨_, rfl, .frzb (ks := [none]) rfl (.cons .str .nil) (look_ne rfl)⟩, ⟨_, rfl, .ptr rfl⟩, trivial⟩ ⟨.inl ⟨8, _, rfl, rfl, ⟨rfl, .cons (.val _) (.cons (.val _) (.cons (.val _) (.cons (.val _) (.cons (.val _) (.cons (.val _) .nil)))))⟩⟩, trivial⟩) ?_
 refine awp_region (sys _ _ []) 1 33 mk_U rfl rfl ?_
 refine go_ ?_
 obtain ⟨y, hy, hg⟩ := bind_some hg
 refine ca_ (w_slices_IndexFunc_api_Entry_clo_42_0_ref_9 l (fun x0 => g_keystore_Find_c1 x0 alias) alias (fun x0 y h => w_keystore_Find_c1 x0 alias y h) _ hy) ?_
 refine go_ ?_
 refine ch_n fun hU => ?_
 refine awp_seq ?_
 refine sr_ 33 49 hU ?_
 refine go_ ?_
 refine ch_n fun hU => ?_
 refine cg_ rfl hg (fun h4 hg => ?_) fun h4 hg => ?_
 ·refine awp_seq ?_
  refine awp_region (sys _ _ []) 49 73 hU rfl rfl ?_
  refine c0_ rfl rfl (.build (r := [.val (.string (⟨#[]⟩ : ByteArray)), .val (.int .i64 0), .val (.int .i64 0), .val (.int .i64 0), .val (.bool false), .val (.slice none 0 0)]) und40 pl40 z40 (by kernel_rfl) rfl) rfl rfl ?_
  refine go_ ?_
  refine ch_n fun hU => ?_
  refine aw_r ?_
  obtain rfl := Option.some.inj hg
  exact fin_ [] ⟨rfl, rfl⟩
 ·refine awp_skip ?_
  repeat first | refine st_ ?_ | refine sn_ ?_
  refine sr_ 49 105 hU ?_
  refine go_ ?_
  obtain ⟨e, he, hg⟩ := bind_some hg
  refine go_ ?_
  refine c0_ rfl rfl (r_loadEA ty40 (enc_cells api_Entry.enc_len (getI_at he) (o := 0) (m := 6) (cs := [.str e.Alias, .int .i64 e.Key.Alg, .int .i64 e.Key.Bits, .int .i64 e.KeyId, .bool e.Secret, .sl 15 (encL api_Certificate.enc e.Chain)]) rfl (by decide) rfl) (enc_cells_le api_Entry.enc_len (getI_at he) (o := 0) (m := 6) (by decide) rfl)) rfl rfl ?_
  obtain ⟨y_2, hy_2, hg⟩ := bind_some hg
  refine ca_ (w_keystore_own _ _ hy_2) ?_
  refine go_ ?_
  refine ch_n fun hU => ?_
  refine aw_r ?_
  obtain rfl := Option.some.inj hg
  exact fin_ [] ⟨rfl, rfl⟩
theorem w_math_bits_Len64 (x' : Int) (r : Int) (hg : g_math_bits_Len64 x' = some r) : Fn Tryz.prog 133 0 [.val (.int .u64 x')] [] (fun d' b' => d' = .val (.int .i64 r) ∧ b' = []) := by
 unfold g_math_bits_Len64 at hg
 refine Fn.of Tryz.func133 rfl rfl rfl fun w0 I ρ0 => ?_
 show awp _ ⟨w0, I, ρ0, 0, 0, 25⟩ _ _ _
 refine sr_ 0 8 mk_U ?_
 refine go_ ?_
 refine ch_n fun hU => ?_
 refine awp_cut (ι := Int × Int) (fun ((x_1, n_1) : Int × Int) => mk [(0, .val (.int .u64 x_1)), (2, .val (.int .i64 n_1))] [] 0) (fun ((x_1, n_1) : Int × Int) => g_math_bits_Len64.j1 x_1 n_1 = some r) ?_ ?_
 ·refine awp_seq ?_
  refine awp_region (sys _ _ []) 8 24 hU rfl rfl ?_
  refine go_ ?_
  refine ch_n fun hU => ?_
  refine cg_ rfl hg (fun h3 hg => ?_) fun h3 hg => ?_
  ·refine awp_seq ?_
   refine awp_region (sys _ _ []) 24 48 hU rfl rfl ?_
   refine go_ ?_
   obtain ⟨q, hq, hg⟩ := bind_some hg
   refine c0_ rfl rfl (r_shrK hq) rfl rfl ?_
   refine go_ ?_
   refine ch_n fun hU => ?_
   refine awp_region (sys _ _ []) 48 56 hU rfl rfl ?_
   refine go_ ?_
   refine ch_n fun hU => ?_
   exact ⟨(q, 32), hg, sub_ []⟩
  ·refine awp_skip ?_
   repeat first | refine st_ ?_ | refine sn_ ?_
   exact ⟨(x', 0), hg, sub_ []⟩
 ·rintro ⟨x_1, n_1⟩ hg
  replace hg : g_math_bits_Len64.j1 x_1 n_1 = some r := hg
  show awp _ _ _ _ (mk _ _ _)
  unfold g_math_bits_Len64.j1 at hg
  refine awp_cut (ι := Int × Int) (fun ((x_2, n_2) : Int × Int) => mk [(0, .val (.int .u64 x_2)), (2, .val (.int .i64 n_2))] [] 0) (fun ((x_2, n_2) : Int × Int) => g_math_bits_Len64.j2 x_2 n_2 = some r) ?_ ?_
  ·refine awp_seq ?_
   refine awp_region (sys _ _ []) 0 16 mk_U rfl rfl ?_
   refine go_ ?_
   refine ch_n fun hU => ?_
   refine cg_ rfl hg (fun h7 hg => ?_) fun h7 hg => ?_
   ·refine awp_seq ?_
    refine awp_region (sys _ _ []) 16 40 hU rfl rfl ?_
    refine go_ ?_
    obtain ⟨q_2, hq_2, hg⟩ := bind_some hg
    refine c0_ rfl rfl (r_shrK hq_2) rfl rfl ?_
    refine go_ ?_
    refine ch_n fun hU => ?_
    refine awp_region (sys _ _ []) 40 64 hU rfl rfl ?_
    refine go_ ?_
    refine ch_n fun hU => ?_
    exact ⟨(q_2, W (n_1 + 16)), hg, sub_ []⟩
   ·refine awp_skip ?_
    repeat first | refine st_ ?_ | refine sn_ ?_
    exact ⟨(x_1, n_1), hg, sub_ []⟩
  ·rintro ⟨x_2, n_2⟩ hg
   replace hg : g_math_bits_Len64.j2 x_2 n_2 = some r := hg
   show awp _ _ _ _ (mk _ _ _)
   unfold g_math_bits_Len64.j2 at hg
   refine awp_cut (ι := Int × Int) (fun ((x_3, n_3) : Int × Int) => mk [(0, .val (.int .u64 x_3)), (2, .val (.int .i64 n_3))] [] 0) (fun ((x_3, n_3) : Int × Int) => g_math_bits_Len64.j3 x_3 n_3 = some r) ?_ ?_
   ·refine awp_seq ?_
    refine awp_region (sys _ _ []) 0 16 mk_U rfl rfl ?_
    refine go_ ?_
    refine ch_n fun hU => ?_
    refine cg_ rfl hg (fun h11 hg => ?_) fun h11 hg => ?_
    ·refine awp_seq ?_
     refine awp_region (sys _ _ []) 16 40 hU rfl rfl ?_
     refine go_ ?_
     obtain ⟨q_3, hq_3, hg⟩ := bind_some hg
     refine c0_ rfl rfl (r_shrK hq_3) rfl rfl ?_
     refine go_ ?_
     refine ch_n fun hU => ?_
     refine awp_region (sys _ _ []) 40 64 hU rfl rfl ?_
     refine go_ ?_
     refine ch_n fun hU => ?_
     exact ⟨(q_3, W (n_2 + 8)), hg, sub_ []⟩
    ·refine awp_skip ?_
     repeat first | refine st_ ?_ | refine sn_ ?_
     exact ⟨(x_2, n_2), hg, sub_ []⟩
   ·rintro ⟨x_3, n_3⟩ hg
    replace hg : g_math_bits_Len64.j3 x_3 n_3 = some r := hg
    show awp _ _ _ _ (mk _ _ _)
    unfold g_math_bits_Len64.j3 at hg
    refine sr_ 0 56 mk_U ?_
    refine go_ ?_
    refine c0_ rfl rfl (r_conv_u8 und141 und5) rfl rfl ?_
    obtain ⟨c, hc, hg⟩ := bind_some hg
    refine c0_ rfl rfl (r_idxT und9 hc) rfl rfl ?_
    refine c0_ rfl rfl (r_conv_8i (u := c) und5 und3) rfl rfl ?_
    refine go_ ?_
    refine ch_n fun hU => ?_
    refine aw_r ?_
    obtain rfl := Option.some.inj hg
    exact fin_ [] ⟨rfl, rfl⟩
theorem w_math_bits_Len (x' : Int) (r : Int) (hg : g_math_bits_Len x' = some r) : Fn Tryz.prog 85 0 [.val (.int .u64 x')] [] (fun d' b' => d' = .val (.int .i64 r) ∧ b' = []) := by
 unfold g_math_bits_Len at hg
 refine Fn.of Tryz.func85 rfl rfl rfl fun w0 I ρ0 => ?_
 show awp _ ⟨w0, I, ρ0, 0, 0, 8⟩ _ _ _
 refine sr_ 0 8 mk_U ?_
 refine go_ ?_
 refine ch_n fun hU => ?_
 refine awp_seq ?_
 refine awp_condc (fun h => ?_) (fun h => ?_)
 ·exact absurd h (by decide)
 ·refine awp_skip ?_
  repeat first | refine st_ ?_ | refine sn_ ?_
  refine sr_ 8 32 hU ?_
  refine go_ ?_
  obtain ⟨y, hy, hg⟩ := bind_some hg
  refine ca_ (w_math_bits_Len64 _ _ hy) ?_
  refine go_ ?_
  refine ch_n fun hU => ?_
  refine aw_r ?_
  obtain rfl := Option.some.inj hg
  exact fin_ [] ⟨rfl, rfl⟩
theorem w_keystore_Merge_c1 (x' : api_Entry) (y : api_Entry) (r : Int) (hg : g_keystore_Merge_c1 x' y = some r) : Fn Tryz.prog 38 0 [.agg (api_Entry.dv x'), .agg (api_Entry.dv y)] [] (fun d' b' => d' = .val (.int .i64 r) ∧ b' = []) := by
 unfold g_keystore_Merge_c1 at hg
 refine Fn.of Tryz.func38 rfl rfl rfl fun w0 I ρ0 => ?_
 show awp _ ⟨w0, I, ρ0, 0, 0, 10⟩ _ _ _
 refine sr_ 0 24 mk_U ?_
 refine go_ ?_
 refine ch_n fun hU => ?_
 refine awp_seq ?_
 refine sr_ 24 64 hU ?_
 refine go_ ?_
 refine c0_ rfl rfl r_slss rfl rfl ?_
 refine ch_n fun hU => ?_
 refine cg_ rfl hg (fun h3 hg => ?_) fun h3 hg => ?_
 ·refine awp_seq ?_
  refine awp_region (sys _ _ []) 64 72 hU rfl rfl ?_
  refine go_ ?_
  refine ch_n fun hU => ?_
  refine aw_r ?_
  obtain rfl := Option.some.inj hg
  exact fin_ [] ⟨rfl, rfl⟩
 ·refine awp_skip ?_
  repeat first | refine st_ ?_ | refine sn_ ?_
  refine sr_ 64 72 hU ?_
  refine go_ ?_
  refine ch_n fun hU => ?_
  refine aw_r ?_
  obtain rfl := Option.some.inj hg
  exact fin_ [] ⟨rfl, rfl⟩
theorem w_slices_insertionSortCmpFunc_api_Entry_clo_38_0_ (data : List api_Entry) (a : Int) (b : Int) (cmp : api_Entry → api_Entry → Option (Int)) (hf_cmp : ∀ (x0 : api_Entry) (x1 : api_Entry) (y : Int), cmp x0 x1 = some y → Fn Tryz.prog 38 0 [.agg (api_Entry.dv x0), .agg (api_Entry.dv x1)] [] (fun d' b' => d' = .val (.int .i64 y) ∧ b' = [])) (r : (List api_Entry)) (hg : g_slices_insertionSortCmpFunc_api_Entry data a b cmp = some r) : Fn Tryz.prog 124 1 [.row 0, .val (.int .i64 a), .val (.int .i64 b), .clo 38 0 []] [.row 40 6 (encL api_Entry.enc data)] (fun d' b' => d' = .tup [] ∧ b' = [.row 40 6 (encL api_Entry.enc r)]) := by
 unfold g_slices_insertionSortCmpFunc_api_Entry at hg
 refine Fn.of Tryz.func124 rfl rfl rfl fun w0 I ρ0 => ?_
 show awp _ ⟨w0, I, ρ0, 1, 1, 53⟩ _ _ _
 refine sr_ 1 25 mk_U ?_
 refine go_ ?_
 refine ch_n fun hU => ?_
 refine awp_block ?_
 refine lp_ (fun ((i_1, data_1) : Int × List api_Entry) => mk [(0, .row 0), (1, .val (.int .i64 a)), (2, .val (.int .i64 b)), (3, .clo 38 0 []), (8, .val (.int .i64 i_1))] [(0, .row 40 6 (encL api_Entry.enc data_1))] 1) hg (sub_ [(0, 0)]) ?_
 rintro ⟨i_1, data_1⟩ m1 o1 hg hn1
 replace hg : g_slices_insertionSortCmpFunc_api_Entry.l1 a b cmp i_1 data_1 = some o1 := hg
 show awp _ _ _ _ (mk _ _ _)
 unfold g_slices_insertionSortCmpFunc_api_Entry.l1 at hg
 refine awp_seq ?_
 refine sr_ 1 25 mk_U ?_
 refine go_ ?_
 refine ch_n fun hU => ?_
 refine cg_ rfl hg (fun h3 hg => ?_) fun h3 hg => ?_
 ·refine awp_skip ?_
  repeat first | refine st_ ?_ | refine sn_ ?_
  refine awp_seq ?_
  refine awp_block ?_
  refine sr_ 25 41 hU ?_
  refine go_ ?_
  refine ch_n fun hU => ?_
  refine awp_block ?_
  refine lp_ (fun ((j_2, data_2) : Int × List api_Entry) => mk [(0, .row 0), (1, .val (.int .i64 a)), (2, .val (.int .i64 b)), (3, .clo 38 0 []), (8, .val (.int .i64 i_1)), (9, .val (.int .i64 j_2))] [(0, .row 40 6 (encL api_Entry.enc data_2))] 1) hg (sub_ [(0, 0)]) ?_
  rintro ⟨j_2, data_2⟩ m2 o2 hg hn2
  replace hg : g_slices_insertionSortCmpFunc_api_Entry.l2 a cmp i_1 j_2 data_2 = some o2 := hg
  show awp _ _ _ _ (mk _ _ _)
  unfold g_slices_insertionSortCmpFunc_api_Entry.l2 at hg
  refine awp_seq ?_
  refine awp_cut (ι := Bool) (fun (x34_3 : Bool) => mk [(0, .row 0), (1, .val (.int .i64 a)), (2, .val (.int .i64 b)), (3, .clo 38 0 []), (8, .val (.int .i64 i_1)), (9, .val (.int .i64 j_2)), (34, .val (.bool x34_3))] [(0, .row 40 6 (encL api_Entry.enc data_2))] 1) (fun (x34_3 : Bool) => g_slices_insertionSortCmpFunc_api_Entry.j3 i_1 j_2 data_2 x34_3 = some o2) ?_ ?_
  ·refine awp_draw (sys _ _ []) (by kernel_rfl) [0, 0, 3, 7, 15, 15, 15, 111, 239, 15, 15, 1039, 3599, 7695, 16383, 32767, 65535] 1 137 mk_U rfl rfl (by kernel_rfl) ?_
   refine go_ ?_
   rcases bc_ hg with ⟨h5, hg⟩ | ⟨h5, hg⟩
   ·refine go_ ?_
    obtain ⟨e, he, hg⟩ := bind_some hg
    refine go_ ?_
    refine ch_s (rd := [0]) (gdv_t rfl rfl h5) rfl (r_loadRA ty40 (enc_cells api_Entry.enc_len (getI_at he) (o := 0) (m := 6) (cs := [.str e.Alias, .int .i64 e.Key.Alg, .int .i64 e.Key.Bits, .int .i64 e.KeyId, .bool e.Secret, .sl 15 (encL api_Certificate.enc e.Chain)]) rfl (by decide) rfl) (enc_cells_le api_Entry.enc_len (getI_at he) (o := 0) (m := 6) (by decide) rfl)) rfl rfl ?_
    refine go_ ?_
    obtain ⟨e_2, he_2, hg⟩ := bind_some hg
    refine go_ ?_
    refine ch_s (rd := [0]) (gdv_t rfl rfl h5) rfl (r_loadRA ty40 (enc_cells api_Entry.enc_len (getI_at he_2) (o := 0) (m := 6) (cs := [.str e_2.Alias, .int .i64 e_2.Key.Alg, .int .i64 e_2.Key.Bits, .int .i64 e_2.KeyId, .bool e_2.Secret, .sl 15 (encL api_Certificate.enc e_2.Chain)]) rfl (by decide) rfl) (enc_cells_le api_Entry.enc_len (getI_at he_2) (o := 0) (m := 6) (by decide) rfl)) rfl rfl ?_
    obtain ⟨y, hy, hg⟩ := bind_some hg
    refine ch_callCP (rd := []) (ps := []) (gs := []) false (gdv_t rfl rfl h5) rfl (hf_cmp e e_2 _ hy) rfl rfl (.cons (.agg (.cons .val (.cons .val (.cons .val (.cons .val (.cons .val (.cons .sl .nil))))))) (.cons (.agg (.cons .val (.cons .val (.cons .val (.cons .val (.cons .val (.cons .sl .nil))))))) .nil)) rfl rfl (by intro h; cases h) rfl rfl rfl rfl ?_
    refine go_ ?_
    refine ch_n fun hU => ?_
    exact ⟨decide (y < 0), hg, sub_ [(0, 0)]⟩
   ·refine go_ ?_
    refine ch_n fun hU => ?_
    exact ⟨false, hg, sub_ [(0, 0)]⟩
  ·rintro x34_3 hg
   replace hg : g_slices_insertionSortCmpFunc_api_Entry.j3 i_1 j_2 data_2 x34_3 = some o2 := hg
   show awp _ _ _ _ (mk _ _ _)
   unfold g_slices_insertionSortCmpFunc_api_Entry.j3 at hg
   refine cg_ rfl hg (fun h8 hg => ?_) fun h8 hg => ?_
   ·refine awp_skip ?_
    repeat first | refine st_ ?_ | refine sn_ ?_
    refine awp_seq ?_
    refine awp_block ?_
    refine awp_draw (sys _ _ []) (by kernel_rfl) [0, 0, 0, 0, 8, 0, 0, 64, 224, 480, 0, 0, 3072, 7168, 16355, 32739, 65535, 131071] 1 145 mk_U rfl rfl (by kernel_rfl) ?_
    refine go_ ?_
    obtain ⟨e_3, he_3, hg⟩ := bind_some hg
    refine go_ ?_
    refine ch_s (rd := [0]) rfl rfl (r_loadRA ty40 (enc_cells api_Entry.enc_len (getI_at he_3) (o := 0) (m := 6) (cs := [.str e_3.Alias, .int .i64 e_3.Key.Alg, .int .i64 e_3.Key.Bits, .int .i64 e_3.KeyId, .bool e_3.Secret, .sl 15 (encL api_Certificate.enc e_3.Chain)]) rfl (by decide) rfl) (enc_cells_le api_Entry.enc_len (getI_at he_3) (o := 0) (m := 6) (by decide) rfl)) rfl rfl ?_
    refine go_ ?_
    obtain ⟨e_4, he_4, hg⟩ := bind_some hg
    refine go_ ?_
    refine ch_s (rd := [0]) rfl rfl (r_loadRA ty40 (enc_cells api_Entry.enc_len (getI_at he_4) (o := 0) (m := 6) (cs := [.str e_4.Alias, .int .i64 e_4.Key.Alg, .int .i64 e_4.Key.Bits, .int .i64 e_4.KeyId, .bool e_4.Secret, .sl 15 (encL api_Certificate.enc e_4.Chain)]) rfl (by decide) rfl) (enc_cells_le api_Entry.enc_len (getI_at he_4) (o := 0) (m := 6) (by decide) rfl)) rfl rfl ?_
    refine go_ ?_
    refine ch_s (rd := [0]) rfl rfl (r_storeR ty40 rfl (enc_cells_le api_Entry.enc_len (getI_at he_4) (o := 0) (m := 6) (by decide) rfl) ck40 (cs' := [.str e_3.Alias, .int .i64 e_3.Key.Alg, .int .i64 e_3.Key.Bits, .int .i64 e_3.KeyId, .bool e_3.Secret, .sl 15 (encL api_Certificate.enc e_3.Chain)]) (.cons .str (.cons .int (.cons .int (.cons .int (.cons .bool (.cons .sl .nil)))))) (enc_splice api_Entry.enc_len (getI_at he_4) (o := 0) (x' := e_3) (Nat.le_of_ble_eq_true rfl) rfl rfl)) rfl rfl ?_
    obtain ⟨e_5, he_5, hg⟩ := bind_some hg
    refine go_ ?_
    refine ch_s (rd := [0]) rfl rfl (r_storeR ty40 rfl (enc_cells_le api_Entry.enc_len (getI_at he_5) (o := 0) (m := 6) (by decide) rfl) ck40 (cs' := [.str e_4.Alias, .int .i64 e_4.Key.Alg, .int .i64 e_4.Key.Bits, .int .i64 e_4.KeyId, .bool e_4.Secret, .sl 15 (encL api_Certificate.enc e_4.Chain)]) (.cons .str (.cons .int (.cons .int (.cons .int (.cons .bool (.cons .sl .nil)))))) (enc_splice api_Entry.enc_len (getI_at he_5) (o := 0) (x' := e_4) (Nat.le_of_ble_eq_true rfl) rfl rfl)) rfl rfl ?_
    refine ch_n fun hU => ?_
    refine awp_region (sys _ _ []) 145 169 hU rfl rfl ?_
    refine go_ ?_
    refine ch_n fun hU => ?_
    obtain rfl := Option.some.inj hg
    exact ⟨((W (j_2 - 1), setI (setI data_2 ((j_2).toNat) e_3) ((W (j_2 - 1)).toNat) e_4), m2), Nat.lt_succ_self _, hn2, sub_ [(0, 0)]⟩
   ·refine awp_exit ?_
    repeat first | refine st_ ?_ | refine sn_ ?_
    replace hg := leave hg hn2
    refine awp_region (sys _ _ []) 1 25 mk_U rfl rfl ?_
    refine go_ ?_
    refine ch_n fun hU => ?_
    obtain rfl := Option.some.inj hg
    exact ⟨((W (i_1 + 1), data_2), m1), Nat.lt_succ_self _, hn1, sub_ [(0, 0)]⟩
 ·refine awp_exit ?_
  repeat first | refine st_ ?_ | refine sn_ ?_
  replace hg := leave hg hn1
  obtain rfl := Option.some.inj hg
  exact fin_ [(0, 0)] ⟨rfl, rfl⟩
theorem w_slices_pdqsortCmpFunc_api_Entry_clo_38_0_ (data : List api_Entry) (a : Int) (b : Int) (limit : Int) (cmp : api_Entry → api_Entry → Option (Int)) (hf_cmp : ∀ (x0 : api_Entry) (x1 : api_Entry) (y : Int), cmp x0 x1 = some y → Fn Tryz.prog 38 0 [.agg (api_Entry.dv x0), .agg (api_Entry.dv x1)] [] (fun d' b' => d' = .val (.int .i64 y) ∧ b' = [])) (r : (List api_Entry)) (hg : g_slices_pdqsortCmpFunc_api_Entry data a b limit cmp = some r) : Fn Tryz.prog 84 1 [.row 0, .val (.int .i64 a), .val (.int .i64 b), .val (.int .i64 limit), .clo 38 0 []] [.row 40 6 (encL api_Entry.enc data)] (fun d' b' => d' = .tup [] ∧ b' = [.row 40 6 (encL api_Entry.enc r)]) := by
 unfold g_slices_pdqsortCmpFunc_api_Entry at hg
 refine Fn.of Tryz.func84 rfl rfl rfl fun w0 I ρ0 => ?_
 show awp _ ⟨w0, I, ρ0, 1, 1, 148⟩ _ _ _
 refine sr_ 1 9 mk_U ?_
 refine go_ ?_
 refine ch_n fun hU => ?_
 refine sr_ 9 17 hU ?_
 refine go_ ?_
 refine ch_n fun hU => ?_
 refine awp_block ?_
 refine lp_ (fun (_ : Unit) => mk [(0, .row 0), (1, .val (.int .i64 a)), (2, .val (.int .i64 b)), (3, .val (.int .i64 limit)), (4, .clo 38 0 []), (10, .val (.bool true)), (11, .val (.bool true))] [(0, .row 40 6 (encL api_Entry.enc data))] 1) hg (sub_ [(0, 0)]) ?_
 rintro _ m1 o1 hg hn1
 replace hg : g_slices_pdqsortCmpFunc_api_Entry.l1 data a b limit cmp = some o1 := hg
 show awp _ _ _ _ (mk _ _ _)
 unfold g_slices_pdqsortCmpFunc_api_Entry.l1 at hg
 refine awp_block ?_
 refine sr_ 1 33 mk_U ?_
 refine go_ ?_
 refine ch_n fun hU => ?_
 refine awp_seq ?_
 refine sr_ 33 49 hU ?_
 refine go_ ?_
 refine ch_n fun hU => ?_
 refine cg_ rfl hg (fun h5 hg => ?_) fun h5 hg => ?_
 ·refine awp_seq ?_
  refine awp_region (sys _ _ []) 49 89 hU rfl rfl ?_
  refine go_ ?_
  obtain ⟨y, hy, hg⟩ := bind_some hg
  refine cb_ [0] [0] [] false (w_slices_insertionSortCmpFunc_api_Entry_clo_38_0_ data a b cmp hf_cmp _ hy) ?_
  refine ch_n fun hU => ?_
  refine aw_r ?_
  replace hg := leave hg hn1
  obtain rfl := Option.some.inj hg
  exact fin_ [(0, 0)] ⟨rfl, rfl⟩
 ·refine awp_skip ?_
  repeat first | refine st_ ?_ | refine sn_ ?_
  refine awp_seq ?_
  refine sr_ 49 65 hU ?_
  refine go_ ?_
  refine ch_n fun hU => ?_
  refine cg_ rfl hg (fun h8 hg => ?_) fun h8 hg => ?_
  ·refine awp_seq ?_
   refine awp_region (sys _ _ []) 65 105 hU rfl rfl ?_
   refine go_ ?_
   cases hg
  ·refine awp_skip ?_
   repeat first | refine st_ ?_ | refine sn_ ?_
   refine awp_seq ?_
   refine sr_ 65 81 hU ?_
   refine go_ ?_
   refine ch_n fun hU => ?_
   refine awp_cond rfl (fun h => ?_) (fun h => ?_)
   ·exact absurd h (by decide)
   ·refine awp_skip ?_
    repeat first | refine st_ ?_ | refine sn_ ?_
    refine sr_ 81 161 hU ?_
    refine go_ ?_
    cases hg
theorem w_slices_SortFunc_api_Entry_clo_38_0_ (x' : List api_Entry) (cmp : api_Entry → api_Entry → Option (Int)) (hf_cmp : ∀ (x0 : api_Entry) (x1 : api_Entry) (y : Int), cmp x0 x1 = some y → Fn Tryz.prog 38 0 [.agg (api_Entry.dv x0), .agg (api_Entry.dv x1)] [] (fun d' b' => d' = .val (.int .i64 y) ∧ b' = [])) (r : (List api_Entry)) (hg : g_slices_SortFunc_api_Entry x' cmp = some r) : Fn Tryz.prog 37 1 [.row 0, .clo 38 0 []] [.row 40 6 (encL api_Entry.enc x')] (fun d' b' => d' = .tup [] ∧ b' = [.row 40 6 (encL api_Entry.enc r)]) := by
 unfold g_slices_SortFunc_api_Entry at hg
 refine Fn.of Tryz.func37 rfl rfl rfl fun w0 I ρ0 => ?_
 show awp _ ⟨w0, I, ρ0, 1, 1, 14⟩ _ _ _
 refine sr_ 1 25 mk_U ?_
 refine go_ ?_
 refine ch_n fun hU => ?_
 refine awp_region (sys _ _ []) 25 81 hU rfl rfl ?_
 refine go_ ?_
 refine c0_ rfl rfl (r_convK und3 und87) rfl rfl ?_
 obtain ⟨y, hy, hg⟩ := bind_some hg
 refine ca_ (w_math_bits_Len _ _ hy) ?_
 refine go_ ?_
 obtain ⟨y_2, hy_2, hg⟩ := bind_some hg
 refine cb_ [0] [0] [] false (w_slices_pdqsortCmpFunc_api_Entry_clo_38_0_ x' 0 (x'.length : Int) y cmp hf_cmp _ hy_2) ?_
 refine ch_n fun hU => ?_
 obtain rfl := Option.some.inj hg
 exact fin_ [(0, 0)] ⟨rfl, rfl⟩
theorem w_keystore_Merge (a : (List api_Entry)) (b : (List api_Entry)) (r : (List api_Entry) × Int) (hg : g_keystore_Merge a b = some r) : Fn Tryz.prog 12 0 [.sl 6 (encL api_Entry.enc a), .sl 6 (encL api_Entry.enc b)] [] (fun d' b' => d' = .tup [.sl 6 (encL api_Entry.enc r.1), .val (.int .i64 r.2)] ∧ b' = []) := by
 unfold g_keystore_Merge at hg
 refine Fn.of Tryz.func12 rfl rfl rfl fun w0 I ρ0 => ?_
 show awp _ ⟨w0, I, ρ0, 0, 0, 71⟩ _ _ _
 refine sr_ 0 16 mk_U ?_
 refine go_ ?_
 refine ch_n fun hU => ?_
 refine awp_seq ?_
 refine awp_cut (ι := Bool) (fun (x21_1 : Bool) => mk [(0, .sl 6 (encL api_Entry.enc a)), (1, .sl 6 (encL api_Entry.enc b)), (21, .val (.bool x21_1))] [] 0) (fun (x21_1 : Bool) => g_keystore_Merge.j1 a b x21_1 = some r) ?_ ?_
 ·refine awp_region (sys _ _ []) 16 80 hU rfl rfl ?_
  refine go_ ?_
  obtain ⟨y, hy, hg⟩ := bind_some hg
  refine ca_ (w_keystore_Check _ _ hy) ?_
  refine go_ ?_
  rcases bc_ hg with ⟨h2, hg⟩ | ⟨h2, hg⟩
  ·refine go_ ?_
   refine ch_n fun hU => ?_
   exact ⟨true, hg, sub_ []⟩
  ·refine go_ ?_
   obtain ⟨y_2, hy_2, hg⟩ := bind_some hg
   refine ca_ (w_keystore_Check _ _ hy_2) ?_
   refine go_ ?_
   refine ch_n fun hU => ?_
   exact ⟨!decide (y_2 = 0), hg, sub_ []⟩
 ·rintro x21_1 hg
  replace hg : g_keystore_Merge.j1 a b x21_1 = some r := hg
  show awp _ _ _ _ (mk _ _ _)
  unfold g_keystore_Merge.j1 at hg
  refine cg_ rfl hg (fun h5 hg => ?_) fun h5 hg => ?_
  ·refine awp_seq ?_
   refine awp_region (sys _ _ []) 0 16 mk_U rfl rfl ?_
   refine go_ ?_
   refine ch_n fun hU => ?_
   refine aw_r ?_
   obtain rfl := Option.some.inj hg
   exact fin_ [] ⟨rfl, rfl⟩
  ·refine awp_skip ?_
   repeat first | refine st_ ?_ | refine sn_ ?_
   refine sr_ 0 72 mk_U ?_
   refine go_ ?_
   obtain ⟨m, hm, hg⟩ := bind_some hg
   refine ch_x (rd := []) rfl rfl (x_make (f := api_Entry.enc) (z0 := (api_Entry.mk (⟨#[]⟩ : ByteArray) (api_Use.mk 0 0) 0 false ([] : (List api_Certificate)))) sl27 api_Entry.enc_len (zt_of (ck := [none, none, none, none, none, some 15]) z40 (.cons .str (.cons .int (.cons .int (.cons .int (.cons .bool (.cons .nil .nil))))))) (by intro h; injection h with h; cases h) hm rfl) rfl rfl (fun _ => ⟨_, rfl⟩) ?_
   rintro _ rfl
   refine go_ ?_
   refine ch_n fun hU => ?_
   refine sr_ 72 96 hU ?_
   refine go_ ?_
   obtain ⟨l, hl, hg⟩ := bind_some hg
   refine ch_x (rd := [56]) rfl rfl (x_copy sl27 sl27 api_Entry.enc_len (.head _) hl) rfl rfl (fun _ => ⟨_, rfl⟩) ?_
   rintro _ rfl
   refine ch_n fun hU => ?_
   refine awp_seq ?_
   refine sr_ 96 120 hU ?_
   refine go_ ?_
   refine ch_n fun hU => ?_
   refine awp_block ?_
   refine lp_ (fun ((x35_2, l_2) : Int × List api_Entry) => mk [(1, .sl 6 (encL api_Entry.enc b)), (6, .row 0), (33, .sl 6 (encL api_Entry.enc a)), (34, .val (.int .i64 (a.length : Int))), (35, .val (.int .i64 x35_2))] [(0, .row 40 6 (encL api_Entry.enc l_2))] 1) hg (sub_ [(0, 56)]) ?_
   rintro ⟨x35_2, l_2⟩ m2 o2 hg hn2
   replace hg : g_keystore_Merge.l2 a b x35_2 l_2 = some o2 := hg
   show awp _ _ _ _ (mk _ _ _)
   unfold g_keystore_Merge.l2 at hg
   refine sr_ 1 9 mk_U ?_
   refine go_ ?_
   refine ch_n fun hU => ?_
   refine awp_seq ?_
   refine cg_ rfl hg (fun h11 hg => ?_) fun h11 hg => ?_
   ·refine awp_skip ?_
    repeat first | refine st_ ?_ | refine sn_ ?_
    refine awp_cut (ι := List api_Entry) (fun (l_3_2 : List api_Entry) => mk [(1, .sl 6 (encL api_Entry.enc b)), (6, .row 0), (33, .sl 6 (encL api_Entry.enc a)), (34, .val (.int .i64 (a.length : Int))), (35, .val (.int .i64 x35_2))] [(0, .row 40 6 (encL api_Entry.enc l_3_2))] 1) (fun (l_3_2 : List api_Entry) => g_keystore_Merge.j3 x35_2 l_3_2 = some o2) ?_ ?_
    ·refine awp_block ?_
     refine sr_ 9 41 hU ?_
     obtain ⟨e, he, hg⟩ := bind_some hg
     refine go_ ?_
     refine c0_ rfl rfl (r_loadEA ty40 (enc_cells api_Entry.enc_len (getI_at he) (o := 0) (m := 6) (cs := [.str e.Alias, .int .i64 e.Key.Alg, .int .i64 e.Key.Bits, .int .i64 e.KeyId, .bool e.Secret, .sl 15 (encL api_Certificate.enc e.Chain)]) rfl (by decide) rfl) (enc_cells_le api_Entry.enc_len (getI_at he) (o := 0) (m := 6) (by decide) rfl)) rfl rfl ?_
     refine go_ ?_
     refine ch_n fun hU => ?_
     refine sr_ 41 121 hU ?_
     refine go_ ?_
     obtain ⟨y_3, hy_3, hg⟩ := bind_some hg
     refine ca_ (w_keystore_Find _ _ _ hy_3) ?_
     refine go_ ?_
     refine ch_n fun hU => ?_
     refine sr_ 121 137 hU ?_
     refine go_ ?_
     refine ch_n fun hU => ?_
     refine cg_ rfl hg (fun h15 hg => ?_) fun h15 hg => ?_
     ·refine awp_region (sys _ _ []) 137 177 hU rfl rfl ?_
      refine go_ ?_
      refine c0_ rfl rfl (r_buildFull sl27 z40 (by decide) rfl rfl rfl rfl ck40 (cs := [.str e.Alias, .int .i64 e.Key.Alg, .int .i64 e.Key.Bits, .int .i64 e.KeyId, .bool e.Secret, .sl 15 (encL api_Certificate.enc e.Chain)]) (.cons .str (.cons .int (.cons .int (.cons .int (.cons .bool (.cons .sl .nil)))))) rfl (l := ([e] : List api_Entry)) (f := api_Entry.enc) rfl) rfl rfl ?_
      obtain ⟨l_3, hl_3, hg⟩ := bind_some hg
      refine ch_s (rd := [0, 153]) rfl rfl (r_append sl27 api_Entry.enc_len .row rfl .row rfl hl_3 rfl) rfl rfl ?_
      refine go_ ?_
      refine ch_n fun hU => ?_
      exact ⟨l_3, hg, sub_ [(0, 161)]⟩
     ·refine awp_skip ?_
      repeat first | refine st_ ?_ | refine sn_ ?_
      exact ⟨l_2, hg, sub_ [(0, 0)]⟩
    ·rintro l_3_2 hg
     replace hg : g_keystore_Merge.j3 x35_2 l_3_2 = some o2 := hg
     show awp _ _ _ _ (mk _ _ _)
     unfold g_keystore_Merge.j3 at hg
     refine awp_region (sys _ _ []) 1 17 mk_U rfl rfl ?_
     refine go_ ?_
     refine ch_n fun hU => ?_
     obtain rfl := Option.some.inj hg
     exact ⟨((W (x35_2 + 1), l_3_2), m2), Nat.lt_succ_self _, hn2, sub_ [(0, 0)]⟩
   ·refine awp_exit ?_
    repeat first | refine st_ ?_ | refine sn_ ?_
    replace hg := leave hg hn2
    refine awp_seq ?_
    refine sr_ 9 33 hU ?_
    refine go_ ?_
    refine ch_n fun hU => ?_
    refine cg_ rfl hg (fun h19 hg => ?_) fun h19 hg => ?_
    ·refine awp_seq ?_
     refine awp_region (sys _ _ []) 33 49 hU rfl rfl ?_
     refine go_ ?_
     refine ch_n fun hU => ?_
     refine aw_r ?_
     obtain rfl := Option.some.inj hg
     exact fin_ [] ⟨rfl, rfl⟩
    ·refine awp_skip ?_
     repeat first | refine st_ ?_ | refine sn_ ?_
     refine sr_ 33 49 hU ?_
     refine go_ ?_
     obtain ⟨y_4, hy_4, hg⟩ := bind_some hg
     refine cb_ [0] [0] [] false (w_slices_SortFunc_api_Entry_clo_38_0_ l_2 (fun x0 x1 => g_keystore_Merge_c1 x0 x1) (fun x0 x1 y h => w_keystore_Merge_c1 x0 x1 y h) _ hy_4) ?_
     refine ch_n fun hU => ?_
     refine sr_ 49 57 hU ?_
     refine go_ ?_
     refine ch_n fun hU => ?_
     refine awp_seq ?_
     refine sr_ 57 81 hU ?_
     refine go_ ?_
     refine ch_n fun hU => ?_
     refine awp_block ?_
     refine lp_ (fun ((x60_4, out_4) : Int × List api_Entry) => mk [(11, .row 0), (58, .row 1), (59, .val (.int .i64 (y_4.length : Int))), (60, .val (.int .i64 x60_4))] [(0, .row 40 6 (encL api_Entry.enc out_4)), (1, .row 40 6 (encL api_Entry.enc y_4))] 2) hg (sub_ [(1, 0)]) ?_
     rintro ⟨x60_4, out_4⟩ m4 o4 hg hn4
     replace hg : g_keystore_Merge.l4 y_4 x60_4 out_4 = some o4 := hg
     show awp _ _ _ _ (mk _ _ _)
     unfold g_keystore_Merge.l4 at hg
     refine sr_ 2 10 mk_U ?_
     refine go_ ?_
     refine ch_n fun hU => ?_
     refine awp_seq ?_
     refine cg_ rfl hg (fun h25 hg => ?_) fun h25 hg => ?_
     ·refine awp_skip ?_
      repeat first | refine st_ ?_ | refine sn_ ?_
      refine awp_seq ?_
      refine awp_block ?_
      refine sr_ 10 42 hU ?_
      obtain ⟨e_2, he_2, hg⟩ := bind_some hg
      refine go_ ?_
      refine ch_s (rd := [1]) rfl rfl (r_loadRA ty40 (enc_cells api_Entry.enc_len (getI_at he_2) (o := 0) (m := 6) (cs := [.str e_2.Alias, .int .i64 e_2.Key.Alg, .int .i64 e_2.Key.Bits, .int .i64 e_2.KeyId, .bool e_2.Secret, .sl 15 (encL api_Certificate.enc e_2.Chain)]) rfl (by decide) rfl) (enc_cells_le api_Entry.enc_len (getI_at he_2) (o := 0) (m := 6) (by decide) rfl)) rfl rfl ?_
      refine go_ ?_
      refine ch_n fun hU => ?_
      refine awp_region (sys _ _ []) 42 90 hU rfl rfl ?_
      refine go_ ?_
      obtain ⟨y_5, hy_5, hg⟩ := bind_some hg
      refine ca_ (w_keystore_own _ _ hy_5) ?_
      refine c0_ rfl rfl (r_buildFull sl27 z40 (by decide) rfl rfl rfl rfl ck40 (cs := [.str y_5.Alias, .int .i64 y_5.Key.Alg, .int .i64 y_5.Key.Bits, .int .i64 y_5.KeyId, .bool y_5.Secret, .sl 15 (encL api_Certificate.enc y_5.Chain)]) (.cons .str (.cons .int (.cons .int (.cons .int (.cons .bool (.cons .sl .nil)))))) rfl (l := ([y_5] : List api_Entry)) (f := api_Entry.enc) rfl) rfl rfl ?_
      obtain ⟨l_4, hl_4, hg⟩ := bind_some hg
      refine ch_s (rd := [0, 66]) rfl rfl (r_append sl27 api_Entry.enc_len .row rfl .row rfl hl_4 rfl) rfl rfl ?_
      refine go_ ?_
      refine ch_n fun hU => ?_
      refine awp_region (sys _ _ []) 90 106 hU rfl rfl ?_
      refine go_ ?_
      refine ch_n fun hU => ?_
      obtain rfl := Option.some.inj hg
      exact ⟨((W (x60_4 + 1), l_4), m4), Nat.lt_succ_self _, hn4, sub_ [(0, 74), (1, 1)]⟩
     ·refine awp_exit ?_
      repeat first | refine st_ ?_ | refine sn_ ?_
      replace hg := leave hg hn4
      refine sr_ 10 34 hU ?_
      refine go_ ?_
      refine ch_n fun hU => ?_
      refine aw_r ?_
      obtain rfl := Option.some.inj hg
      exact fin_ [] ⟨rfl, rfl⟩
theorem w_law05_awake  (r : Bool) (hg : g_law05_awake = some r) : Fn Tryz.prog 7 0 [] [] (fun d' b' => d' = .val (.bool r) ∧ b' = []) := by
 unfold g_law05_awake at hg
 refine Fn.of Tryz.func7 rfl rfl rfl fun w0 I ρ0 => ?_
 show awp _ ⟨w0, I, ρ0, 0, 0, 50⟩ _ _ _
 refine sr_ 0 8 mk_U ?_
 refine go_ ?_
 refine ch_n fun hU => ?_
 refine sr_ 8 32 hU ?_
 refine c0_ rfl rfl (.build (r := [.val (.int .i64 5), .val (.int .i64 2048)]) und37 pl37 z37 (by kernel_rfl) rfl) rfl rfl ?_
 refine go_ ?_
 refine ch_n fun hU => ?_
 refine sr_ 32 80 hU ?_
 refine go_ ?_
 refine c0_ rfl rfl (.build (r := [.val (.string (⟨#[97]⟩ : ByteArray)), .val (.int .i64 5), .val (.int .i64 2048), .val (.int .i64 0), .val (.bool false), .val (.slice none 0 0)]) und40 pl40 z40 (by kernel_rfl) rfl) rfl rfl ?_
 refine go_ ?_
 refine c0_ rfl rfl (.build (r := [.val (.string (⟨#[98]⟩ : ByteArray)), .val (.int .i64 5), .val (.int .i64 2048), .val (.int .i64 1), .val (.bool false), .val (.slice none 0 0)]) und40 pl40 z40 (by kernel_rfl) rfl) rfl rfl ?_
 refine c0_ rfl rfl (r_buildFull sl27 z40 (by decide) rfl rfl rfl rfl ck40 (cs := [.str (⟨#[97]⟩ : ByteArray), .int .i64 5, .int .i64 2048, .int .i64 0, .bool false, .sl 15 (encL api_Certificate.enc []), .str (⟨#[98]⟩ : ByteArray), .int .i64 5, .int .i64 2048, .int .i64 1, .bool false, .sl 15 (encL api_Certificate.enc [])]) (.cons .str (.cons .int (.cons .int (.cons .int (.cons .bool (.cons .nil (.cons .str (.cons .int (.cons .int (.cons .int (.cons .bool (.cons .nil .nil)))))))))))) rfl (l := ([(api_Entry.mk (⟨#[97]⟩ : ByteArray) (api_Use.mk 5 2048) 0 false ([] : (List api_Certificate))), (api_Entry.mk (⟨#[98]⟩ : ByteArray) (api_Use.mk 5 2048) 1 false ([] : (List api_Certificate)))] : List api_Entry)) (f := api_Entry.enc) rfl) rfl rfl ?_
 refine go_ ?_
 refine ch_n fun hU => ?_
 refine sr_ 80 128 hU ?_
 refine go_ ?_
 refine c0_ rfl rfl (.build (r := [.val (.string (⟨#[98]⟩ : ByteArray)), .val (.int .i64 5), .val (.int .i64 2048), .val (.int .i64 2), .val (.bool false), .val (.slice none 0 0)]) und40 pl40 z40 (by kernel_rfl) rfl) rfl rfl ?_
 refine go_ ?_
 refine c0_ rfl rfl (.build (r := [.val (.string (⟨#[99]⟩ : ByteArray)), .val (.int .i64 5), .val (.int .i64 2048), .val (.int .i64 0), .val (.bool false), .val (.slice none 0 0)]) und40 pl40 z40 (by kernel_rfl) rfl) rfl rfl ?_
 refine c0_ rfl rfl (r_buildFull sl27 z40 (by decide) rfl rfl rfl rfl ck40 (cs := [.str (⟨#[98]⟩ : ByteArray), .int .i64 5, .int .i64 2048, .int .i64 2, .bool false, .sl 15 (encL api_Certificate.enc []), .str (⟨#[99]⟩ : ByteArray), .int .i64 5, .int .i64 2048, .int .i64 0, .bool false, .sl 15 (encL api_Certificate.enc [])]) (.cons .str (.cons .int (.cons .int (.cons .int (.cons .bool (.cons .nil (.cons .str (.cons .int (.cons .int (.cons .int (.cons .bool (.cons .nil .nil)))))))))))) rfl (l := ([(api_Entry.mk (⟨#[98]⟩ : ByteArray) (api_Use.mk 5 2048) 2 false ([] : (List api_Certificate))), (api_Entry.mk (⟨#[99]⟩ : ByteArray) (api_Use.mk 5 2048) 0 false ([] : (List api_Certificate)))] : List api_Entry)) (f := api_Entry.enc) rfl) rfl rfl ?_
 refine go_ ?_
 refine ch_n fun hU => ?_
 refine awp_seq ?_
 refine awp_sub (σ' := mk [(2, .sl 6 (encL api_Entry.enc ([(api_Entry.mk (⟨#[97]⟩ : ByteArray) (api_Use.mk 5 2048) 0 false ([] : (List api_Certificate))), (api_Entry.mk (⟨#[98]⟩ : ByteArray) (api_Use.mk 5 2048) 1 false ([] : (List api_Certificate)))] : List api_Entry))), (3, .row 0)] [(0, .row 40 6 (encL api_Entry.enc ([(api_Entry.mk (⟨#[98]⟩ : ByteArray) (api_Use.mk 5 2048) 2 false ([] : (List api_Certificate))), (api_Entry.mk (⟨#[99]⟩ : ByteArray) (api_Use.mk 5 2048) 0 false ([] : (List api_Certificate)))] : List api_Entry)))] 1) (sub_ [(0, 112)]) ?_
 refine awp_sub (σ' := mk [(2, .sl 6 (encL api_Entry.enc ([(api_Entry.mk (⟨#[97]⟩ : ByteArray) (api_Use.mk 5 2048) 0 false ([] : (List api_Certificate))), (api_Entry.mk (⟨#[98]⟩ : ByteArray) (api_Use.mk 5 2048) 1 false ([] : (List api_Certificate)))] : List api_Entry))), (3, .sl 6 (encL api_Entry.enc ([(api_Entry.mk (⟨#[98]⟩ : ByteArray) (api_Use.mk 5 2048) 2 false ([] : (List api_Certificate))), (api_Entry.mk (⟨#[99]⟩ : ByteArray) (api_Use.mk 5 2048) 0 false ([] : (List api_Certificate)))] : List api_Entry)))] [] 0) (sub_ []) ?_
 refine awp_region (sys _ _ []) 0 64 mk_U rfl rfl ?_
 refine go_ ?_
 obtain ⟨y, hy, hg⟩ := bind_some hg
 refine ca_ (w_keystore_Merge _ _ _ hy) ?_
 refine go_ ?_
 refine ch_n fun hU => ?_
 refine sr_ 64 128 hU ?_
 refine go_ ?_
 obtain ⟨y_2, hy_2, hg⟩ := bind_some hg
 refine ca_ (w_keystore_Find _ _ _ hy_2) ?_
 refine go_ ?_
 refine ch_n fun hU => ?_
 refine sr_ 128 296 hU ?_
 refine go_ ?_
 rcases bc_ hg with ⟨h7, hg⟩ | ⟨h7, hg⟩
 ·refine go_ ?_
  rcases bc_ hg with ⟨h8, hg⟩ | ⟨h8, hg⟩
  ·refine go_ ?_
   rcases bc_ hg with ⟨h9, hg⟩ | ⟨h9, hg⟩
   ·refine go_ ?_
    rcases bc_ hg with ⟨h10, hg⟩ | ⟨h10, hg⟩
    ·refine go_ ?_
     obtain ⟨y_3, hy_3, hg⟩ := bind_some hg
     refine ca_ (w_keystore_Check _ _ hy_3) ?_
     refine go_ ?_
     refine ch_n fun hU => ?_
     refine aw_r ?_
     obtain rfl := Option.some.inj hg
     exact fin_ [] ⟨rfl, rfl⟩
    ·refine go_ ?_
     refine ch_n fun hU => ?_
     refine aw_r ?_
     obtain rfl := Option.some.inj hg
     exact fin_ [] ⟨rfl, rfl⟩
   ·refine go_ ?_
    refine ch_n fun hU => ?_
    refine aw_r ?_
    obtain rfl := Option.some.inj hg
    exact fin_ [] ⟨rfl, rfl⟩
  ·refine go_ ?_
   refine ch_n fun hU => ?_
   refine aw_r ?_
   obtain rfl := Option.some.inj hg
   exact fin_ [] ⟨rfl, rfl⟩
 ·refine go_ ?_
  refine ch_n fun hU => ?_
  refine aw_r ?_
  obtain rfl := Option.some.inj hg
  exact fin_ [] ⟨rfl, rfl⟩
theorem w_make_Roll (l : (List Int)) (r : cipherplanmake_Dice) (hg : g_make_Roll l = some r) : Fn Tryz.prog 8 0 [.sl 1 (encL eI l)] [] (fun d' b' => d' = .ptr 0 0 ∧ b' = [.box [.sl 1 (encL eI r.L), .val (.int .i64 r.At)] 60]) := by
 unfold g_make_Roll at hg
 refine Fn.of Tryz.func8 rfl rfl rfl fun w0 I ρ0 => ?_
 show awp _ ⟨w0, I, ρ0, 0, 0, 6⟩ _ _ _
 refine sr_ 0 8 mk_U ?_
 refine go_ ?_
 refine ch_n fun hU => ?_
 refine sr_ 8 40 hU ?_
 refine go_ ?_
 refine c0_ rfl rfl (.build (r := [.sl 1 (encL eI l), .val (.int .i64 0)]) und60 pl60 z60 (by kernel_rfl) rfl) rfl rfl ?_
 refine go_ ?_
 refine ch_n fun hU => ?_
 refine aw_r ?_
 obtain rfl := Option.some.inj hg
 exact fin_ [(0, 24)] ⟨rfl, rfl⟩
theorem w_make_Mod (n : Int) (k : Int) (r : Int) (hg : g_make_Mod n k = some r) : Fn Tryz.prog 22 0 [.val (.int .i64 n), .val (.int .i64 k)] [] (fun d' b' => d' = .val (.int .i64 r) ∧ b' = []) := by
 unfold g_make_Mod at hg
 refine Fn.of Tryz.func22 rfl rfl rfl fun w0 I ρ0 => ?_
 show awp _ ⟨w0, I, ρ0, 0, 0, 14⟩ _ _ _
 refine sr_ 0 8 mk_U ?_
 refine go_ ?_
 refine ch_n fun hU => ?_
 refine awp_seq ?_
 refine sr_ 8 24 hU ?_
 refine go_ ?_
 refine ch_n fun hU => ?_
 refine cg_ rfl hg (fun h3 hg => ?_) fun h3 hg => ?_
 ·refine awp_seq ?_
  refine awp_region (sys _ _ []) 24 32 hU rfl rfl ?_
  refine go_ ?_
  refine ch_n fun hU => ?_
  refine aw_r ?_
  obtain rfl := Option.some.inj hg
  exact fin_ [] ⟨rfl, rfl⟩
 ·refine awp_skip ?_
  repeat first | refine st_ ?_ | refine sn_ ?_
  refine sr_ 24 88 hU ?_
  refine go_ ?_
  obtain ⟨q, hq, hg⟩ := bind_some hg
  refine c0_ rfl rfl (r_rem hq) rfl rfl ?_
  refine go_ ?_
  obtain ⟨q_2, hq_2, hg⟩ := bind_some hg
  refine c0_ rfl rfl (r_rem hq_2) rfl rfl ?_
  refine go_ ?_
  refine ch_n fun hU => ?_
  refine aw_r ?_
  obtain rfl := Option.some.inj hg
  exact fin_ [] ⟨rfl, rfl⟩
theorem w_make_Dice_Next (d : cipherplanmake_Dice) (n : Int) (r : Int × cipherplanmake_Dice) (hg : g_make_Dice_Next d n = some r) : Fn Tryz.prog 29 1 [.ptr 0 0, .val (.int .i64 n)] [.box [.sl 1 (encL eI d.L), .val (.int .i64 d.At)] 60] (fun d' b' => d' = .val (.int .i64 r.1) ∧ b' = [.box [.sl 1 (encL eI r.2.L), .val (.int .i64 r.2.At)] 60]) := by
 unfold g_make_Dice_Next at hg
 refine Fn.of Tryz.func29 rfl rfl rfl fun w0 I ρ0 => ?_
 show awp _ ⟨w0, I, ρ0, 1, 1, 35⟩ _ _ _
 refine sr_ 1 9 mk_U ?_
 refine go_ ?_
 refine ch_n fun hU => ?_
 refine awp_seq ?_
 refine awp_seq ?_
 refine awp_draw (sys _ _ []) (by kernel_rfl) [0, 1, 3, 7, 0, 16, 48, 112, 240, 511] 9 89 hU rfl rfl (by kernel_rfl) ?_
 refine go_ ?_
 refine ch_n fun hU => ?_
 refine cg_ rfl hg (fun h3 hg => ?_) fun h3 hg => ?_
 ·refine awp_seq ?_
  refine awp_region (sys _ _ []) 89 97 hU rfl rfl ?_
  refine go_ ?_
  refine ch_n fun hU => ?_
  refine aw_r ?_
  obtain rfl := Option.some.inj hg
  exact fin_ [(0, 0)] ⟨rfl, rfl⟩
 ·refine awp_skip ?_
  repeat first | refine st_ ?_ | refine sn_ ?_
  refine sr_ 89 153 hU ?_
  refine go_ ?_
  refine ch_n fun hU => ?_
  refine awp_seq ?_
  refine awp_draw (sys _ _ []) (by kernel_rfl) [0, 1, 3, 7, 0, 16, 48, 112, 240, 511, 1023, 0, 4095, 8191] 153 265 hU rfl rfl (by kernel_rfl) ?_
  refine go_ ?_
  obtain ⟨e, he, hg⟩ := bind_some hg
  refine go_ ?_
  refine c0_ rfl rfl (r_loadE1 ty3 (enc_cell eI_len (getI_at he) (o := 0) (c := .int .i64 e) rfl rfl)) rfl rfl ?_
  refine go_ ?_
  obtain ⟨y, hy, hg⟩ := bind_some hg
  refine ca_ (w_make_Mod _ _ _ hy) ?_
  refine go_ ?_
  refine ch_n fun hU => ?_
  refine aw_r ?_
  obtain rfl := Option.some.inj hg
  exact fin_ [(0, 0)] ⟨rfl, rfl⟩
theorem w_make_Dice_Of (d : cipherplanmake_Dice) (l : (List Int)) (r : Int × cipherplanmake_Dice) (hg : g_make_Dice_Of d l = some r) : Fn Tryz.prog 30 1 [.ptr 0 0, .sl 1 (encL eI l)] [.box [.sl 1 (encL eI d.L), .val (.int .i64 d.At)] 60] (fun d' b' => d' = .val (.int .i64 r.1) ∧ b' = [.box [.sl 1 (encL eI r.2.L), .val (.int .i64 r.2.At)] 60]) := by
 unfold g_make_Dice_Of at hg
 refine Fn.of Tryz.func30 rfl rfl rfl fun w0 I ρ0 => ?_
 show awp _ ⟨w0, I, ρ0, 1, 1, 12⟩ _ _ _
 refine sr_ 1 9 mk_U ?_
 refine go_ ?_
 refine ch_n fun hU => ?_
 refine sr_ 9 73 hU ?_
 refine go_ ?_
 obtain ⟨y, hy, hg⟩ := bind_some hg
 refine cb_ [0] [0] [] false (w_make_Dice_Next _ _ _ hy) ?_
 obtain ⟨e, he, hg⟩ := bind_some hg
 refine go_ ?_
 refine c0_ rfl rfl (r_loadE1 ty3 (enc_cell eI_len (getI_at he) (o := 0) (c := .int .i64 e) rfl rfl)) rfl rfl ?_
 refine go_ ?_
 refine ch_n fun hU => ?_
 refine aw_r ?_
 obtain rfl := Option.some.inj hg
 exact fin_ [(0, 0)] ⟨rfl, rfl⟩
theorem w_make_size (d : cipherplanmake_Dice) (a : Int) (r : Int × cipherplanmake_Dice) (hg : g_make_size d a = some r) : Fn Tryz.prog 140 1 [.ptr 0 0, .val (.int .i64 a)] [.box [.sl 1 (encL eI d.L), .val (.int .i64 d.At)] 60] (fun d' b' => d' = .val (.int .i64 r.1) ∧ b' = [.box [.sl 1 (encL eI r.2.L), .val (.int .i64 r.2.At)] 60]) := by
 unfold g_make_size at hg
 refine Fn.of Tryz.func140 rfl rfl rfl fun w0 I ρ0 => ?_
 show awp _ ⟨w0, I, ρ0, 1, 1, 46⟩ _ _ _
 refine sr_ 1 9 mk_U ?_
 refine go_ ?_
 refine ch_n fun hU => ?_
 refine awp_seq ?_
 refine sr_ 9 17 hU ?_
 refine go_ ?_
 refine ch_n fun hU => ?_
 refine awp_block ?_
 refine awp_cut (ι := Bool) (fun (x6_1 : Bool) => mk [(0, .ptr 0 0), (5, .val (.int .i64 a)), (6, .val (.bool x6_1))] [(0, .box [.sl 1 (encL eI d.L), .val (.int .i64 d.At)] 60)] 1) (fun (x6_1 : Bool) => g_make_size.j1 d a x6_1 = some r) ?_ ?_
 ·refine awp_seq ?_
  refine awp_region (sys _ _ []) 17 33 hU rfl rfl ?_
  refine go_ ?_
  refine ch_n fun hU => ?_
  refine cg_ rfl hg (fun h4 hg => ?_) fun h4 hg => ?_
  ·refine awp_skip ?_
   repeat first | refine st_ ?_ | refine sn_ ?_
   exact ⟨decide (a = 5), hg, sub_ [(0, 0)]⟩
  ·refine awp_seq ?_
   refine awp_region (sys _ _ []) 33 49 hU rfl rfl ?_
   refine go_ ?_
   refine ch_n fun hU => ?_
   refine cg_ rfl hg (fun h6 hg => ?_) fun h6 hg => ?_
   ·refine awp_skip ?_
    repeat first | refine st_ ?_ | refine sn_ ?_
    exact ⟨decide (a = 6), hg, sub_ [(0, 0)]⟩
   ·refine awp_seq ?_
    refine awp_region (sys _ _ []) 49 65 hU rfl rfl ?_
    refine go_ ?_
    refine ch_n fun hU => ?_
    refine cg_ rfl hg (fun h8 hg => ?_) fun h8 hg => ?_
    ·refine awp_skip ?_
     repeat first | refine st_ ?_ | refine sn_ ?_
     exact ⟨decide (a = 10), hg, sub_ [(0, 0)]⟩
    ·refine awp_region (sys _ _ []) 65 81 hU rfl rfl ?_
     refine go_ ?_
     refine ch_n fun hU => ?_
     exact ⟨decide (a = 11), hg, sub_ [(0, 0)]⟩
 ·rintro x6_1 hg
  replace hg : g_make_size.j1 d a x6_1 = some r := hg
  show awp _ _ _ _ (mk _ _ _)
  unfold g_make_size.j1 at hg
  refine cg_ rfl hg (fun h10 hg => ?_) fun h10 hg => ?_
  ·refine awp_seq ?_
   refine awp_region (sys _ _ [9]) 1 33 mk_U rfl rfl ?_
   refine go_ ?_
   refine ch_z (rd := []) rfl rfl (r_buildFull sl22 z3 (by decide) rfl rfl rfl rfl ck3 (cs := [.int .i64 2048, .int .i64 1024, .int .i64 512, .int .i64 3072, .int .i64 1023, .int .i64 4096, .int .i64 16384]) (.cons .int (.cons .int (.cons .int (.cons .int (.cons .int (.cons .int (.cons .int .nil))))))) rfl (l := ([2048, 1024, 512, 3072, 1023, 4096, 16384] : List Int)) (f := eI) rfl) rfl rfl rfl ?_
   obtain ⟨y, hy, hg⟩ := bind_some hg
   refine cb_ [0] [0] [] false (w_make_Dice_Of _ _ _ hy) ?_
   refine go_ ?_
   refine ch_n fun hU => ?_
   refine aw_r ?_
   obtain rfl := Option.some.inj hg
   exact fin_ [(0, 0)] ⟨rfl, rfl⟩
  ·refine awp_cut (ι := Bool) (fun (x14_2 : Bool) => mk [(0, .ptr 0 0), (5, .val (.int .i64 a)), (14, .val (.bool x14_2))] [(0, .box [.sl 1 (encL eI d.L), .val (.int .i64 d.At)] 60)] 1) (fun (x14_2 : Bool) => g_make_size.j2 d a x14_2 = some r) ?_ ?_
   ·refine awp_seq ?_
    refine awp_region (sys _ _ []) 1 17 mk_U rfl rfl ?_
    refine go_ ?_
    refine ch_n fun hU => ?_
    refine cg_ rfl hg (fun h13 hg => ?_) fun h13 hg => ?_
    ·refine awp_skip ?_
     repeat first | refine st_ ?_ | refine sn_ ?_
     exact ⟨decide (a = 7), hg, sub_ [(0, 0)]⟩
    ·refine awp_region (sys _ _ []) 17 33 hU rfl rfl ?_
     refine go_ ?_
     refine ch_n fun hU => ?_
     exact ⟨decide (a = 12), hg, sub_ [(0, 0)]⟩
   ·rintro x14_2 hg
    replace hg : g_make_size.j2 d a x14_2 = some r := hg
    show awp _ _ _ _ (mk _ _ _)
    unfold g_make_size.j2 at hg
    refine cg_ rfl hg (fun h15 hg => ?_) fun h15 hg => ?_
    ·refine awp_seq ?_
     refine awp_region (sys _ _ [9]) 1 33 mk_U rfl rfl ?_
     refine go_ ?_
     refine ch_z (rd := []) rfl rfl (r_buildFull sl22 z3 (by decide) rfl rfl rfl rfl ck3 (cs := [.int .i64 256, .int .i64 160, .int .i64 224, .int .i64 384, .int .i64 521]) (.cons .int (.cons .int (.cons .int (.cons .int (.cons .int .nil))))) rfl (l := ([256, 160, 224, 384, 521] : List Int)) (f := eI) rfl) rfl rfl rfl ?_
     obtain ⟨y_2, hy_2, hg⟩ := bind_some hg
     refine cb_ [0] [0] [] false (w_make_Dice_Of _ _ _ hy_2) ?_
     refine go_ ?_
     refine ch_n fun hU => ?_
     refine aw_r ?_
     obtain rfl := Option.some.inj hg
     exact fin_ [(0, 0)] ⟨rfl, rfl⟩
    ·refine awp_seq ?_
     refine awp_region (sys _ _ []) 1 17 mk_U rfl rfl ?_
     refine go_ ?_
     refine ch_n fun hU => ?_
     refine cg_ rfl hg (fun h18 hg => ?_) fun h18 hg => ?_
     ·refine awp_seq ?_
      refine awp_region (sys _ _ [25]) 17 49 hU rfl rfl ?_
      refine go_ ?_
      refine ch_z (rd := []) rfl rfl (r_buildFull sl22 z3 (by decide) rfl rfl rfl rfl ck3 (cs := [.int .i64 65, .int .i64 44, .int .i64 87]) (.cons .int (.cons .int (.cons .int .nil))) rfl (l := ([65, 44, 87] : List Int)) (f := eI) rfl) rfl rfl rfl ?_
      obtain ⟨y_3, hy_3, hg⟩ := bind_some hg
      refine cb_ [0] [0] [] false (w_make_Dice_Of _ _ _ hy_3) ?_
      refine go_ ?_
      refine ch_n fun hU => ?_
      refine aw_r ?_
      obtain rfl := Option.some.inj hg
      exact fin_ [(0, 0)] ⟨rfl, rfl⟩
     ·refine awp_seq ?_
      refine awp_region (sys _ _ []) 17 33 hU rfl rfl ?_
      refine go_ ?_
      refine ch_n fun hU => ?_
      refine cg_ rfl hg (fun h21 hg => ?_) fun h21 hg => ?_
      ·refine awp_seq ?_
       refine awp_region (sys _ _ [41]) 33 65 hU rfl rfl ?_
       refine go_ ?_
       refine ch_z (rd := []) rfl rfl (r_buildFull sl22 z3 (by decide) rfl rfl rfl rfl ck3 (cs := [.int .i64 768, .int .i64 512, .int .i64 1024]) (.cons .int (.cons .int (.cons .int .nil))) rfl (l := ([768, 512, 1024] : List Int)) (f := eI) rfl) rfl rfl rfl ?_
       obtain ⟨y_4, hy_4, hg⟩ := bind_some hg
       refine cb_ [0] [0] [] false (w_make_Dice_Of _ _ _ hy_4) ?_
       refine go_ ?_
       refine ch_n fun hU => ?_
       refine aw_r ?_
       obtain rfl := Option.some.inj hg
       exact fin_ [(0, 0)] ⟨rfl, rfl⟩
      ·refine awp_seq ?_
       refine awp_region (sys _ _ []) 33 49 hU rfl rfl ?_
       refine go_ ?_
       refine ch_n fun hU => ?_
       refine cg_ rfl hg (fun h24 hg => ?_) fun h24 hg => ?_
       ·refine awp_seq ?_
        refine awp_region (sys _ _ [57]) 49 81 hU rfl rfl ?_
        refine go_ ?_
        refine ch_z (rd := []) rfl rfl (r_buildFull sl22 z3 (by decide) rfl rfl rfl rfl ck3 (cs := [.int .i64 128, .int .i64 40]) (.cons .int (.cons .int .nil)) rfl (l := ([128, 40] : List Int)) (f := eI) rfl) rfl rfl rfl ?_
        obtain ⟨y_5, hy_5, hg⟩ := bind_some hg
        refine cb_ [0] [0] [] false (w_make_Dice_Of _ _ _ hy_5) ?_
        refine go_ ?_
        refine ch_n fun hU => ?_
        refine aw_r ?_
        obtain rfl := Option.some.inj hg
        exact fin_ [(0, 0)] ⟨rfl, rfl⟩
       ·refine awp_seq ?_
        refine awp_region (sys _ _ []) 49 65 hU rfl rfl ?_
        refine go_ ?_
        refine ch_n fun hU => ?_
        refine cg_ rfl hg (fun h27 hg => ?_) fun h27 hg => ?_
        ·refine awp_seq ?_
         refine awp_region (sys _ _ [73]) 65 97 hU rfl rfl ?_
         refine go_ ?_
         refine ch_z (rd := []) rfl rfl (r_buildFull sl22 z3 (by decide) rfl rfl rfl rfl ck3 (cs := [.int .i64 168, .int .i64 112]) (.cons .int (.cons .int .nil)) rfl (l := ([168, 112] : List Int)) (f := eI) rfl) rfl rfl rfl ?_
         obtain ⟨y_6, hy_6, hg⟩ := bind_some hg
         refine cb_ [0] [0] [] false (w_make_Dice_Of _ _ _ hy_6) ?_
         refine go_ ?_
         refine ch_n fun hU => ?_
         refine aw_r ?_
         obtain rfl := Option.some.inj hg
         exact fin_ [(0, 0)] ⟨rfl, rfl⟩
        ·refine awp_cut (ι := Bool) (fun (x40_3 : Bool) => mk [(0, .ptr 0 0), (40, .val (.bool x40_3))] [(0, .box [.sl 1 (encL eI d.L), .val (.int .i64 d.At)] 60)] 1) (fun (x40_3 : Bool) => g_make_size.j3 d x40_3 = some r) ?_ ?_
         ·refine awp_seq ?_
          refine awp_region (sys _ _ []) 65 81 hU rfl rfl ?_
          refine go_ ?_
          refine ch_n fun hU => ?_
          refine cg_ rfl hg (fun h30 hg => ?_) fun h30 hg => ?_
          ·refine awp_skip ?_
           repeat first | refine st_ ?_ | refine sn_ ?_
           exact ⟨decide (a = 16), hg, sub_ [(0, 0)]⟩
          ·refine awp_region (sys _ _ []) 81 97 hU rfl rfl ?_
           refine go_ ?_
           refine ch_n fun hU => ?_
           exact ⟨decide (a = 17), hg, sub_ [(0, 0)]⟩
         ·rintro x40_3 hg
          replace hg : g_make_size.j3 d x40_3 = some r := hg
          show awp _ _ _ _ (mk _ _ _)
          unfold g_make_size.j3 at hg
          refine cg_ rfl hg (fun h32 hg => ?_) fun h32 hg => ?_
          ·refine awp_seq ?_
           refine awp_region (sys _ _ [9]) 1 33 mk_U rfl rfl ?_
           refine go_ ?_
           refine ch_z (rd := []) rfl rfl (r_buildFull sl22 z3 (by decide) rfl rfl rfl rfl ck3 (cs := [.int .i64 128, .int .i64 256]) (.cons .int (.cons .int .nil)) rfl (l := ([128, 256] : List Int)) (f := eI) rfl) rfl rfl rfl ?_
           obtain ⟨y_7, hy_7, hg⟩ := bind_some hg
           refine cb_ [0] [0] [] false (w_make_Dice_Of _ _ _ hy_7) ?_
           refine go_ ?_
           refine ch_n fun hU => ?_
           refine aw_r ?_
           obtain rfl := Option.some.inj hg
           exact fin_ [(0, 0)] ⟨rfl, rfl⟩
          ·refine awp_skip ?_
           repeat first | refine st_ ?_ | refine sn_ ?_
           refine sr_ 1 9 mk_U ?_
           refine go_ ?_
           refine ch_n fun hU => ?_
           refine aw_r ?_
           obtain rfl := Option.some.inj hg
           exact fin_ [(0, 0)] ⟨rfl, rfl⟩
end Go.Proofs.YtbeageaekgccgaaGreat
