/- The program computes the plain functions. -/
import Derived.Test.YtlcfdnjokgbccaaT1
set_option linter.unusedVariables false
set_option linter.unusedSimpArgs false
set_option maxRecDepth 100000
set_option maxHeartbeats 1600000
namespace Go.Proofs.Ytlcfdnjokgbccaa
open Go.RowKit
theorem w_slices_Clone_string (s : (List ByteArray)) (r : (List ByteArray)) (hg : g_slices_Clone_string s = some r) : Fn Try.prog 13 0 [.sl 1 (encL eS s)] [] (fun d b => d = .sl 1 (encL eS r) ∧ b = []) := by
 unfold g_slices_Clone_string at hg
 refine Fn.of Try.func13 rfl rfl rfl fun w0 I ρ0 => ?_
 show awp _ ⟨w0, I, ρ0, 0, 0, 8⟩ _ _ _
 refine sr_ 0 8 mk_U ?_
 refine c0_ rfl rfl .assign rfl rfl ?_
 refine ch_n fun hU8_1 => ?_
 refine awp_seq ?_
 refine awp_cut (ι := Bool) (fun (x4_1 : Bool) => mk [(0, .sl 1 (encL eS s)), (4, .val (.bool x4_1))] [] 0) (fun (x4_1 : Bool) => g_slices_Clone_string.j1 s x4_1 = some r) ?_ ?_
 ·refine awp_region (sys _ _ []) 8 24 hU8_1 rfl rfl ?_
  refine c0_ rfl rfl .move rfl rfl ?_
  refine ch_nilE rfl rfl ⟨_, und29⟩ rfl ?_
  intro bz hz2
  rcases bz with _ | _
  ·replace hg := nilC_f hg
   refine ch_n fun hU24_4 => ?_
   exact ⟨false, hg, Sub.lists [] rfl rfl ⟨⟨_, rfl, .sl _ _⟩, ⟨_, rfl, .val _⟩, trivial⟩ trivial⟩
  ·replace hg := nilC_t ((nil_of_enc eS_len (by decide) (hz2 rfl))) hg
   refine ch_n fun hU24_3 => ?_
   exact ⟨true, hg, Sub.lists [] rfl rfl ⟨⟨_, rfl, .sl _ _⟩, ⟨_, rfl, .val _⟩, trivial⟩ trivial⟩
 ·rintro x4_1 hg
  replace hg : g_slices_Clone_string.j1 s x4_1 = some r := hg
  show awp _ _ _ _ (mk _ _ _)
  unfold g_slices_Clone_string.j1 at hg
  refine awp_cond rfl (fun h5 => ?_) (fun h5 => ?_)
  ·replace hg := cond_t h5 hg
   refine sr_ 0 8 mk_U ?_
   refine c0_ rfl rfl .assign rfl rfl ?_
   refine ch_n fun hU8_6 => ?_
   refine aw_r ?_
   obtain rfl := Option.some.inj hg
   exact ⟨[_], _, [], [], .cons (.tmp rfl) .nil, ⟨rfl, rfl⟩, .nils _, trivial, rfl, rfl, rfl, rfl⟩
  ·replace hg := cond_f h5 hg
   refine aw_s ?_
   refine sr_ 0 32 mk_U ?_
   refine c0_ rfl rfl (r_buildFull sl29 z9 (by decide) rfl rfl rfl rfl ck9 (cs := []) .nil rfl (l := ([] : List ByteArray)) (f := eS) rfl) rfl rfl ?_
   refine c0_ rfl rfl .move rfl rfl ?_
   obtain ⟨l, hl, hg⟩ := bind_some hg
   refine ch_s (rd := [0]) rfl rfl (r_append sl29 eS_len .row rfl .sl rfl hl rfl) rfl rfl ?_
   refine c0_ rfl rfl .assign rfl rfl ?_
   refine ch_n fun hU32_7 => ?_
   refine aw_r ?_
   obtain rfl := Option.some.inj hg
   exact ⟨[_], _, [], [], .cons (.tmp rfl) .nil, ⟨rfl, rfl⟩, .frz rfl (look_ne rfl), trivial, rfl, rfl, rfl, rfl⟩
theorem w_catalog_Named (s : ByteArray) (r : Bool) (hg : g_catalog_Named s = some r) : Fn Try.prog 23 0 [.val (.string s)] [] (fun d b => d = .val (.bool r) ∧ b = []) := by
 unfold g_catalog_Named at hg
 refine Fn.of Try.func23 rfl rfl rfl fun w0 I ρ0 => ?_
 show awp _ ⟨w0, I, ρ0, 0, 0, 27⟩ _ _ _
 refine sr_ 0 8 mk_U ?_
 refine c0_ rfl rfl .assign rfl rfl ?_
 refine ch_n fun hU8_1 => ?_
 refine awp_seq ?_
 refine sr_ 8 40 hU8_1 ?_
 refine c0_ rfl rfl .move rfl rfl ?_
 refine c0_ rfl rfl (r_convB und9 und22 und5) rfl rfl ?_
 refine c0_ rfl rfl (r_lenS sl22 e8_len) rfl rfl ?_
 refine c0_ rfl rfl .move rfl rfl ?_
 refine ch_n fun hU40_2 => ?_
 refine awp_block ?_
 obtain ⟨n1, hg⟩ := loop_some hg
 refine awp_loop (ι := (Int) × Nat) (fun ((x8_1, _) : (Int) × Nat) => mk [(0, .val (.string s)), (6, .sl 1 (encL e8 (toB s))), (7, .val (.int .i64 ((toB s).length : Int))), (8, .val (.int .i64 x8_1))] [] 0) (fun ((x8_1, nq') : (Int) × Nat) => iter (fun q' => g_catalog_Named.l1 s q') nq' x8_1 = some r) (fun q => q.2) (0, n1) (Sub.lists [] rfl rfl ⟨⟨_, rfl, .val _⟩, ⟨_, rfl, .sl _ _⟩, ⟨_, rfl, .val _⟩, ⟨_, rfl, .val _⟩, trivial⟩ trivial) hg ?_
 rintro ⟨x8_1, n1⟩ hg
 obtain ⟨m1, o1, rfl, hg, hn1⟩ := iter_some (show iter (fun q' => g_catalog_Named.l1 s q') n1 x8_1 = some r from hg)
 replace hg : g_catalog_Named.l1 s x8_1 = some o1 := hg
 show awp _ _ _ _ (mk _ _ _)
 unfold g_catalog_Named.l1 at hg
 refine sr_ 0 8 mk_U ?_
 refine c0_ rfl rfl r_lss rfl rfl ?_
 refine ch_n fun hU8_3 => ?_
 refine awp_seq ?_
 refine awp_cond rfl (fun h4 => ?_) (fun h4 => ?_)
 ·replace hg := cond_t h4 hg
  refine aw_s ?_
  refine awp_seq ?_
  refine awp_block ?_
  refine sr_ 8 32 hU8_3 ?_
  obtain ⟨e, he, hg⟩ := bind_some hg
  refine c0_ rfl rfl (r_idxS sl22 e8_len (getI_ix he) (getI_at he)) rfl rfl ?_
  refine c0_ rfl rfl (r_loadE1 ty5 (enc_cell e8_len (getI_at he) (o := 0) (c := .int .u8 (e.toNat : Int)) rfl rfl)) rfl rfl ?_
  refine c0_ rfl rfl .assign rfl rfl ?_
  refine ch_n fun hU32_5 => ?_
  refine awp_cut (ι := Bool) (fun (x17_2 : Bool) => mk [(0, .val (.string s)), (6, .sl 1 (encL e8 (toB s))), (7, .val (.int .i64 ((toB s).length : Int))), (8, .val (.int .i64 x8_1)), (17, .val (.bool x17_2))] [] 0) (fun (x17_2 : Bool) => g_catalog_Named.j2 x8_1 x17_2 = some o1) ?_ ?_
  ·refine awp_region (sys _ _ []) 32 80 hU32_5 rfl rfl ?_
   refine c0_ rfl rfl .move rfl rfl ?_
   refine c0_ rfl rfl r_leq rfl rfl ?_
   refine c0_ rfl rfl .move rfl rfl ?_
   rcases Bool.eq_false_or_eq_true (decide ((e.toNat : Int) ≤ 32)) with h6 | h6
   ·replace hg := cond_t h6 hg
    refine ch_skip (gdv_f rfl rfl h6) rfl ?_
    refine ch_skip (gdv_f rfl rfl h6) rfl ?_
    refine c0_ rfl rfl (r_pickT h6) rfl rfl ?_
    refine ch_n fun hU80_7 => ?_
    exact ⟨true, hg, Sub.lists [] rfl rfl ⟨⟨_, rfl, .val _⟩, ⟨_, rfl, .sl _ _⟩, ⟨_, rfl, .val _⟩, ⟨_, rfl, .val _⟩, ⟨_, rfl, .val _⟩, trivial⟩ trivial⟩
   ·replace hg := cond_f h6 hg
    refine c0_ (gdv_t rfl rfl h6) rfl .move rfl rfl ?_
    refine c0_ (gdv_t rfl rfl h6) rfl r_gtr rfl rfl ?_
    refine c0_ rfl rfl (r_pickF h6) rfl rfl ?_
    refine ch_n fun hU80_8 => ?_
    exact ⟨decide (126 < (e.toNat : Int)), hg, Sub.lists [] rfl rfl ⟨⟨_, rfl, .val _⟩, ⟨_, rfl, .sl _ _⟩, ⟨_, rfl, .val _⟩, ⟨_, rfl, .val _⟩, ⟨_, rfl, .val _⟩, trivial⟩ trivial⟩
  ·rintro x17_2 hg
   replace hg : g_catalog_Named.j2 x8_1 x17_2 = some o1 := hg
   show awp _ _ _ _ (mk _ _ _)
   unfold g_catalog_Named.j2 at hg
   refine awp_cond rfl (fun h9 => ?_) (fun h9 => ?_)
   ·replace hg := cond_t h9 hg
    refine sr_ 0 8 mk_U ?_
    refine c0_ rfl rfl .assign rfl rfl ?_
    refine ch_n fun hU8_10 => ?_
    refine aw_r ?_
    replace hg := leave hg hn1
    obtain rfl := Option.some.inj hg
    exact ⟨[_], _, [], [], .cons (.tmp rfl) .nil, ⟨rfl, rfl⟩, .val _, trivial, rfl, rfl, rfl, rfl⟩
   ·replace hg := cond_f h9 hg
    refine aw_s ?_
    refine awp_region (sys _ _ []) 0 16 mk_U rfl rfl ?_
    refine c0_ rfl rfl r_add rfl rfl ?_
    refine c0_ rfl rfl .move rfl rfl ?_
    refine ch_n fun hU16_11 => ?_
    obtain rfl := Option.some.inj hg
    exact ⟨(W (x8_1 + 1), m1), Nat.lt_succ_self _, hn1, Sub.lists [] rfl rfl ⟨⟨_, rfl, .val _⟩, ⟨_, rfl, .sl _ _⟩, ⟨_, rfl, .val _⟩, ⟨_, rfl, .val _⟩, trivial⟩ trivial⟩
 ·replace hg := cond_f h4 hg
  refine awp_exit ?_
  repeat first | refine st_ ?_ | refine sn_ ?_
  replace hg := leave hg hn1
  refine sr_ 8 80 hU8_3 ?_
  refine c0_ rfl rfl .move rfl rfl ?_
  refine c0_ rfl rfl (r_lenT und9) rfl rfl ?_
  refine c0_ rfl rfl r_geq rfl rfl ?_
  refine c0_ rfl rfl .move rfl rfl ?_
  rcases Bool.eq_false_or_eq_true (decide (1 ≤ (s.size : Int))) with h12 | h12
  ·replace hg := cond_t h12 hg
   refine c0_ (gdv_t rfl rfl h12) rfl .move rfl rfl ?_
   refine c0_ (gdv_t rfl rfl h12) rfl (r_lenT und9) rfl rfl ?_
   refine c0_ (gdv_t rfl rfl h12) rfl r_leq rfl rfl ?_
   refine c0_ rfl rfl (r_pickT h12) rfl rfl ?_
   refine c0_ rfl rfl .assign rfl rfl ?_
   refine ch_n fun hU80_13 => ?_
   refine aw_r ?_
   obtain rfl := Option.some.inj hg
   exact ⟨[_], _, [], [], .cons (.tmp rfl) .nil, ⟨rfl, rfl⟩, .val _, trivial, rfl, rfl, rfl, rfl⟩
  ·replace hg := cond_f h12 hg
   iterate 3 refine ch_skip (gdv_f rfl rfl h12) rfl ?_
   refine c0_ rfl rfl (r_pickF h12) rfl rfl ?_
   refine c0_ rfl rfl .assign rfl rfl ?_
   refine ch_n fun hU80_14 => ?_
   refine aw_r ?_
   obtain rfl := Option.some.inj hg
   exact ⟨[_], _, [], [], .cons (.tmp rfl) .nil, ⟨rfl, rfl⟩, .val _, trivial, rfl, rfl, rfl, rfl⟩
theorem w_certificate_named (l : (List ByteArray)) (r : Bool) (hg : g_certificate_named l = some r) : Fn Try.prog 24 0 [.sl 1 (encL eS l)] [] (fun d b => d = .val (.bool r) ∧ b = []) := by
 unfold g_certificate_named at hg
 refine Fn.of Try.func24 rfl rfl rfl fun w0 I ρ0 => ?_
 show awp _ ⟨w0, I, ρ0, 0, 0, 32⟩ _ _ _
 refine sr_ 0 8 mk_U ?_
 refine c0_ rfl rfl .assign rfl rfl ?_
 refine ch_n fun hU8_1 => ?_
 refine awp_seq ?_
 refine sr_ 8 32 hU8_1 ?_
 refine c0_ rfl rfl .move rfl rfl ?_
 refine c0_ rfl rfl (r_lenS sl29 eS_len) rfl rfl ?_
 refine c0_ rfl rfl .move rfl rfl ?_
 refine ch_n fun hU32_2 => ?_
 refine awp_block ?_
 obtain ⟨n1, hg⟩ := loop_some hg
 refine awp_loop (ι := (Int) × Nat) (fun ((x7_1, _) : (Int) × Nat) => mk [(0, .sl 1 (encL eS l)), (5, .sl 1 (encL eS l)), (6, .val (.int .i64 (l.length : Int))), (7, .val (.int .i64 x7_1))] [] 0) (fun ((x7_1, nq') : (Int) × Nat) => iter (fun q' => g_certificate_named.l1 l q') nq' x7_1 = some r) (fun q => q.2) (0, n1) (Sub.lists [] rfl rfl ⟨⟨_, rfl, .sl _ _⟩, ⟨_, rfl, .sl _ _⟩, ⟨_, rfl, .val _⟩, ⟨_, rfl, .val _⟩, trivial⟩ trivial) hg ?_
 rintro ⟨x7_1, n1⟩ hg
 obtain ⟨m1, o1, rfl, hg, hn1⟩ := iter_some (show iter (fun q' => g_certificate_named.l1 l q') n1 x7_1 = some r from hg)
 replace hg : g_certificate_named.l1 l x7_1 = some o1 := hg
 show awp _ _ _ _ (mk _ _ _)
 unfold g_certificate_named.l1 at hg
 refine sr_ 0 8 mk_U ?_
 refine c0_ rfl rfl r_lss rfl rfl ?_
 refine ch_n fun hU8_3 => ?_
 refine awp_seq ?_
 refine awp_cond rfl (fun h4 => ?_) (fun h4 => ?_)
 ·replace hg := cond_t h4 hg
  refine aw_s ?_
  refine awp_seq ?_
  refine awp_block ?_
  refine sr_ 8 48 hU8_3 ?_
  refine c0_ rfl rfl .move rfl rfl ?_
  obtain ⟨e, he, hg⟩ := bind_some hg
  refine c0_ rfl rfl (r_idxS sl29 eS_len (getI_ix he) (getI_at he)) rfl rfl ?_
  refine c0_ rfl rfl (r_loadE1 ty9 (enc_cell eS_len (getI_at he) (o := 0) (c := .str e) rfl rfl)) rfl rfl ?_
  refine c0_ rfl rfl .assign rfl rfl ?_
  refine c0_ rfl rfl .assign rfl rfl ?_
  refine ch_n fun hU48_5 => ?_
  refine awp_cut (ι := Bool) (fun (x27_2 : Bool) => mk [(0, .sl 1 (encL eS l)), (5, .sl 1 (encL eS l)), (6, .val (.int .i64 (l.length : Int))), (7, .val (.int .i64 x7_1)), (27, .val (.bool x27_2))] [] 0) (fun (x27_2 : Bool) => g_certificate_named.j2 x7_1 x27_2 = some o1) ?_ ?_
  ·refine awp_region (sys _ _ []) 48 176 hU48_5 rfl rfl ?_
   refine c0_ rfl rfl .move rfl rfl ?_
   obtain ⟨y, hy, hg⟩ := bind_some hg
   refine ch_callP (rd := []) (ps := []) (gs := []) false rfl (w_catalog_Named e _ hy) rfl rfl (.cons .val .nil) rfl rfl (by intro h; cases h) rfl rfl rfl rfl ?_
   refine c0_ rfl rfl r_not rfl rfl ?_
   refine c0_ rfl rfl .move rfl rfl ?_
   rcases Bool.eq_false_or_eq_true (!y) with h6 | h6
   ·replace hg := cond_t h6 hg
    iterate 3 refine ch_skip (gdv_f rfl rfl h6) rfl ?_
    iterate 7 refine ch_skip rfl rfl ?_
    refine ch_skip (gdv_f rfl rfl h6) rfl ?_
    refine c0_ rfl rfl (r_pickT h6) rfl rfl ?_
    refine ch_n fun hU176_7 => ?_
    exact ⟨true, hg, Sub.lists [] rfl rfl ⟨⟨_, rfl, .sl _ _⟩, ⟨_, rfl, .sl _ _⟩, ⟨_, rfl, .val _⟩, ⟨_, rfl, .val _⟩, ⟨_, rfl, .val _⟩, trivial⟩ trivial⟩
   ·replace hg := cond_f h6 hg
    refine c0_ (gdv_t rfl rfl h6) rfl .move rfl rfl ?_
    refine c0_ (gdv_t rfl rfl h6) rfl r_gtr rfl rfl ?_
    refine c0_ (gdv_t rfl rfl h6) rfl .move rfl rfl ?_
    rcases Bool.eq_false_or_eq_true (decide (0 < x7_1)) with h8 | h8
    ·replace hg := cond_t h8 hg
     refine c0_ (gdv_t rfl rfl h8) rfl .move rfl rfl ?_
     refine c0_ (gdv_t rfl rfl h8) rfl .move rfl rfl ?_
     refine c0_ (gdv_t rfl rfl h8) rfl r_sub rfl rfl ?_
     obtain ⟨e_2, he_2, hg⟩ := bind_some hg
     refine c0_ (gdv_t rfl rfl h8) rfl (r_idxS sl29 eS_len (getI_ix he_2) (getI_at he_2)) rfl rfl ?_
     refine c0_ (gdv_t rfl rfl h8) rfl (r_loadE1 ty9 (enc_cell eS_len (getI_at he_2) (o := 0) (c := .str e_2) rfl rfl)) rfl rfl ?_
     refine c0_ (gdv_t rfl rfl h8) rfl .move rfl rfl ?_
     refine c0_ (gdv_t rfl rfl h8) rfl r_sgeq rfl rfl ?_
     refine c0_ (gdv_t rfl rfl h6) rfl (r_pickT h8) rfl rfl ?_
     refine c0_ rfl rfl (r_pickF h6) rfl rfl ?_
     refine ch_n fun hU176_9 => ?_
     exact ⟨!ltT (toB e_2) (toB e), hg, Sub.lists [] rfl rfl ⟨⟨_, rfl, .sl _ _⟩, ⟨_, rfl, .sl _ _⟩, ⟨_, rfl, .val _⟩, ⟨_, rfl, .val _⟩, ⟨_, rfl, .val _⟩, trivial⟩ trivial⟩
    ·replace hg := cond_f h8 hg
     iterate 7 refine ch_skip (gdv_f rfl rfl h8) rfl ?_
     refine c0_ (gdv_t rfl rfl h6) rfl (r_pickF h8) rfl rfl ?_
     refine c0_ rfl rfl (r_pickF h6) rfl rfl ?_
     refine ch_n fun hU176_10 => ?_
     exact ⟨false, hg, Sub.lists [] rfl rfl ⟨⟨_, rfl, .sl _ _⟩, ⟨_, rfl, .sl _ _⟩, ⟨_, rfl, .val _⟩, ⟨_, rfl, .val _⟩, ⟨_, rfl, .val _⟩, trivial⟩ trivial⟩
  ·rintro x27_2 hg
   replace hg : g_certificate_named.j2 x7_1 x27_2 = some o1 := hg
   show awp _ _ _ _ (mk _ _ _)
   unfold g_certificate_named.j2 at hg
   refine awp_cond rfl (fun h11 => ?_) (fun h11 => ?_)
   ·replace hg := cond_t h11 hg
    refine sr_ 0 8 mk_U ?_
    refine c0_ rfl rfl .assign rfl rfl ?_
    refine ch_n fun hU8_12 => ?_
    refine aw_r ?_
    replace hg := leave hg hn1
    obtain rfl := Option.some.inj hg
    exact ⟨[_], _, [], [], .cons (.tmp rfl) .nil, ⟨rfl, rfl⟩, .val _, trivial, rfl, rfl, rfl, rfl⟩
   ·replace hg := cond_f h11 hg
    refine aw_s ?_
    refine awp_region (sys _ _ []) 0 16 mk_U rfl rfl ?_
    refine c0_ rfl rfl r_add rfl rfl ?_
    refine c0_ rfl rfl .move rfl rfl ?_
    refine ch_n fun hU16_13 => ?_
    obtain rfl := Option.some.inj hg
    exact ⟨(W (x7_1 + 1), m1), Nat.lt_succ_self _, hn1, Sub.lists [] rfl rfl ⟨⟨_, rfl, .sl _ _⟩, ⟨_, rfl, .sl _ _⟩, ⟨_, rfl, .val _⟩, ⟨_, rfl, .val _⟩, trivial⟩ trivial⟩
 ·replace hg := cond_f h4 hg
  refine awp_exit ?_
  repeat first | refine st_ ?_ | refine sn_ ?_
  replace hg := leave hg hn1
  refine sr_ 8 40 hU8_3 ?_
  refine c0_ rfl rfl .move rfl rfl ?_
  refine c0_ rfl rfl (r_lenS sl29 eS_len) rfl rfl ?_
  refine c0_ rfl rfl r_leq rfl rfl ?_
  refine c0_ rfl rfl .assign rfl rfl ?_
  refine ch_n fun hU40_14 => ?_
  refine aw_r ?_
  obtain rfl := Option.some.inj hg
  exact ⟨[_], _, [], [], .cons (.tmp rfl) .nil, ⟨rfl, rfl⟩, .val _, trivial, rfl, rfl, rfl, rfl⟩
theorem w_catalog_rows  (r : (List catalog_row)) (hg : g_catalog_rows = some r) : Fn Try.prog 78 0 [] [] (fun d b => d = .agg [.val (.string ((r[0]!).name)), .val (.int .i64 ((r[0]!).kind)), .val (.int .i64 ((r[0]!).way)), .sl 1 (encL eI ((r[0]!).sizes)), .sl 1 (encL eI ((r[0]!).strengths)), .val (.string ((r[1]!).name)), .val (.int .i64 ((r[1]!).kind)), .val (.int .i64 ((r[1]!).way)), .sl 1 (encL eI ((r[1]!).sizes)), .sl 1 (encL eI ((r[1]!).strengths)), .val (.string ((r[2]!).name)), .val (.int .i64 ((r[2]!).kind)), .val (.int .i64 ((r[2]!).way)), .sl 1 (encL eI ((r[2]!).sizes)), .sl 1 (encL eI ((r[2]!).strengths)), .val (.string ((r[3]!).name)), .val (.int .i64 ((r[3]!).kind)), .val (.int .i64 ((r[3]!).way)), .sl 1 (encL eI ((r[3]!).sizes)), .sl 1 (encL eI ((r[3]!).strengths)), .val (.string ((r[4]!).name)), .val (.int .i64 ((r[4]!).kind)), .val (.int .i64 ((r[4]!).way)), .sl 1 (encL eI ((r[4]!).sizes)), .sl 1 (encL eI ((r[4]!).strengths)), .val (.string ((r[5]!).name)), .val (.int .i64 ((r[5]!).kind)), .val (.int .i64 ((r[5]!).way)), .sl 1 (encL eI ((r[5]!).sizes)), .sl 1 (encL eI ((r[5]!).strengths)), .val (.string ((r[6]!).name)), .val (.int .i64 ((r[6]!).kind)), .val (.int .i64 ((r[6]!).way)), .sl 1 (encL eI ((r[6]!).sizes)), .sl 1 (encL eI ((r[6]!).strengths)), .val (.string ((r[7]!).name)), .val (.int .i64 ((r[7]!).kind)), .val (.int .i64 ((r[7]!).way)), .sl 1 (encL eI ((r[7]!).sizes)), .sl 1 (encL eI ((r[7]!).strengths)), .val (.string ((r[8]!).name)), .val (.int .i64 ((r[8]!).kind)), .val (.int .i64 ((r[8]!).way)), .sl 1 (encL eI ((r[8]!).sizes)), .sl 1 (encL eI ((r[8]!).strengths)), .val (.string ((r[9]!).name)), .val (.int .i64 ((r[9]!).kind)), .val (.int .i64 ((r[9]!).way)), .sl 1 (encL eI ((r[9]!).sizes)), .sl 1 (encL eI ((r[9]!).strengths)), .val (.string ((r[10]!).name)), .val (.int .i64 ((r[10]!).kind)), .val (.int .i64 ((r[10]!).way)), .sl 1 (encL eI ((r[10]!).sizes)), .sl 1 (encL eI ((r[10]!).strengths)), .val (.string ((r[11]!).name)), .val (.int .i64 ((r[11]!).kind)), .val (.int .i64 ((r[11]!).way)), .sl 1 (encL eI ((r[11]!).sizes)), .sl 1 (encL eI ((r[11]!).strengths)), .val (.string ((r[12]!).name)), .val (.int .i64 ((r[12]!).kind)), .val (.int .i64 ((r[12]!).way)), .sl 1 (encL eI ((r[12]!).sizes)), .sl 1 (encL eI ((r[12]!).strengths)), .val (.string ((r[13]!).name)), .val (.int .i64 ((r[13]!).kind)), .val (.int .i64 ((r[13]!).way)), .sl 1 (encL eI ((r[13]!).sizes)), .sl 1 (encL eI ((r[13]!).strengths)), .val (.string ((r[14]!).name)), .val (.int .i64 ((r[14]!).kind)), .val (.int .i64 ((r[14]!).way)), .sl 1 (encL eI ((r[14]!).sizes)), .sl 1 (encL eI ((r[14]!).strengths)), .val (.string ((r[15]!).name)), .val (.int .i64 ((r[15]!).kind)), .val (.int .i64 ((r[15]!).way)), .sl 1 (encL eI ((r[15]!).sizes)), .sl 1 (encL eI ((r[15]!).strengths)), .val (.string ((r[16]!).name)), .val (.int .i64 ((r[16]!).kind)), .val (.int .i64 ((r[16]!).way)), .sl 1 (encL eI ((r[16]!).sizes)), .sl 1 (encL eI ((r[16]!).strengths)), .val (.string ((r[17]!).name)), .val (.int .i64 ((r[17]!).kind)), .val (.int .i64 ((r[17]!).way)), .sl 1 (encL eI ((r[17]!).sizes)), .sl 1 (encL eI ((r[17]!).strengths)), .val (.string ((r[18]!).name)), .val (.int .i64 ((r[18]!).kind)), .val (.int .i64 ((r[18]!).way)), .sl 1 (encL eI ((r[18]!).sizes)), .sl 1 (encL eI ((r[18]!).strengths)), .val (.string ((r[19]!).name)), .val (.int .i64 ((r[19]!).kind)), .val (.int .i64 ((r[19]!).way)), .sl 1 (encL eI ((r[19]!).sizes)), .sl 1 (encL eI ((r[19]!).strengths)), .val (.string ((r[20]!).name)), .val (.int .i64 ((r[20]!).kind)), .val (.int .i64 ((r[20]!).way)), .sl 1 (encL eI ((r[20]!).sizes)), .sl 1 (encL eI ((r[20]!).strengths)), .val (.string ((r[21]!).name)), .val (.int .i64 ((r[21]!).kind)), .val (.int .i64 ((r[21]!).way)), .sl 1 (encL eI ((r[21]!).sizes)), .sl 1 (encL eI ((r[21]!).strengths)), .val (.string ((r[22]!).name)), .val (.int .i64 ((r[22]!).kind)), .val (.int .i64 ((r[22]!).way)), .sl 1 (encL eI ((r[22]!).sizes)), .sl 1 (encL eI ((r[22]!).strengths))] ∧ b = []) := by
 unfold g_catalog_rows at hg
 refine Fn.of Try.func78 rfl rfl rfl fun w0 I ρ0 => ?_
 show awp _ ⟨w0, I, ρ0, 0, 0, 46⟩ _ _ _
 refine sr_ 0 8 mk_U ?_
 refine c0_ rfl rfl (.alloc z115) rfl rfl ?_
 refine ch_n fun hU8_1 => ?_
 refine sr_ 8 376 hU8_1 ?_
 refine c0_ rfl rfl (r_buildFull sl102 z3 (by decide) rfl rfl rfl rfl ck3 (cs := [.int .i64 18]) (.cons .int .nil) rfl (l := ([18] : List Int)) (f := eI) rfl) rfl rfl ?_
 refine c0_ rfl rfl (.build (r := [.val (.string (⟨#[109, 100, 53]⟩ : ByteArray)), .val (.int .i64 1), .val (.int .i64 0), .val (.slice none 0 0), .row 8]) und104 pl104 z104 (by kernel_rfl) rfl) rfl rfl ?_
 refine c0_ rfl rfl (r_buildFull sl102 z3 (by decide) rfl rfl rfl rfl ck3 (cs := [.int .i64 60]) (.cons .int .nil) rfl (l := ([60] : List Int)) (f := eI) rfl) rfl rfl ?_
 refine c0_ rfl rfl (.build (r := [.val (.string (⟨#[115, 104, 97, 49]⟩ : ByteArray)), .val (.int .i64 1), .val (.int .i64 0), .val (.slice none 0 0), .row 24]) und104 pl104 z104 (by kernel_rfl) rfl) rfl rfl ?_
 refine c0_ rfl rfl (r_buildFull sl102 z3 (by decide) rfl rfl rfl rfl ck3 (cs := [.int .i64 128]) (.cons .int .nil) rfl (l := ([128] : List Int)) (f := eI) rfl) rfl rfl ?_
 refine c0_ rfl rfl (.build (r := [.val (.string (⟨#[115, 104, 97, 50, 53, 54]⟩ : ByteArray)), .val (.int .i64 1), .val (.int .i64 0), .val (.slice none 0 0), .row 40]) und104 pl104 z104 (by kernel_rfl) rfl) rfl rfl ?_
 refine c0_ rfl rfl (r_buildFull sl102 z3 (by decide) rfl rfl rfl rfl ck3 (cs := [.int .i64 192]) (.cons .int .nil) rfl (l := ([192] : List Int)) (f := eI) rfl) rfl rfl ?_
 refine c0_ rfl rfl (.build (r := [.val (.string (⟨#[115, 104, 97, 51, 56, 52]⟩ : ByteArray)), .val (.int .i64 1), .val (.int .i64 0), .val (.slice none 0 0), .row 56]) und104 pl104 z104 (by kernel_rfl) rfl) rfl rfl ?_
 refine c0_ rfl rfl (.build (r := [.val (.string (⟨#[114, 115, 97]⟩ : ByteArray)), .val (.int .i64 2), .val (.int .i64 1), .val (.slice none 0 0), .val (.slice none 0 0)]) und104 pl104 z104 (by kernel_rfl) rfl) rfl rfl ?_
 refine c0_ rfl rfl (.build (r := [.val (.string (⟨#[100, 115, 97]⟩ : ByteArray)), .val (.int .i64 2), .val (.int .i64 1), .val (.slice none 0 0), .val (.slice none 0 0)]) und104 pl104 z104 (by kernel_rfl) rfl) rfl rfl ?_
 refine c0_ rfl rfl (.build (r := [.val (.string (⟨#[101, 99, 100, 115, 97]⟩ : ByteArray)), .val (.int .i64 2), .val (.int .i64 2), .val (.slice none 0 0), .val (.slice none 0 0)]) und104 pl104 z104 (by kernel_rfl) rfl) rfl rfl ?_
 refine c0_ rfl rfl (r_buildFull sl102 z3 (by decide) rfl rfl rfl rfl ck3 (cs := [.int .i64 128]) (.cons .int .nil) rfl (l := ([128] : List Int)) (f := eI) rfl) rfl rfl ?_
 refine c0_ rfl rfl (.build (r := [.val (.string (⟨#[101, 100, 50, 53, 53, 49, 57]⟩ : ByteArray)), .val (.int .i64 2), .val (.int .i64 0), .val (.slice none 0 0), .row 96]) und104 pl104 z104 (by kernel_rfl) rfl) rfl rfl ?_
 refine c0_ rfl rfl (r_buildFull sl102 z3 (by decide) rfl rfl rfl rfl ck3 (cs := [.int .i64 44, .int .i64 65, .int .i64 87]) (.cons .int (.cons .int (.cons .int .nil))) rfl (l := ([44, 65, 87] : List Int)) (f := eI) rfl) rfl rfl ?_
 refine c0_ rfl rfl (r_buildFull sl102 z3 (by decide) rfl rfl rfl rfl ck3 (cs := [.int .i64 128, .int .i64 192, .int .i64 256]) (.cons .int (.cons .int (.cons .int .nil))) rfl (l := ([128, 192, 256] : List Int)) (f := eI) rfl) rfl rfl ?_
 refine c0_ rfl rfl (.build (r := [.val (.string (⟨#[109, 108, 100, 115, 97]⟩ : ByteArray)), .val (.int .i64 2), .val (.int .i64 3), .row 112, .row 120]) und104 pl104 z104 (by kernel_rfl) rfl) rfl rfl ?_
 refine c0_ rfl rfl (.build (r := [.val (.string (⟨#[114, 115, 97, 107, 120]⟩ : ByteArray)), .val (.int .i64 3), .val (.int .i64 1), .val (.slice none 0 0), .val (.slice none 0 0)]) und104 pl104 z104 (by kernel_rfl) rfl) rfl rfl ?_
 refine c0_ rfl rfl (.build (r := [.val (.string (⟨#[100, 104, 101]⟩ : ByteArray)), .val (.int .i64 3), .val (.int .i64 1), .val (.slice none 0 0), .val (.slice none 0 0)]) und104 pl104 z104 (by kernel_rfl) rfl) rfl rfl ?_
 refine c0_ rfl rfl (.build (r := [.val (.string (⟨#[101, 99, 100, 104, 101]⟩ : ByteArray)), .val (.int .i64 3), .val (.int .i64 2), .val (.slice none 0 0), .val (.slice none 0 0)]) und104 pl104 z104 (by kernel_rfl) rfl) rfl rfl ?_
 refine c0_ rfl rfl (r_buildFull sl102 z3 (by decide) rfl rfl rfl rfl ck3 (cs := [.int .i64 512, .int .i64 768, .int .i64 1024]) (.cons .int (.cons .int (.cons .int .nil))) rfl (l := ([512, 768, 1024] : List Int)) (f := eI) rfl) rfl rfl ?_
 refine c0_ rfl rfl (r_buildFull sl102 z3 (by decide) rfl rfl rfl rfl ck3 (cs := [.int .i64 128, .int .i64 192, .int .i64 256]) (.cons .int (.cons .int (.cons .int .nil))) rfl (l := ([128, 192, 256] : List Int)) (f := eI) rfl) rfl rfl ?_
 refine c0_ rfl rfl (.build (r := [.val (.string (⟨#[109, 108, 107, 101, 109]⟩ : ByteArray)), .val (.int .i64 3), .val (.int .i64 3), .row 160, .row 168]) und104 pl104 z104 (by kernel_rfl) rfl) rfl rfl ?_
 refine c0_ rfl rfl (r_buildFull sl102 z3 (by decide) rfl rfl rfl rfl ck3 (cs := [.int .i64 40, .int .i64 128]) (.cons .int (.cons .int .nil)) rfl (l := ([40, 128] : List Int)) (f := eI) rfl) rfl rfl ?_
 refine c0_ rfl rfl (r_buildFull sl102 z3 (by decide) rfl rfl rfl rfl ck3 (cs := [.int .i64 40, .int .i64 60]) (.cons .int (.cons .int .nil)) rfl (l := ([40, 60] : List Int)) (f := eI) rfl) rfl rfl ?_
 refine c0_ rfl rfl (.build (r := [.val (.string (⟨#[114, 99, 52]⟩ : ByteArray)), .val (.int .i64 4), .val (.int .i64 3), .row 184, .row 192]) und104 pl104 z104 (by kernel_rfl) rfl) rfl rfl ?_
 refine c0_ rfl rfl (r_buildFull sl102 z3 (by decide) rfl rfl rfl rfl ck3 (cs := [.int .i64 112, .int .i64 168]) (.cons .int (.cons .int .nil)) rfl (l := ([112, 168] : List Int)) (f := eI) rfl) rfl rfl ?_
 refine c0_ rfl rfl (r_buildFull sl102 z3 (by decide) rfl rfl rfl rfl ck3 (cs := [.int .i64 80, .int .i64 112]) (.cons .int (.cons .int .nil)) rfl (l := ([80, 112] : List Int)) (f := eI) rfl) rfl rfl ?_
 refine c0_ rfl rfl (.build (r := [.val (.string (⟨#[100, 101, 115, 51]⟩ : ByteArray)), .val (.int .i64 4), .val (.int .i64 3), .row 208, .row 216]) und104 pl104 z104 (by kernel_rfl) rfl) rfl rfl ?_
 refine c0_ rfl rfl (r_buildFull sl102 z3 (by decide) rfl rfl rfl rfl ck3 (cs := [.int .i64 128, .int .i64 256]) (.cons .int (.cons .int .nil)) rfl (l := ([128, 256] : List Int)) (f := eI) rfl) rfl rfl ?_
 refine c0_ rfl rfl (r_buildFull sl102 z3 (by decide) rfl rfl rfl rfl ck3 (cs := [.int .i64 128, .int .i64 256]) (.cons .int (.cons .int .nil)) rfl (l := ([128, 256] : List Int)) (f := eI) rfl) rfl rfl ?_
 refine c0_ rfl rfl (.build (r := [.val (.string (⟨#[97, 101, 115, 99, 98, 99]⟩ : ByteArray)), .val (.int .i64 4), .val (.int .i64 3), .row 232, .row 240]) und104 pl104 z104 (by kernel_rfl) rfl) rfl rfl ?_
 refine c0_ rfl rfl (r_buildFull sl102 z3 (by decide) rfl rfl rfl rfl ck3 (cs := [.int .i64 128, .int .i64 256]) (.cons .int (.cons .int .nil)) rfl (l := ([128, 256] : List Int)) (f := eI) rfl) rfl rfl ?_
 refine c0_ rfl rfl (r_buildFull sl102 z3 (by decide) rfl rfl rfl rfl ck3 (cs := [.int .i64 128, .int .i64 256]) (.cons .int (.cons .int .nil)) rfl (l := ([128, 256] : List Int)) (f := eI) rfl) rfl rfl ?_
 refine c0_ rfl rfl (.build (r := [.val (.string (⟨#[97, 101, 115, 103, 99, 109]⟩ : ByteArray)), .val (.int .i64 4), .val (.int .i64 3), .row 256, .row 264]) und104 pl104 z104 (by kernel_rfl) rfl) rfl rfl ?_
 refine c0_ rfl rfl (r_buildFull sl102 z3 (by decide) rfl rfl rfl rfl ck3 (cs := [.int .i64 256]) (.cons .int .nil) rfl (l := ([256] : List Int)) (f := eI) rfl) rfl rfl ?_
 refine c0_ rfl rfl (.build (r := [.val (.string (⟨#[99, 104, 97, 99, 104, 97]⟩ : ByteArray)), .val (.int .i64 4), .val (.int .i64 0), .val (.slice none 0 0), .row 280]) und104 pl104 z104 (by kernel_rfl) rfl) rfl rfl ?_
 refine c0_ rfl rfl (r_buildFull sl102 z3 (by decide) rfl rfl rfl rfl ck3 (cs := [.int .i64 64]) (.cons .int .nil) rfl (l := ([64] : List Int)) (f := eI) rfl) rfl rfl ?_
 refine c0_ rfl rfl (.build (r := [.val (.string (⟨#[104, 109, 97, 99, 109, 100, 53]⟩ : ByteArray)), .val (.int .i64 5), .val (.int .i64 0), .val (.slice none 0 0), .row 296]) und104 pl104 z104 (by kernel_rfl) rfl) rfl rfl ?_
 refine c0_ rfl rfl (r_buildFull sl102 z3 (by decide) rfl rfl rfl rfl ck3 (cs := [.int .i64 80]) (.cons .int .nil) rfl (l := ([80] : List Int)) (f := eI) rfl) rfl rfl ?_
 refine c0_ rfl rfl (.build (r := [.val (.string (⟨#[104, 109, 97, 99, 115, 104, 97, 49]⟩ : ByteArray)), .val (.int .i64 5), .val (.int .i64 0), .val (.slice none 0 0), .row 312]) und104 pl104 z104 (by kernel_rfl) rfl) rfl rfl ?_
 refine c0_ rfl rfl (r_buildFull sl102 z3 (by decide) rfl rfl rfl rfl ck3 (cs := [.int .i64 128]) (.cons .int .nil) rfl (l := ([128] : List Int)) (f := eI) rfl) rfl rfl ?_
 refine c0_ rfl rfl (.build (r := [.val (.string (⟨#[104, 109, 97, 99, 115, 104, 97, 50, 53, 54]⟩ : ByteArray)), .val (.int .i64 5), .val (.int .i64 0), .val (.slice none 0 0), .row 328]) und104 pl104 z104 (by kernel_rfl) rfl) rfl rfl ?_
 refine c0_ rfl rfl (r_buildFull sl102 z3 (by decide) rfl rfl rfl rfl ck3 (cs := [.int .i64 256]) (.cons .int .nil) rfl (l := ([256] : List Int)) (f := eI) rfl) rfl rfl ?_
 refine c0_ rfl rfl (.build (r := [.val (.string (⟨#[97, 101, 97, 100]⟩ : ByteArray)), .val (.int .i64 5), .val (.int .i64 0), .val (.slice none 0 0), .row 344]) und104 pl104 z104 (by kernel_rfl) rfl) rfl rfl ?_
 refine c0_ rfl rfl (.buildArr (sz := 5) (r := [.val (.string (⟨#[]⟩ : ByteArray)), .val (.int .i64 0), .val (.int .i64 0), .val (.slice none 0 0), .val (.slice none 0 0), .val (.string (⟨#[109, 100, 53]⟩ : ByteArray)), .val (.int .i64 1), .val (.int .i64 0), .val (.slice none 0 0), .row 8, .val (.string (⟨#[115, 104, 97, 49]⟩ : ByteArray)), .val (.int .i64 1), .val (.int .i64 0), .val (.slice none 0 0), .row 24, .val (.string (⟨#[115, 104, 97, 50, 53, 54]⟩ : ByteArray)), .val (.int .i64 1), .val (.int .i64 0), .val (.slice none 0 0), .row 40, .val (.string (⟨#[115, 104, 97, 51, 56, 52]⟩ : ByteArray)), .val (.int .i64 1), .val (.int .i64 0), .val (.slice none 0 0), .row 56, .val (.string (⟨#[114, 115, 97]⟩ : ByteArray)), .val (.int .i64 2), .val (.int .i64 1), .val (.slice none 0 0), .val (.slice none 0 0), .val (.string (⟨#[100, 115, 97]⟩ : ByteArray)), .val (.int .i64 2), .val (.int .i64 1), .val (.slice none 0 0), .val (.slice none 0 0), .val (.string (⟨#[101, 99, 100, 115, 97]⟩ : ByteArray)), .val (.int .i64 2), .val (.int .i64 2), .val (.slice none 0 0), .val (.slice none 0 0), .val (.string (⟨#[101, 100, 50, 53, 53, 49, 57]⟩ : ByteArray)), .val (.int .i64 2), .val (.int .i64 0), .val (.slice none 0 0), .row 96, .val (.string (⟨#[109, 108, 100, 115, 97]⟩ : ByteArray)), .val (.int .i64 2), .val (.int .i64 3), .row 112, .row 120, .val (.string (⟨#[114, 115, 97, 107, 120]⟩ : ByteArray)), .val (.int .i64 3), .val (.int .i64 1), .val (.slice none 0 0), .val (.slice none 0 0), .val (.string (⟨#[100, 104, 101]⟩ : ByteArray)), .val (.int .i64 3), .val (.int .i64 1), .val (.slice none 0 0), .val (.slice none 0 0), .val (.string (⟨#[101, 99, 100, 104, 101]⟩ : ByteArray)), .val (.int .i64 3), .val (.int .i64 2), .val (.slice none 0 0), .val (.slice none 0 0), .val (.string (⟨#[109, 108, 107, 101, 109]⟩ : ByteArray)), .val (.int .i64 3), .val (.int .i64 3), .row 160, .row 168, .val (.string (⟨#[114, 99, 52]⟩ : ByteArray)), .val (.int .i64 4), .val (.int .i64 3), .row 184, .row 192, .val (.string (⟨#[100, 101, 115, 51]⟩ : ByteArray)), .val (.int .i64 4), .val (.int .i64 3), .row 208, .row 216, .val (.string (⟨#[97, 101, 115, 99, 98, 99]⟩ : ByteArray)), .val (.int .i64 4), .val (.int .i64 3), .row 232, .row 240, .val (.string (⟨#[97, 101, 115, 103, 99, 109]⟩ : ByteArray)), .val (.int .i64 4), .val (.int .i64 3), .row 256, .row 264, .val (.string (⟨#[99, 104, 97, 99, 104, 97]⟩ : ByteArray)), .val (.int .i64 4), .val (.int .i64 0), .val (.slice none 0 0), .row 280, .val (.string (⟨#[104, 109, 97, 99, 109, 100, 53]⟩ : ByteArray)), .val (.int .i64 5), .val (.int .i64 0), .val (.slice none 0 0), .row 296, .val (.string (⟨#[104, 109, 97, 99, 115, 104, 97, 49]⟩ : ByteArray)), .val (.int .i64 5), .val (.int .i64 0), .val (.slice none 0 0), .row 312, .val (.string (⟨#[104, 109, 97, 99, 115, 104, 97, 50, 53, 54]⟩ : ByteArray)), .val (.int .i64 5), .val (.int .i64 0), .val (.slice none 0 0), .row 328, .val (.string (⟨#[97, 101, 97, 100]⟩ : ByteArray)), .val (.int .i64 5), .val (.int .i64 0), .val (.slice none 0 0), .row 344]) und115 (by kernel_rfl) z115 (by kernel_rfl) rfl) rfl rfl ?_
 refine ch_s (rd := [0]) rfl rfl (r_storeB (ds' := [.val (.string (⟨#[]⟩ : ByteArray)), .val (.int .i64 0), .val (.int .i64 0), .val (.slice none 0 0), .val (.slice none 0 0), .val (.string (⟨#[109, 100, 53]⟩ : ByteArray)), .val (.int .i64 1), .val (.int .i64 0), .val (.slice none 0 0), .row 8, .val (.string (⟨#[115, 104, 97, 49]⟩ : ByteArray)), .val (.int .i64 1), .val (.int .i64 0), .val (.slice none 0 0), .row 24, .val (.string (⟨#[115, 104, 97, 50, 53, 54]⟩ : ByteArray)), .val (.int .i64 1), .val (.int .i64 0), .val (.slice none 0 0), .row 40, .val (.string (⟨#[115, 104, 97, 51, 56, 52]⟩ : ByteArray)), .val (.int .i64 1), .val (.int .i64 0), .val (.slice none 0 0), .row 56, .val (.string (⟨#[114, 115, 97]⟩ : ByteArray)), .val (.int .i64 2), .val (.int .i64 1), .val (.slice none 0 0), .val (.slice none 0 0), .val (.string (⟨#[100, 115, 97]⟩ : ByteArray)), .val (.int .i64 2), .val (.int .i64 1), .val (.slice none 0 0), .val (.slice none 0 0), .val (.string (⟨#[101, 99, 100, 115, 97]⟩ : ByteArray)), .val (.int .i64 2), .val (.int .i64 2), .val (.slice none 0 0), .val (.slice none 0 0), .val (.string (⟨#[101, 100, 50, 53, 53, 49, 57]⟩ : ByteArray)), .val (.int .i64 2), .val (.int .i64 0), .val (.slice none 0 0), .row 96, .val (.string (⟨#[109, 108, 100, 115, 97]⟩ : ByteArray)), .val (.int .i64 2), .val (.int .i64 3), .row 112, .row 120, .val (.string (⟨#[114, 115, 97, 107, 120]⟩ : ByteArray)), .val (.int .i64 3), .val (.int .i64 1), .val (.slice none 0 0), .val (.slice none 0 0), .val (.string (⟨#[100, 104, 101]⟩ : ByteArray)), .val (.int .i64 3), .val (.int .i64 1), .val (.slice none 0 0), .val (.slice none 0 0), .val (.string (⟨#[101, 99, 100, 104, 101]⟩ : ByteArray)), .val (.int .i64 3), .val (.int .i64 2), .val (.slice none 0 0), .val (.slice none 0 0), .val (.string (⟨#[109, 108, 107, 101, 109]⟩ : ByteArray)), .val (.int .i64 3), .val (.int .i64 3), .row 160, .row 168, .val (.string (⟨#[114, 99, 52]⟩ : ByteArray)), .val (.int .i64 4), .val (.int .i64 3), .row 184, .row 192, .val (.string (⟨#[100, 101, 115, 51]⟩ : ByteArray)), .val (.int .i64 4), .val (.int .i64 3), .row 208, .row 216, .val (.string (⟨#[97, 101, 115, 99, 98, 99]⟩ : ByteArray)), .val (.int .i64 4), .val (.int .i64 3), .row 232, .row 240, .val (.string (⟨#[97, 101, 115, 103, 99, 109]⟩ : ByteArray)), .val (.int .i64 4), .val (.int .i64 3), .row 256, .row 264, .val (.string (⟨#[99, 104, 97, 99, 104, 97]⟩ : ByteArray)), .val (.int .i64 4), .val (.int .i64 0), .val (.slice none 0 0), .row 280, .val (.string (⟨#[104, 109, 97, 99, 109, 100, 53]⟩ : ByteArray)), .val (.int .i64 5), .val (.int .i64 0), .val (.slice none 0 0), .row 296, .val (.string (⟨#[104, 109, 97, 99, 115, 104, 97, 49]⟩ : ByteArray)), .val (.int .i64 5), .val (.int .i64 0), .val (.slice none 0 0), .row 312, .val (.string (⟨#[104, 109, 97, 99, 115, 104, 97, 50, 53, 54]⟩ : ByteArray)), .val (.int .i64 5), .val (.int .i64 0), .val (.slice none 0 0), .row 328, .val (.string (⟨#[97, 101, 97, 100]⟩ : ByteArray)), .val (.int .i64 5), .val (.int .i64 0), .val (.slice none 0 0), .row 344]) ty115 rfl (Nat.le_of_ble_eq_true rfl) rfl rfl) rfl rfl ?_
 refine ch_n fun hU376_2 => ?_
 refine aw_r ?_
 obtain rfl := Option.some.inj hg
 exact ⟨[_], _, [], [], .cons (.cellA rfl rfl ty115 rfl) .nil, ⟨rfl, rfl⟩, .agg (.cons (.val _) (.cons (.val _) (.cons (.val _) (.cons (.nils _) (.cons (.nils _) (.cons (.val _) (.cons (.val _) (.cons (.val _) (.cons (.nils _) (.cons (.frz rfl (look_ne rfl)) (.cons (.val _) (.cons (.val _) (.cons (.val _) (.cons (.nils _) (.cons (.frz rfl (look_ne rfl)) (.cons (.val _) (.cons (.val _) (.cons (.val _) (.cons (.nils _) (.cons (.frz rfl (look_ne rfl)) (.cons (.val _) (.cons (.val _) (.cons (.val _) (.cons (.nils _) (.cons (.frz rfl (look_ne rfl)) (.cons (.val _) (.cons (.val _) (.cons (.val _) (.cons (.nils _) (.cons (.nils _) (.cons (.val _) (.cons (.val _) (.cons (.val _) (.cons (.nils _) (.cons (.nils _) (.cons (.val _) (.cons (.val _) (.cons (.val _) (.cons (.nils _) (.cons (.nils _) (.cons (.val _) (.cons (.val _) (.cons (.val _) (.cons (.nils _) (.cons (.frz rfl (look_ne rfl)) (.cons (.val _) (.cons (.val _) (.cons (.val _) (.cons (.frz rfl (look_ne rfl)) (.cons (.frz rfl (look_ne rfl)) (.cons (.val _) (.cons (.val _) (.cons (.val _) (.cons (.nils _) (.cons (.nils _) (.cons (.val _) (.cons (.val _) (.cons (.val _) (.cons (.nils _) (.cons (.nils _) (.cons (.val _) (.cons (.val _) (.cons (.val _) (.cons (.nils _) (.cons (.nils _) (.cons (.val _) (.cons (.val _) (.cons (.val _) (.cons (.frz rfl (look_ne rfl)) (.cons (.frz rfl (look_ne rfl)) (.cons (.val _) (.cons (.val _) (.cons (.val _) (.cons (.frz rfl (look_ne rfl)) (.cons (.frz rfl (look_ne rfl)) (.cons (.val _) (.cons (.val _) (.cons (.val _) (.cons (.frz rfl (look_ne rfl)) (.cons (.frz rfl (look_ne rfl)) (.cons (.val _) (.cons (.val _) (.cons (.val _) (.cons (.frz rfl (look_ne rfl)) (.cons (.frz rfl (look_ne rfl)) (.cons (.val _) (.cons (.val _) (.cons (.val _) (.cons (.frz rfl (look_ne rfl)) (.cons (.frz rfl (look_ne rfl)) (.cons (.val _) (.cons (.val _) (.cons (.val _) (.cons (.nils _) (.cons (.frz rfl (look_ne rfl)) (.cons (.val _) (.cons (.val _) (.cons (.val _) (.cons (.nils _) (.cons (.frz rfl (look_ne rfl)) (.cons (.val _) (.cons (.val _) (.cons (.val _) (.cons (.nils _) (.cons (.frz rfl (look_ne rfl)) (.cons (.val _) (.cons (.val _) (.cons (.val _) (.cons (.nils _) (.cons (.frz rfl (look_ne rfl)) (.cons (.val _) (.cons (.val _) (.cons (.val _) (.cons (.nils _) (.cons (.frz rfl (look_ne rfl)) .nil))))))))))))))))))))))))))))))))))))))))))))))))))))))))))))))))))))))))))))))))))))))))))))))))))))))))))))))))))), trivial, rfl, rfl, rfl, rfl⟩
theorem w_catalog_of (alg : Int) (r : catalog_row × Bool) (hg : g_catalog_of alg = some r) : Fn Try.prog 69 0 [.val (.int .i64 alg)] [] (fun d b => d = .tup [.agg [.val (.string r.1.name), .val (.int .i64 r.1.kind), .val (.int .i64 r.1.way), .sl 1 (encL eI r.1.sizes), .sl 1 (encL eI r.1.strengths)], .val (.bool r.2)] ∧ b = []) := by
 unfold g_catalog_of at hg
 refine Fn.of Try.func69 rfl rfl rfl fun w0 I ρ0 => ?_
 show awp _ ⟨w0, I, ρ0, 0, 0, 14⟩ _ _ _
 refine sr_ 0 16 mk_U ?_
 refine c0_ rfl rfl (.alloc z104) rfl rfl ?_
 refine c0_ rfl rfl .assign rfl rfl ?_
 refine ch_n fun hU16_1 => ?_
 refine awp_seq ?_
 refine awp_cut (ι := Bool) (fun (x9_1 : Bool) => mk [(0, .val (.int .i64 alg)), (2, .ptr 0 0), (9, .val (.bool x9_1))] [(0, .box [.val (.string (⟨#[]⟩ : ByteArray)), .val (.int .i64 0), .val (.int .i64 0), .val (.slice none 0 0), .val (.slice none 0 0)] 104)] 1) (fun (x9_1 : Bool) => g_catalog_of.j1 alg x9_1 = some r) ?_ ?_
 ·refine awp_region (sys _ _ []) 16 64 hU16_1 rfl rfl ?_
  refine c0_ rfl rfl .move rfl rfl ?_
  refine c0_ rfl rfl r_lss rfl rfl ?_
  refine c0_ rfl rfl .move rfl rfl ?_
  rcases Bool.eq_false_or_eq_true (decide (alg < 1)) with h2 | h2
  ·replace hg := cond_t h2 hg
   refine ch_skip (gdv_f rfl rfl h2) rfl ?_
   refine ch_skip (gdv_f rfl rfl h2) rfl ?_
   refine c0_ rfl rfl (r_pickT h2) rfl rfl ?_
   refine ch_n fun hU64_3 => ?_
   exact ⟨true, hg, Sub.lists [(0, 0)] rfl rfl ⟨⟨_, rfl, .val _⟩, ⟨_, rfl, .ptr rfl⟩, ⟨_, rfl, .val _⟩, trivial⟩ ⟨.inl ⟨0, _, rfl, rfl, ⟨rfl, .cons (.val _) (.cons (.val _) (.cons (.val _) (.cons (.val _) (.cons (.val _) .nil))))⟩⟩, trivial⟩⟩
  ·replace hg := cond_f h2 hg
   refine c0_ (gdv_t rfl rfl h2) rfl .move rfl rfl ?_
   refine c0_ (gdv_t rfl rfl h2) rfl r_gtr rfl rfl ?_
   refine c0_ rfl rfl (r_pickF h2) rfl rfl ?_
   refine ch_n fun hU64_4 => ?_
   exact ⟨decide (22 < alg), hg, Sub.lists [(0, 0)] rfl rfl ⟨⟨_, rfl, .val _⟩, ⟨_, rfl, .ptr rfl⟩, ⟨_, rfl, .val _⟩, trivial⟩ ⟨.inl ⟨0, _, rfl, rfl, ⟨rfl, .cons (.val _) (.cons (.val _) (.cons (.val _) (.cons (.val _) (.cons (.val _) .nil))))⟩⟩, trivial⟩⟩
 ·rintro x9_1 hg
  replace hg : g_catalog_of.j1 alg x9_1 = some r := hg
  show awp _ _ _ _ (mk _ _ _)
  unfold g_catalog_of.j1 at hg
  refine awp_cond rfl (fun h5 => ?_) (fun h5 => ?_)
  ·replace hg := cond_t h5 hg
   refine sr_ 1 25 mk_U ?_
   refine c0_ rfl rfl (.build (r := [.val (.string (⟨#[]⟩ : ByteArray)), .val (.int .i64 0), .val (.int .i64 0), .val (.slice none 0 0), .val (.slice none 0 0)]) und104 pl104 z104 (by kernel_rfl) rfl) rfl rfl ?_
   refine ch_s (rd := [0]) rfl rfl (r_storeB (ds' := [.val (.string (⟨#[]⟩ : ByteArray)), .val (.int .i64 0), .val (.int .i64 0), .val (.slice none 0 0), .val (.slice none 0 0)]) ty104 rfl (Nat.le_of_ble_eq_true rfl) rfl rfl) rfl rfl ?_
   refine c0_ rfl rfl .assign rfl rfl ?_
   refine ch_n fun hU25_6 => ?_
   refine aw_r ?_
   obtain rfl := Option.some.inj hg
   exact ⟨[_, _], _, [], [], .cons (.cellA rfl rfl ty104 rfl) (.cons (.tmp rfl) .nil), ⟨rfl, rfl⟩, .tup (.cons (.agg (.cons (.val _) (.cons (.val _) (.cons (.val _) (.cons (.nils _) (.cons (.nils _) .nil)))))) (.cons (.val _) .nil)), trivial, rfl, rfl, rfl, rfl⟩
  ·replace hg := cond_f h5 hg
   refine aw_s ?_
   refine sr_ 1 41 mk_U ?_
   obtain ⟨y, hy, hg⟩ := bind_some hg
   refine ch_callP (rd := []) (ps := []) (gs := []) false rfl (w_catalog_rows  _ hy) rfl rfl .nil rfl rfl (by intro h; cases h) rfl rfl rfl rfl ?_
   refine c0_ rfl rfl .move rfl rfl ?_
   obtain ⟨e, he, hg⟩ := bind_some hg
   refine c0_ rfl rfl (r_indexAA (f := catalog_row.enc) (L := (arrL 23 y)) und115 ty104 catalog_row.enc_len rfl rfl he (d2 := [.val (.string e.name), .val (.int .i64 e.kind), .val (.int .i64 e.way), .sl 1 (encL eI e.sizes), .sl 1 (encL eI e.strengths)]) rfl) rfl rfl ?_
   refine ch_s (rd := [0]) rfl rfl (r_storeB (ds' := [.val (.string e.name), .val (.int .i64 e.kind), .val (.int .i64 e.way), .sl 1 (encL eI e.sizes), .sl 1 (encL eI e.strengths)]) ty104 rfl (Nat.le_of_ble_eq_true rfl) rfl rfl) rfl rfl ?_
   refine c0_ rfl rfl .assign rfl rfl ?_
   refine ch_n fun hU41_7 => ?_
   refine aw_r ?_
   obtain rfl := Option.some.inj hg
   exact ⟨[_, _], _, [], [], .cons (.cellA rfl rfl ty104 rfl) (.cons (.tmp rfl) .nil), ⟨rfl, rfl⟩, .tup (.cons (.agg (.cons (.val _) (.cons (.val _) (.cons (.val _) (.cons (.sl _ _) (.cons (.sl _ _) .nil)))))) (.cons (.val _) .nil)), trivial, rfl, rfl, rfl, rfl⟩
theorem w_catalog_modulus (bits : Int) (r : Int) (hg : g_catalog_modulus bits = some r) : Fn Try.prog 75 0 [.val (.int .i64 bits)] [] (fun d b => d = .val (.int .i64 r) ∧ b = []) := by
 unfold g_catalog_modulus at hg
 refine Fn.of Try.func75 rfl rfl rfl fun w0 I ρ0 => ?_
 show awp _ ⟨w0, I, ρ0, 0, 0, 21⟩ _ _ _
 refine sr_ 0 8 mk_U ?_
 refine c0_ rfl rfl .assign rfl rfl ?_
 refine ch_n fun hU8_1 => ?_
 refine awp_seq ?_
 refine sr_ 8 64 hU8_1 ?_
 refine c0_ rfl rfl (.buildArr (sz := 1) (r := [.val (.int .i64 1024), .val (.int .i64 56)]) und118 (by kernel_rfl) z118 (by kernel_rfl) rfl) rfl rfl ?_
 refine c0_ rfl rfl (.buildArr (sz := 1) (r := [.val (.int .i64 2048), .val (.int .i64 80)]) und118 (by kernel_rfl) z118 (by kernel_rfl) rfl) rfl rfl ?_
 refine c0_ rfl rfl (.buildArr (sz := 1) (r := [.val (.int .i64 3072), .val (.int .i64 112)]) und118 (by kernel_rfl) z118 (by kernel_rfl) rfl) rfl rfl ?_
 refine c0_ rfl rfl (.buildArr (sz := 1) (r := [.val (.int .i64 7680), .val (.int .i64 128)]) und118 (by kernel_rfl) z118 (by kernel_rfl) rfl) rfl rfl ?_
 refine c0_ rfl rfl (.buildArr (sz := 1) (r := [.val (.int .i64 15360), .val (.int .i64 192)]) und118 (by kernel_rfl) z118 (by kernel_rfl) rfl) rfl rfl ?_
 refine c0_ rfl rfl (.buildArr (sz := 2) (r := [.val (.int .i64 1024), .val (.int .i64 56), .val (.int .i64 2048), .val (.int .i64 80), .val (.int .i64 3072), .val (.int .i64 112), .val (.int .i64 7680), .val (.int .i64 128), .val (.int .i64 15360), .val (.int .i64 192)]) und119 (by kernel_rfl) z119 (by kernel_rfl) rfl) rfl rfl ?_
 refine c0_ rfl rfl .move rfl rfl ?_
 refine ch_n fun hU64_2 => ?_
 refine awp_block ?_
 obtain ⟨n1, hg⟩ := loop_some hg
 refine awp_loop (ι := (Int) × Nat) (fun ((x11_1, _) : (Int) × Nat) => mk [(0, .val (.int .i64 bits)), (10, .agg [.val (.int .i64 1024), .val (.int .i64 56), .val (.int .i64 2048), .val (.int .i64 80), .val (.int .i64 3072), .val (.int .i64 112), .val (.int .i64 7680), .val (.int .i64 128), .val (.int .i64 15360), .val (.int .i64 192)]), (11, .val (.int .i64 x11_1))] [] 0) (fun ((x11_1, nq') : (Int) × Nat) => iter (fun q' => g_catalog_modulus.l1 bits q') nq' x11_1 = some r) (fun q => q.2) (0, n1) (Sub.lists [] rfl rfl ⟨⟨_, rfl, .val _⟩, ⟨_, rfl, .agg (.cons (.val _) (.cons (.val _) (.cons (.val _) (.cons (.val _) (.cons (.val _) (.cons (.val _) (.cons (.val _) (.cons (.val _) (.cons (.val _) (.cons (.val _) .nil))))))))))⟩, ⟨_, rfl, .val _⟩, trivial⟩ trivial) hg ?_
 rintro ⟨x11_1, n1⟩ hg
 obtain ⟨m1, o1, rfl, hg, hn1⟩ := iter_some (show iter (fun q' => g_catalog_modulus.l1 bits q') n1 x11_1 = some r from hg)
 replace hg : g_catalog_modulus.l1 bits x11_1 = some o1 := hg
 show awp _ _ _ _ (mk _ _ _)
 unfold g_catalog_modulus.l1 at hg
 refine sr_ 0 8 mk_U ?_
 refine c0_ rfl rfl r_lss rfl rfl ?_
 refine ch_n fun hU8_3 => ?_
 refine awp_seq ?_
 refine awp_cond rfl (fun h4 => ?_) (fun h4 => ?_)
 ·replace hg := cond_t h4 hg
  refine aw_s ?_
  refine awp_seq ?_
  refine awp_block ?_
  refine sr_ 8 32 hU8_3 ?_
  obtain ⟨e, he, hg⟩ := bind_some hg
  refine c0_ rfl rfl (r_indexAA (f := (eA 2 eI)) (L := ([([1024, 56] : List Int), ([2048, 80] : List Int), ([3072, 112] : List Int), ([7680, 128] : List Int), ([15360, 192] : List Int)] : List (List Int))) und119 ty118 (eA_len eI_len) rfl rfl he (d2 := [.val (.int .i64 (e[0]!)), .val (.int .i64 (e[1]!))]) rfl) rfl rfl ?_
  refine c0_ rfl rfl (.alloc z118) rfl rfl ?_
  refine ch_s (rd := [16]) rfl rfl (r_storeB (ds' := [.val (.int .i64 (e[0]!)), .val (.int .i64 (e[1]!))]) ty118 rfl (Nat.le_of_ble_eq_true rfl) rfl rfl) rfl rfl ?_
  refine ch_n fun hU32_5 => ?_
  refine sr_ 32 64 hU32_5 ?_
  refine c0_ rfl rfl .move rfl rfl ?_
  refine ch_s (rd := [16]) rfl rfl (.idxA (j := 0) und118 ty3 rfl (by decide)) rfl rfl ?_
  refine ch_s (rd := [16]) rfl rfl (.loadB1 ty3 rfl) rfl rfl ?_
  refine c0_ rfl rfl r_lss rfl rfl ?_
  refine ch_n fun hU64_6 => ?_
  refine awp_cond rfl (fun h7 => ?_) (fun h7 => ?_)
  ·replace hg := cond_t h7 hg
   refine sr_ 64 88 hU64_6 ?_
   refine ch_s (rd := [16]) rfl rfl (.idxA (j := 1) und118 ty3 rfl (by decide)) rfl rfl ?_
   refine ch_s (rd := [16]) rfl rfl (.loadB1 ty3 rfl) rfl rfl ?_
   refine c0_ rfl rfl .assign rfl rfl ?_
   refine ch_n fun hU88_8 => ?_
   refine aw_r ?_
   replace hg := leave hg hn1
   obtain rfl := Option.some.inj hg
   exact ⟨[_], _, [], [], .cons (.tmp rfl) .nil, ⟨rfl, rfl⟩, .val _, trivial, rfl, rfl, rfl, rfl⟩
  ·replace hg := cond_f h7 hg
   refine aw_s ?_
   refine awp_region (sys _ _ []) 64 80 hU64_6 rfl rfl ?_
   refine c0_ rfl rfl r_add rfl rfl ?_
   refine c0_ rfl rfl .move rfl rfl ?_
   refine ch_n fun hU80_9 => ?_
   obtain rfl := Option.some.inj hg
   exact ⟨(W (x11_1 + 1), m1), Nat.lt_succ_self _, hn1, Sub.lists [] rfl rfl ⟨⟨_, rfl, .val _⟩, ⟨_, rfl, .agg (.cons (.val _) (.cons (.val _) (.cons (.val _) (.cons (.val _) (.cons (.val _) (.cons (.val _) (.cons (.val _) (.cons (.val _) (.cons (.val _) (.cons (.val _) .nil))))))))))⟩, ⟨_, rfl, .val _⟩, trivial⟩ trivial⟩
 ·replace hg := cond_f h4 hg
  refine awp_exit ?_
  repeat first | refine st_ ?_ | refine sn_ ?_
  replace hg := leave hg hn1
  refine sr_ 8 16 hU8_3 ?_
  refine c0_ rfl rfl .assign rfl rfl ?_
  refine ch_n fun hU16_10 => ?_
  refine aw_r ?_
  obtain rfl := Option.some.inj hg
  exact ⟨[_], _, [], [], .cons (.tmp rfl) .nil, ⟨rfl, rfl⟩, .val _, trivial, rfl, rfl, rfl, rfl⟩
theorem w_slices_Index_int (s : (List Int)) (v : Int) (r : Int) (hg : g_slices_Index_int s v = some r) : Fn Try.prog 77 0 [.sl 1 (encL eI s), .val (.int .i64 v)] [] (fun d b => d = .val (.int .i64 r) ∧ b = []) := by
 unfold g_slices_Index_int at hg
 refine Fn.of Try.func77 rfl rfl rfl fun w0 I ρ0 => ?_
 show awp _ ⟨w0, I, ρ0, 0, 0, 19⟩ _ _ _
 refine sr_ 0 8 mk_U ?_
 refine c0_ rfl rfl .assign rfl rfl ?_
 refine ch_n fun hU8_1 => ?_
 refine awp_seq ?_
 refine sr_ 8 32 hU8_1 ?_
 refine c0_ rfl rfl .move rfl rfl ?_
 refine c0_ rfl rfl (r_lenS sl102 eI_len) rfl rfl ?_
 refine c0_ rfl rfl .move rfl rfl ?_
 refine ch_n fun hU32_2 => ?_
 refine awp_block ?_
 obtain ⟨n1, hg⟩ := loop_some hg
 refine awp_loop (ι := (Int) × Nat) (fun ((x8_1, _) : (Int) × Nat) => mk [(0, .sl 1 (encL eI s)), (1, .val (.int .i64 v)), (7, .val (.int .i64 (s.length : Int))), (8, .val (.int .i64 x8_1))] [] 0) (fun ((x8_1, nq') : (Int) × Nat) => iter (fun q' => g_slices_Index_int.l1 s v q') nq' x8_1 = some r) (fun q => q.2) (0, n1) (Sub.lists [] rfl rfl ⟨⟨_, rfl, .sl _ _⟩, ⟨_, rfl, .val _⟩, ⟨_, rfl, .val _⟩, ⟨_, rfl, .val _⟩, trivial⟩ trivial) hg ?_
 rintro ⟨x8_1, n1⟩ hg
 obtain ⟨m1, o1, rfl, hg, hn1⟩ := iter_some (show iter (fun q' => g_slices_Index_int.l1 s v q') n1 x8_1 = some r from hg)
 replace hg : g_slices_Index_int.l1 s v x8_1 = some o1 := hg
 show awp _ _ _ _ (mk _ _ _)
 unfold g_slices_Index_int.l1 at hg
 refine sr_ 0 8 mk_U ?_
 refine c0_ rfl rfl r_lss rfl rfl ?_
 refine ch_n fun hU8_3 => ?_
 refine awp_seq ?_
 refine awp_cond rfl (fun h4 => ?_) (fun h4 => ?_)
 ·replace hg := cond_t h4 hg
  refine aw_s ?_
  refine awp_seq ?_
  refine awp_block ?_
  refine sr_ 8 24 hU8_3 ?_
  refine c0_ rfl rfl .move rfl rfl ?_
  refine c0_ rfl rfl .assign rfl rfl ?_
  refine ch_n fun hU24_5 => ?_
  refine sr_ 24 72 hU24_5 ?_
  iterate 3 refine c0_ rfl rfl .move rfl rfl ?_
  obtain ⟨e, he, hg⟩ := bind_some hg
  refine c0_ rfl rfl (r_idxS sl102 eI_len (getI_ix he) (getI_at he)) rfl rfl ?_
  refine c0_ rfl rfl (r_loadE1 ty3 (enc_cell eI_len (getI_at he) (o := 0) (c := .int .i64 e) rfl rfl)) rfl rfl ?_
  refine c0_ rfl rfl r_eql rfl rfl ?_
  refine ch_n fun hU72_6 => ?_
  refine awp_cond rfl (fun h7 => ?_) (fun h7 => ?_)
  ·replace hg := cond_t h7 hg
   refine sr_ 72 88 hU72_6 ?_
   refine c0_ rfl rfl .move rfl rfl ?_
   refine c0_ rfl rfl .assign rfl rfl ?_
   refine ch_n fun hU88_8 => ?_
   refine aw_r ?_
   replace hg := leave hg hn1
   obtain rfl := Option.some.inj hg
   exact ⟨[_], _, [], [], .cons (.tmp rfl) .nil, ⟨rfl, rfl⟩, .val _, trivial, rfl, rfl, rfl, rfl⟩
  ·replace hg := cond_f h7 hg
   refine aw_s ?_
   refine awp_region (sys _ _ []) 72 88 hU72_6 rfl rfl ?_
   refine c0_ rfl rfl r_add rfl rfl ?_
   refine c0_ rfl rfl .move rfl rfl ?_
   refine ch_n fun hU88_9 => ?_
   obtain rfl := Option.some.inj hg
   exact ⟨(W (x8_1 + 1), m1), Nat.lt_succ_self _, hn1, Sub.lists [] rfl rfl ⟨⟨_, rfl, .sl _ _⟩, ⟨_, rfl, .val _⟩, ⟨_, rfl, .val _⟩, ⟨_, rfl, .val _⟩, trivial⟩ trivial⟩
 ·replace hg := cond_f h4 hg
  refine awp_exit ?_
  repeat first | refine st_ ?_ | refine sn_ ?_
  replace hg := leave hg hn1
  refine sr_ 8 16 hU8_3 ?_
  refine c0_ rfl rfl .assign rfl rfl ?_
  refine ch_n fun hU16_10 => ?_
  refine aw_r ?_
  obtain rfl := Option.some.inj hg
  exact ⟨[_], _, [], [], .cons (.tmp rfl) .nil, ⟨rfl, rfl⟩, .val _, trivial, rfl, rfl, rfl, rfl⟩
theorem w_slices_Contains_int (s : (List Int)) (v : Int) (r : Bool) (hg : g_slices_Contains_int s v = some r) : Fn Try.prog 76 0 [.sl 1 (encL eI s), .val (.int .i64 v)] [] (fun d b => d = .val (.bool r) ∧ b = []) := by
 unfold g_slices_Contains_int at hg
 refine Fn.of Try.func76 rfl rfl rfl fun w0 I ρ0 => ?_
 show awp _ ⟨w0, I, ρ0, 0, 0, 9⟩ _ _ _
 refine sr_ 0 8 mk_U ?_
 refine c0_ rfl rfl .assign rfl rfl ?_
 refine ch_n fun hU8_1 => ?_
 refine sr_ 8 48 hU8_1 ?_
 refine c0_ rfl rfl .move rfl rfl ?_
 refine c0_ rfl rfl .move rfl rfl ?_
 obtain ⟨y, hy, hg⟩ := bind_some hg
 refine ch_callP (rd := []) (ps := []) (gs := []) false rfl (w_slices_Index_int s v _ hy) rfl rfl (.cons .sl (.cons .val .nil)) rfl rfl (by intro h; cases h) rfl rfl rfl rfl ?_
 refine c0_ rfl rfl r_geq rfl rfl ?_
 refine c0_ rfl rfl .assign rfl rfl ?_
 refine ch_n fun hU48_2 => ?_
 refine aw_r ?_
 obtain rfl := Option.some.inj hg
 exact ⟨[_], _, [], [], .cons (.tmp rfl) .nil, ⟨rfl, rfl⟩, .val _, trivial, rfl, rfl, rfl, rfl⟩
theorem w_catalog_Strength (u : api_Use) (r : Int) (hg : g_catalog_Strength u = some r) : Fn Try.prog 68 0 [.agg [.val (.int .i64 u.Alg), .val (.int .i64 u.Bits)]] [] (fun d b => d = .val (.int .i64 r) ∧ b = []) := by
 unfold g_catalog_Strength at hg
 refine Fn.of Try.func68 rfl rfl rfl fun w0 I ρ0 => ?_
 show awp _ ⟨w0, I, ρ0, 0, 0, 61⟩ _ _ _
 refine sr_ 0 16 mk_U ?_
 refine c0_ rfl rfl (.box rfl) rfl rfl ?_
 refine c0_ rfl rfl .assign rfl rfl ?_
 refine ch_n fun hU16_1 => ?_
 refine sr_ 16 88 hU16_1 ?_
 refine c0_ rfl rfl (.fieldP fd28_0 ty3 (by decide)) rfl rfl ?_
 refine ch_s (rd := [0]) rfl rfl (.loadB1 ty3 rfl) rfl rfl ?_
 obtain ⟨y, hy, hg⟩ := bind_some hg
 refine ch_callP (rd := []) (ps := []) (gs := []) false rfl (w_catalog_of u.Alg _ hy) rfl rfl (.cons .val .nil) rfl rfl (by intro h; cases h) rfl rfl rfl rfl ?_
 refine c0_ rfl rfl .move rfl rfl ?_
 refine c0_ rfl rfl (.extract rfl) rfl rfl ?_
 refine c0_ rfl rfl (.extract rfl) rfl rfl ?_
 refine c0_ rfl rfl (.alloc z104) rfl rfl ?_
 refine ch_s (rd := [64]) rfl rfl (r_storeB (ds' := [.val (.string y.1.name), .val (.int .i64 y.1.kind), .val (.int .i64 y.1.way), .sl 1 (encL eI y.1.sizes), .sl 1 (encL eI y.1.strengths)]) ty104 rfl (Nat.le_of_ble_eq_true rfl) rfl rfl) rfl rfl ?_
 refine c0_ rfl rfl .assign rfl rfl ?_
 refine ch_n fun hU88_2 => ?_
 refine awp_seq ?_
 refine sr_ 88 104 hU88_2 ?_
 refine c0_ rfl rfl .move rfl rfl ?_
 refine c0_ rfl rfl r_not rfl rfl ?_
 refine ch_n fun hU104_3 => ?_
 refine awp_cond rfl (fun h4 => ?_) (fun h4 => ?_)
 ·replace hg := cond_t h4 hg
  refine sr_ 104 112 hU104_3 ?_
  refine c0_ rfl rfl .assign rfl rfl ?_
  refine ch_n fun hU112_5 => ?_
  refine aw_r ?_
  obtain rfl := Option.some.inj hg
  exact ⟨[_], _, [], [], .cons (.tmp rfl) .nil, ⟨rfl, rfl⟩, .val _, trivial, rfl, rfl, rfl, rfl⟩
 ·replace hg := cond_f h4 hg
  refine aw_s ?_
  refine awp_seq ?_
  refine sr_ 104 120 hU104_3 ?_
  refine c0_ rfl rfl (.fieldP fd104_2 ty3 (by decide)) rfl rfl ?_
  refine ch_s (rd := [64]) rfl rfl (.loadB1 ty3 rfl) rfl rfl ?_
  refine ch_n fun hU120_6 => ?_
  refine awp_block ?_
  refine sr_ 120 136 hU120_6 ?_
  refine c0_ rfl rfl r_eql rfl rfl ?_
  refine c0_ rfl rfl .assign rfl rfl ?_
  refine ch_n fun hU136_7 => ?_
  refine awp_cond rfl (fun h8 => ?_) (fun h8 => ?_)
  ·replace hg := cond_t h8 hg
   refine sr_ 136 160 hU136_7 ?_
   refine c0_ rfl rfl (.fieldP fd28_1 ty3 (by decide)) rfl rfl ?_
   refine ch_s (rd := [0]) rfl rfl (.loadB1 ty3 rfl) rfl rfl ?_
   refine c0_ rfl rfl r_eql rfl rfl ?_
   refine ch_n fun hU160_9 => ?_
   refine awp_cond rfl (fun h10 => ?_) (fun h10 => ?_)
   ·replace hg := cond_t h10 hg
    refine sr_ 160 200 hU160_9 ?_
    refine c0_ rfl rfl (.fieldP fd104_4 ty102 (by decide)) rfl rfl ?_
    refine ch_s (rd := [64]) rfl rfl (.loadB1 ty102 rfl) rfl rfl ?_
    obtain ⟨e, he, hg⟩ := bind_some hg
    refine c0_ rfl rfl (r_idxS sl102 eI_len (getI_ix he) (getI_at he)) rfl rfl ?_
    refine c0_ rfl rfl (r_loadE1 ty3 (enc_cell eI_len (getI_at he) (o := 0) (c := .int .i64 e) rfl rfl)) rfl rfl ?_
    refine c0_ rfl rfl .assign rfl rfl ?_
    refine ch_n fun hU200_11 => ?_
    refine aw_r ?_
    obtain rfl := Option.some.inj hg
    exact ⟨[_], _, [], [], .cons (.tmp rfl) .nil, ⟨rfl, rfl⟩, .val _, trivial, rfl, rfl, rfl, rfl⟩
   ·replace hg := cond_f h10 hg
    refine aw_s ?_
    refine sr_ 160 168 hU160_9 ?_
    refine c0_ rfl rfl .assign rfl rfl ?_
    refine ch_n fun hU168_30 => ?_
    refine aw_r ?_
    obtain rfl := Option.some.inj hg
    exact ⟨[_], _, [], [], .cons (.tmp rfl) .nil, ⟨rfl, rfl⟩, .val _, trivial, rfl, rfl, rfl, rfl⟩
  ·replace hg := cond_f h8 hg
   refine sr_ 136 152 hU136_7 ?_
   refine c0_ rfl rfl r_eql rfl rfl ?_
   refine c0_ rfl rfl .assign rfl rfl ?_
   refine ch_n fun hU152_12 => ?_
   refine awp_cond rfl (fun h13 => ?_) (fun h13 => ?_)
   ·replace hg := cond_t h13 hg
    refine awp_cut (ι := Bool) (fun (x34_1 : Bool) => mk [(1, .ptr 0 0), (34, .val (.bool x34_1))] [(0, .box [.val (.int .i64 u.Alg), .val (.int .i64 u.Bits)] 28)] 1) (fun (x34_1 : Bool) => g_catalog_Strength.j1 u x34_1 = some r) ?_ ?_
    ·refine awp_region (sys _ _ []) 152 216 hU152_12 rfl rfl ?_
     refine c0_ rfl rfl (.fieldP fd28_1 ty3 (by decide)) rfl rfl ?_
     refine ch_s (rd := [0]) rfl rfl (.loadB1 ty3 rfl) rfl rfl ?_
     refine c0_ rfl rfl r_geq rfl rfl ?_
     refine c0_ rfl rfl .move rfl rfl ?_
     rcases Bool.eq_false_or_eq_true (decide (512 ≤ u.Bits)) with h14 | h14
     ·replace hg := cond_t h14 hg
      refine c0_ (gdv_t rfl rfl h14) rfl (.fieldP fd28_1 ty3 (by decide)) rfl rfl ?_
      refine ch_s (rd := [0]) (gdv_t rfl rfl h14) rfl (.loadB1 ty3 rfl) rfl rfl ?_
      refine c0_ (gdv_t rfl rfl h14) rfl r_leq rfl rfl ?_
      refine c0_ rfl rfl (r_pickT h14) rfl rfl ?_
      refine ch_n fun hU216_15 => ?_
      exact ⟨decide (u.Bits ≤ 16384), hg, Sub.lists [(0, 0)] rfl rfl ⟨⟨_, rfl, .ptr rfl⟩, ⟨_, rfl, .val _⟩, trivial⟩ ⟨.inl ⟨0, _, rfl, rfl, ⟨rfl, .cons (.val _) (.cons (.val _) .nil)⟩⟩, trivial⟩⟩
     ·replace hg := cond_f h14 hg
      iterate 3 refine ch_skip (gdv_f rfl rfl h14) rfl ?_
      refine c0_ rfl rfl (r_pickF h14) rfl rfl ?_
      refine ch_n fun hU216_16 => ?_
      exact ⟨false, hg, Sub.lists [(0, 0)] rfl rfl ⟨⟨_, rfl, .ptr rfl⟩, ⟨_, rfl, .val _⟩, trivial⟩ ⟨.inl ⟨0, _, rfl, rfl, ⟨rfl, .cons (.val _) (.cons (.val _) .nil)⟩⟩, trivial⟩⟩
    ·rintro x34_1 hg
     replace hg : g_catalog_Strength.j1 u x34_1 = some r := hg
     show awp _ _ _ _ (mk _ _ _)
     unfold g_catalog_Strength.j1 at hg
     refine awp_cond rfl (fun h17 => ?_) (fun h17 => ?_)
     ·replace hg := cond_t h17 hg
      refine sr_ 1 33 mk_U ?_
      refine c0_ rfl rfl (.fieldP fd28_1 ty3 (by decide)) rfl rfl ?_
      refine ch_s (rd := [0]) rfl rfl (.loadB1 ty3 rfl) rfl rfl ?_
      obtain ⟨y_2, hy_2, hg⟩ := bind_some hg
      refine ch_callP (rd := []) (ps := []) (gs := []) false rfl (w_catalog_modulus u.Bits _ hy_2) rfl rfl (.cons .val .nil) rfl rfl (by intro h; cases h) rfl rfl rfl rfl ?_
      refine c0_ rfl rfl .assign rfl rfl ?_
      refine ch_n fun hU33_18 => ?_
      refine aw_r ?_
      obtain rfl := Option.some.inj hg
      exact ⟨[_], _, [], [], .cons (.tmp rfl) .nil, ⟨rfl, rfl⟩, .val _, trivial, rfl, rfl, rfl, rfl⟩
     ·replace hg := cond_f h17 hg
      refine aw_s ?_
      refine sr_ 1 9 mk_U ?_
      refine c0_ rfl rfl .assign rfl rfl ?_
      refine ch_n fun hU9_31 => ?_
      refine aw_r ?_
      obtain rfl := Option.some.inj hg
      exact ⟨[_], _, [], [], .cons (.tmp rfl) .nil, ⟨rfl, rfl⟩, .val _, trivial, rfl, rfl, rfl, rfl⟩
   ·replace hg := cond_f h13 hg
    refine sr_ 152 168 hU152_12 ?_
    refine c0_ rfl rfl r_eql rfl rfl ?_
    refine c0_ rfl rfl .assign rfl rfl ?_
    refine ch_n fun hU168_19 => ?_
    refine awp_cond rfl (fun h20 => ?_) (fun h20 => ?_)
    ·replace hg := cond_t h20 hg
     refine sr_ 168 200 hU168_19 ?_
     refine c0_ rfl rfl (r_buildFull sl102 z3 (by decide) rfl rfl rfl rfl ck3 (cs := [.int .i64 160, .int .i64 224, .int .i64 256, .int .i64 384, .int .i64 521]) (.cons .int (.cons .int (.cons .int (.cons .int (.cons .int .nil))))) rfl (l := ([160, 224, 256, 384, 521] : List Int)) (f := eI) rfl) rfl rfl ?_
     refine c0_ rfl rfl (.fieldP fd28_1 ty3 (by decide)) rfl rfl ?_
     refine ch_s (rd := [0]) rfl rfl (.loadB1 ty3 rfl) rfl rfl ?_
     obtain ⟨y_3, hy_3, hg⟩ := bind_some hg
     refine ch_callP (rd := [168]) (ps := []) (gs := []) true rfl (w_slices_Contains_int ([160, 224, 256, 384, 521] : List Int) u.Bits _ hy_3) rfl rfl (.cons (.row rfl (.head _) rfl) (.cons .val .nil)) rfl rfl (fun _ => ⟨by simp [flatD, flatDs], by simp [flatB, flatDs, flatD]⟩) rfl rfl rfl rfl ?_
     refine ch_n fun hU200_21 => ?_
     refine awp_cond rfl (fun h22 => ?_) (fun h22 => ?_)
     ·replace hg := cond_t h22 hg
      refine sr_ 200 232 hU200_21 ?_
      refine c0_ rfl rfl (.fieldP fd28_1 ty3 (by decide)) rfl rfl ?_
      refine ch_s (rd := [0]) rfl rfl (.loadB1 ty3 rfl) rfl rfl ?_
      obtain ⟨q, hq, hg⟩ := bind_some hg
      refine c0_ rfl rfl (r_quo hq) rfl rfl ?_
      refine c0_ rfl rfl .assign rfl rfl ?_
      refine ch_n fun hU232_23 => ?_
      refine aw_r ?_
      obtain rfl := Option.some.inj hg
      exact ⟨[_], _, [], [], .cons (.tmp rfl) .nil, ⟨rfl, rfl⟩, .val _, trivial, rfl, rfl, rfl, rfl⟩
     ·replace hg := cond_f h22 hg
      refine aw_s ?_
      refine sr_ 200 208 hU200_21 ?_
      refine c0_ rfl rfl .assign rfl rfl ?_
      refine ch_n fun hU208_32 => ?_
      refine aw_r ?_
      obtain rfl := Option.some.inj hg
      exact ⟨[_], _, [], [], .cons (.tmp rfl) .nil, ⟨rfl, rfl⟩, .val _, trivial, rfl, rfl, rfl, rfl⟩
    ·replace hg := cond_f h20 hg
     refine sr_ 168 184 hU168_19 ?_
     refine c0_ rfl rfl r_eql rfl rfl ?_
     refine c0_ rfl rfl .assign rfl rfl ?_
     refine ch_n fun hU184_24 => ?_
     refine awp_cond rfl (fun h25 => ?_) (fun h25 => ?_)
     ·replace hg := cond_t h25 hg
      refine sr_ 184 232 hU184_24 ?_
      refine c0_ rfl rfl (.fieldP fd104_3 ty102 (by decide)) rfl rfl ?_
      refine ch_s (rd := [64]) rfl rfl (.loadB1 ty102 rfl) rfl rfl ?_
      refine c0_ rfl rfl (.fieldP fd28_1 ty3 (by decide)) rfl rfl ?_
      refine ch_s (rd := [0]) rfl rfl (.loadB1 ty3 rfl) rfl rfl ?_
      obtain ⟨y_4, hy_4, hg⟩ := bind_some hg
      refine ch_callP (rd := []) (ps := []) (gs := []) false rfl (w_slices_Index_int y.1.sizes u.Bits _ hy_4) rfl rfl (.cons .sl (.cons .val .nil)) rfl rfl (by intro h; cases h) rfl rfl rfl rfl ?_
      refine c0_ rfl rfl .assign rfl rfl ?_
      refine ch_n fun hU232_26 => ?_
      refine sr_ 232 248 hU232_26 ?_
      refine c0_ rfl rfl .move rfl rfl ?_
      refine c0_ rfl rfl r_geq rfl rfl ?_
      refine ch_n fun hU248_27 => ?_
      refine awp_cond rfl (fun h28 => ?_) (fun h28 => ?_)
      ·replace hg := cond_t h28 hg
       refine sr_ 248 296 hU248_27 ?_
       refine c0_ rfl rfl (.fieldP fd104_4 ty102 (by decide)) rfl rfl ?_
       refine ch_s (rd := [64]) rfl rfl (.loadB1 ty102 rfl) rfl rfl ?_
       refine c0_ rfl rfl .move rfl rfl ?_
       obtain ⟨e_2, he_2, hg⟩ := bind_some hg
       refine c0_ rfl rfl (r_idxS sl102 eI_len (getI_ix he_2) (getI_at he_2)) rfl rfl ?_
       refine c0_ rfl rfl (r_loadE1 ty3 (enc_cell eI_len (getI_at he_2) (o := 0) (c := .int .i64 e_2) rfl rfl)) rfl rfl ?_
       refine c0_ rfl rfl .assign rfl rfl ?_
       refine ch_n fun hU296_29 => ?_
       refine aw_r ?_
       obtain rfl := Option.some.inj hg
       exact ⟨[_], _, [], [], .cons (.tmp rfl) .nil, ⟨rfl, rfl⟩, .val _, trivial, rfl, rfl, rfl, rfl⟩
      ·replace hg := cond_f h28 hg
       refine aw_s ?_
       refine sr_ 248 256 hU248_27 ?_
       refine c0_ rfl rfl .assign rfl rfl ?_
       refine ch_n fun hU256_33 => ?_
       refine aw_r ?_
       obtain rfl := Option.some.inj hg
       exact ⟨[_], _, [], [], .cons (.tmp rfl) .nil, ⟨rfl, rfl⟩, .val _, trivial, rfl, rfl, rfl, rfl⟩
     ·replace hg := cond_f h25 hg
      refine aw_s ?_
      refine sr_ 184 192 hU184_24 ?_
      refine c0_ rfl rfl .assign rfl rfl ?_
      refine ch_n fun hU192_34 => ?_
      refine aw_r ?_
      obtain rfl := Option.some.inj hg
      exact ⟨[_], _, [], [], .cons (.tmp rfl) .nil, ⟨rfl, rfl⟩, .val _, trivial, rfl, rfl, rfl, rfl⟩
theorem w_catalog_Valid (u : api_Use) (r : Bool) (hg : g_catalog_Valid u = some r) : Fn Try.prog 52 0 [.agg [.val (.int .i64 u.Alg), .val (.int .i64 u.Bits)]] [] (fun d b => d = .val (.bool r) ∧ b = []) := by
 unfold g_catalog_Valid at hg
 refine Fn.of Try.func52 rfl rfl rfl fun w0 I ρ0 => ?_
 show awp _ ⟨w0, I, ρ0, 0, 0, 6⟩ _ _ _
 refine sr_ 0 16 mk_U ?_
 refine c0_ rfl rfl (.box rfl) rfl rfl ?_
 refine c0_ rfl rfl .assign rfl rfl ?_
 refine ch_n fun hU16_1 => ?_
 refine sr_ 16 48 hU16_1 ?_
 refine ch_s (rd := [0]) rfl rfl (.loadBA ty28 (Nat.le_of_ble_eq_true rfl)) rfl rfl ?_
 obtain ⟨y, hy, hg⟩ := bind_some hg
 refine ch_callP (rd := []) (ps := []) (gs := []) false rfl (w_catalog_Strength u _ hy) rfl rfl (.cons (.agg (.cons .val (.cons .val .nil))) .nil) rfl rfl (by intro h; cases h) rfl rfl rfl rfl ?_
 refine c0_ rfl rfl r_gtr rfl rfl ?_
 refine c0_ rfl rfl .assign rfl rfl ?_
 refine ch_n fun hU48_2 => ?_
 refine aw_r ?_
 obtain rfl := Option.some.inj hg
 exact ⟨[_], _, [], [], .cons (.tmp rfl) .nil, ⟨rfl, rfl⟩, .val _, trivial, rfl, rfl, rfl, rfl⟩
theorem w_catalog_Kind (alg : Int) (r : Int) (hg : g_catalog_Kind alg = some r) : Fn Try.prog 53 0 [.val (.int .i64 alg)] [] (fun d b => d = .val (.int .i64 r) ∧ b = []) := by
 unfold g_catalog_Kind at hg
 refine Fn.of Try.func53 rfl rfl rfl fun w0 I ρ0 => ?_
 show awp _ ⟨w0, I, ρ0, 0, 0, 12⟩ _ _ _
 refine sr_ 0 8 mk_U ?_
 refine c0_ rfl rfl .assign rfl rfl ?_
 refine ch_n fun hU8_1 => ?_
 refine sr_ 8 72 hU8_1 ?_
 refine c0_ rfl rfl .move rfl rfl ?_
 obtain ⟨y, hy, hg⟩ := bind_some hg
 refine ch_callP (rd := []) (ps := []) (gs := []) false rfl (w_catalog_of alg _ hy) rfl rfl (.cons .val .nil) rfl rfl (by intro h; cases h) rfl rfl rfl rfl ?_
 refine c0_ rfl rfl .move rfl rfl ?_
 refine c0_ rfl rfl (.extract rfl) rfl rfl ?_
 refine c0_ rfl rfl (.extract rfl) rfl rfl ?_
 refine c0_ rfl rfl (.alloc z104) rfl rfl ?_
 refine ch_s (rd := [48]) rfl rfl (r_storeB (ds' := [.val (.string y.1.name), .val (.int .i64 y.1.kind), .val (.int .i64 y.1.way), .sl 1 (encL eI y.1.sizes), .sl 1 (encL eI y.1.strengths)]) ty104 rfl (Nat.le_of_ble_eq_true rfl) rfl rfl) rfl rfl ?_
 refine c0_ rfl rfl .assign rfl rfl ?_
 refine ch_n fun hU72_2 => ?_
 refine sr_ 72 96 hU72_2 ?_
 refine c0_ rfl rfl (.fieldP fd104_1 ty3 (by decide)) rfl rfl ?_
 refine ch_s (rd := [48]) rfl rfl (.loadB1 ty3 rfl) rfl rfl ?_
 refine c0_ rfl rfl .assign rfl rfl ?_
 refine ch_n fun hU96_3 => ?_
 refine aw_r ?_
 obtain rfl := Option.some.inj hg
 exact ⟨[_], _, [], [], .cons (.tmp rfl) .nil, ⟨rfl, rfl⟩, .val _, trivial, rfl, rfl, rfl, rfl⟩
theorem w_certificate_of (u : api_Use) (kind : Int) (r : Bool) (hg : g_certificate_of u kind = some r) : Fn Try.prog 25 0 [.agg [.val (.int .i64 u.Alg), .val (.int .i64 u.Bits)], .val (.int .i64 kind)] [] (fun d b => d = .val (.bool r) ∧ b = []) := by
 unfold g_certificate_of at hg
 refine Fn.of Try.func25 rfl rfl rfl fun w0 I ρ0 => ?_
 show awp _ ⟨w0, I, ρ0, 0, 0, 14⟩ _ _ _
 refine sr_ 0 16 mk_U ?_
 refine c0_ rfl rfl (.box rfl) rfl rfl ?_
 refine c0_ rfl rfl .assign rfl rfl ?_
 refine ch_n fun hU16_1 => ?_
 refine sr_ 16 96 hU16_1 ?_
 refine ch_s (rd := [0]) rfl rfl (.loadBA ty28 (Nat.le_of_ble_eq_true rfl)) rfl rfl ?_
 obtain ⟨y, hy, hg⟩ := bind_some hg
 refine ch_callP (rd := []) (ps := []) (gs := []) false rfl (w_catalog_Valid u _ hy) rfl rfl (.cons (.agg (.cons .val (.cons .val .nil))) .nil) rfl rfl (by intro h; cases h) rfl rfl rfl rfl ?_
 refine c0_ rfl rfl .move rfl rfl ?_
 rcases Bool.eq_false_or_eq_true (y) with h2 | h2
 ·replace hg := cond_t h2 hg
  refine c0_ (gdv_t rfl rfl h2) rfl (.fieldP fd28_0 ty3 (by decide)) rfl rfl ?_
  refine ch_s (rd := [0]) (gdv_t rfl rfl h2) rfl (.loadB1 ty3 rfl) rfl rfl ?_
  obtain ⟨y_2, hy_2, hg⟩ := bind_some hg
  refine ch_callP (rd := []) (ps := []) (gs := []) false (gdv_t rfl rfl h2) (w_catalog_Kind u.Alg _ hy_2) rfl rfl (.cons .val .nil) rfl rfl (by intro h; cases h) rfl rfl rfl rfl ?_
  refine c0_ (gdv_t rfl rfl h2) rfl .move rfl rfl ?_
  refine c0_ (gdv_t rfl rfl h2) rfl r_eql rfl rfl ?_
  refine c0_ rfl rfl (r_pickT h2) rfl rfl ?_
  refine c0_ rfl rfl .assign rfl rfl ?_
  refine ch_n fun hU96_3 => ?_
  refine aw_r ?_
  obtain rfl := Option.some.inj hg
  exact ⟨[_], _, [], [], .cons (.tmp rfl) .nil, ⟨rfl, rfl⟩, .val _, trivial, rfl, rfl, rfl, rfl⟩
 ·replace hg := cond_f h2 hg
  iterate 5 refine ch_skip (gdv_f rfl rfl h2) rfl ?_
  refine c0_ rfl rfl (r_pickF h2) rfl rfl ?_
  refine c0_ rfl rfl .assign rfl rfl ?_
  refine ch_n fun hU96_4 => ?_
  refine aw_r ?_
  obtain rfl := Option.some.inj hg
  exact ⟨[_], _, [], [], .cons (.tmp rfl) .nil, ⟨rfl, rfl⟩, .val _, trivial, rfl, rfl, rfl, rfl⟩
theorem w_certificate_Key (n : Int) (r : Bool) (hg : g_certificate_Key n = some r) : Fn Try.prog 15 0 [.val (.int .i64 n)] [] (fun d b => d = .val (.bool r) ∧ b = []) := by
 unfold g_certificate_Key at hg
 refine Fn.of Try.func15 rfl rfl rfl fun w0 I ρ0 => ?_
 show awp _ ⟨w0, I, ρ0, 0, 0, 9⟩ _ _ _
 refine sr_ 0 8 mk_U ?_
 refine c0_ rfl rfl .assign rfl rfl ?_
 refine ch_n fun hU8_1 => ?_
 refine sr_ 8 64 hU8_1 ?_
 refine c0_ rfl rfl .move rfl rfl ?_
 refine c0_ rfl rfl r_geq rfl rfl ?_
 refine c0_ rfl rfl .move rfl rfl ?_
 rcases Bool.eq_false_or_eq_true (decide (0 ≤ n)) with h2 | h2
 ·replace hg := cond_t h2 hg
  refine c0_ (gdv_t rfl rfl h2) rfl .move rfl rfl ?_
  refine c0_ (gdv_t rfl rfl h2) rfl r_leq rfl rfl ?_
  refine c0_ rfl rfl (r_pickT h2) rfl rfl ?_
  refine c0_ rfl rfl .assign rfl rfl ?_
  refine ch_n fun hU64_3 => ?_
  refine aw_r ?_
  obtain rfl := Option.some.inj hg
  exact ⟨[_], _, [], [], .cons (.tmp rfl) .nil, ⟨rfl, rfl⟩, .val _, trivial, rfl, rfl, rfl, rfl⟩
 ·replace hg := cond_f h2 hg
  refine ch_skip (gdv_f rfl rfl h2) rfl ?_
  refine ch_skip (gdv_f rfl rfl h2) rfl ?_
  refine c0_ rfl rfl (r_pickF h2) rfl rfl ?_
  refine c0_ rfl rfl .assign rfl rfl ?_
  refine ch_n fun hU64_4 => ?_
  refine aw_r ?_
  obtain rfl := Option.some.inj hg
  exact ⟨[_], _, [], [], .cons (.tmp rfl) .nil, ⟨rfl, rfl⟩, .val _, trivial, rfl, rfl, rfl, rfl⟩
theorem w_certificate_sum (n : Int) (r : Bool) (hg : g_certificate_sum n = some r) : Fn Try.prog 26 0 [.val (.int .i64 n)] [] (fun d b => d = .val (.bool r) ∧ b = []) := by
 unfold g_certificate_sum at hg
 refine Fn.of Try.func26 rfl rfl rfl fun w0 I ρ0 => ?_
 show awp _ ⟨w0, I, ρ0, 0, 0, 9⟩ _ _ _
 refine sr_ 0 8 mk_U ?_
 refine c0_ rfl rfl .assign rfl rfl ?_
 refine ch_n fun hU8_1 => ?_
 refine sr_ 8 64 hU8_1 ?_
 refine c0_ rfl rfl .move rfl rfl ?_
 refine c0_ rfl rfl r_geq rfl rfl ?_
 refine c0_ rfl rfl .move rfl rfl ?_
 rcases Bool.eq_false_or_eq_true (decide (0 ≤ n)) with h2 | h2
 ·replace hg := cond_t h2 hg
  refine c0_ (gdv_t rfl rfl h2) rfl .move rfl rfl ?_
  refine c0_ (gdv_t rfl rfl h2) rfl r_lss rfl rfl ?_
  refine c0_ rfl rfl (r_pickT h2) rfl rfl ?_
  refine c0_ rfl rfl .assign rfl rfl ?_
  refine ch_n fun hU64_3 => ?_
  refine aw_r ?_
  obtain rfl := Option.some.inj hg
  exact ⟨[_], _, [], [], .cons (.tmp rfl) .nil, ⟨rfl, rfl⟩, .val _, trivial, rfl, rfl, rfl, rfl⟩
 ·replace hg := cond_f h2 hg
  refine ch_skip (gdv_f rfl rfl h2) rfl ?_
  refine ch_skip (gdv_f rfl rfl h2) rfl ?_
  refine c0_ rfl rfl (r_pickF h2) rfl rfl ?_
  refine c0_ rfl rfl .assign rfl rfl ?_
  refine ch_n fun hU64_4 => ?_
  refine aw_r ?_
  obtain rfl := Option.some.inj hg
  exact ⟨[_], _, [], [], .cons (.tmp rfl) .nil, ⟨rfl, rfl⟩, .val _, trivial, rfl, rfl, rfl, rfl⟩
theorem w_certificate_valid (c : api_Certificate) (r : Bool) (hg : g_certificate_valid c = some r) : Fn Try.prog 16 0 [.agg [.val (.int .i64 c.Serial), .val (.string c.Issuer), .val (.string c.Subject), .val (.int .i64 c.Key.Alg), .val (.int .i64 c.Key.Bits), .val (.int .i64 c.KeyId), .val (.int .i64 c.Hash.Alg), .val (.int .i64 c.Hash.Bits), .val (.int .i64 c.From), .val (.int .i64 c.To), .val (.bool c.Authority), .val (.int .i64 c.Path), .sl 1 (encL eS c.Names), .val (.int .i64 c.Seal.Key), .val (.int .i64 c.Seal.Sum)]] [] (fun d b => d = .val (.bool r) ∧ b = []) := by
 unfold g_certificate_valid at hg
 refine Fn.of Try.func16 rfl rfl rfl fun w0 I ρ0 => ?_
 show awp _ ⟨w0, I, ρ0, 0, 0, 91⟩ _ _ _
 refine sr_ 0 16 mk_U ?_
 refine c0_ rfl rfl (.box rfl) rfl rfl ?_
 refine c0_ rfl rfl .assign rfl rfl ?_
 refine ch_n fun hU16_1 => ?_
 refine awp_seq ?_
 refine awp_cut (ι := Bool) (fun (x28_1 : Bool) => mk [(1, .ptr 0 0), (28, .val (.bool x28_1))] [(0, .box [.val (.int .i64 c.Serial), .val (.string c.Issuer), .val (.string c.Subject), .val (.int .i64 c.Key.Alg), .val (.int .i64 c.Key.Bits), .val (.int .i64 c.KeyId), .val (.int .i64 c.Hash.Alg), .val (.int .i64 c.Hash.Bits), .val (.int .i64 c.From), .val (.int .i64 c.To), .val (.bool c.Authority), .val (.int .i64 c.Path), .sl 1 (encL eS c.Names), .val (.int .i64 c.Seal.Key), .val (.int .i64 c.Seal.Sum)] 33)] 1) (fun (x28_1 : Bool) => g_certificate_valid.j1 c x28_1 = some r) ?_ ?_
 ·refine awp_region (sys _ _ []) 16 224 hU16_1 rfl rfl ?_
  refine c0_ rfl rfl (.fieldP fd33_0 ty3 (by decide)) rfl rfl ?_
  refine ch_s (rd := [0]) rfl rfl (.loadB1 ty3 rfl) rfl rfl ?_
  refine c0_ rfl rfl r_lss rfl rfl ?_
  refine c0_ rfl rfl .move rfl rfl ?_
  rcases Bool.eq_false_or_eq_true (decide (c.Serial < 0)) with h2 | h2
  ·replace hg := cond_t h2 hg
   iterate 3 refine ch_skip (gdv_f rfl rfl h2) rfl ?_
   refine c0_ rfl rfl (r_pickT h2) rfl rfl ?_
   refine c0_ rfl rfl .move rfl rfl ?_
   iterate 4 refine ch_skip (gdv_f rfl rfl rfl) rfl ?_
   refine c0_ rfl rfl (r_pickT rfl) rfl rfl ?_
   refine c0_ rfl rfl .move rfl rfl ?_
   iterate 4 refine ch_skip (gdv_f rfl rfl rfl) rfl ?_
   refine c0_ rfl rfl (r_pickT rfl) rfl rfl ?_
   refine c0_ rfl rfl .move rfl rfl ?_
   iterate 4 refine ch_skip (gdv_f rfl rfl rfl) rfl ?_
   refine c0_ rfl rfl (r_pickT rfl) rfl rfl ?_
   refine ch_n fun hU224_3 => ?_
   exact ⟨true, hg, Sub.lists [(0, 0)] rfl rfl ⟨⟨_, rfl, .ptr rfl⟩, ⟨_, rfl, .val _⟩, trivial⟩ ⟨.inl ⟨0, _, rfl, rfl, ⟨rfl, .cons (.val _) (.cons (.val _) (.cons (.val _) (.cons (.val _) (.cons (.val _) (.cons (.val _) (.cons (.val _) (.cons (.val _) (.cons (.val _) (.cons (.val _) (.cons (.val _) (.cons (.val _) (.cons (.sl _ _) (.cons (.val _) (.cons (.val _) .nil))))))))))))))⟩⟩, trivial⟩⟩
  ·replace hg := cond_f h2 hg
   refine c0_ (gdv_t rfl rfl h2) rfl (.fieldP fd33_0 ty3 (by decide)) rfl rfl ?_
   refine ch_s (rd := [0]) (gdv_t rfl rfl h2) rfl (.loadB1 ty3 rfl) rfl rfl ?_
   refine c0_ (gdv_t rfl rfl h2) rfl r_gtr rfl rfl ?_
   refine c0_ rfl rfl (r_pickF h2) rfl rfl ?_
   refine c0_ rfl rfl .move rfl rfl ?_
   rcases Bool.eq_false_or_eq_true (decide (1099511627776 < c.Serial)) with h4 | h4
   ·replace hg := cond_t h4 hg
    iterate 4 refine ch_skip (gdv_f rfl rfl h4) rfl ?_
    refine c0_ rfl rfl (r_pickT h4) rfl rfl ?_
    refine c0_ rfl rfl .move rfl rfl ?_
    iterate 4 refine ch_skip (gdv_f rfl rfl rfl) rfl ?_
    refine c0_ rfl rfl (r_pickT rfl) rfl rfl ?_
    refine c0_ rfl rfl .move rfl rfl ?_
    iterate 4 refine ch_skip (gdv_f rfl rfl rfl) rfl ?_
    refine c0_ rfl rfl (r_pickT rfl) rfl rfl ?_
    refine ch_n fun hU224_5 => ?_
    exact ⟨true, hg, Sub.lists [(0, 0)] rfl rfl ⟨⟨_, rfl, .ptr rfl⟩, ⟨_, rfl, .val _⟩, trivial⟩ ⟨.inl ⟨0, _, rfl, rfl, ⟨rfl, .cons (.val _) (.cons (.val _) (.cons (.val _) (.cons (.val _) (.cons (.val _) (.cons (.val _) (.cons (.val _) (.cons (.val _) (.cons (.val _) (.cons (.val _) (.cons (.val _) (.cons (.val _) (.cons (.sl _ _) (.cons (.val _) (.cons (.val _) .nil))))))))))))))⟩⟩, trivial⟩⟩
   ·replace hg := cond_f h4 hg
    refine c0_ (gdv_t rfl rfl h4) rfl (.fieldP fd33_1 ty9 (by decide)) rfl rfl ?_
    refine ch_s (rd := [0]) (gdv_t rfl rfl h4) rfl (.loadB1 ty9 rfl) rfl rfl ?_
    obtain ⟨y, hy, hg⟩ := bind_some hg
    refine ch_callP (rd := []) (ps := []) (gs := []) false (gdv_t rfl rfl h4) (w_catalog_Named c.Issuer _ hy) rfl rfl (.cons .val .nil) rfl rfl (by intro h; cases h) rfl rfl rfl rfl ?_
    refine c0_ (gdv_t rfl rfl h4) rfl r_not rfl rfl ?_
    refine c0_ rfl rfl (r_pickF h4) rfl rfl ?_
    refine c0_ rfl rfl .move rfl rfl ?_
    rcases Bool.eq_false_or_eq_true (!y) with h6 | h6
    ·replace hg := cond_t h6 hg
     iterate 4 refine ch_skip (gdv_f rfl rfl h6) rfl ?_
     refine c0_ rfl rfl (r_pickT h6) rfl rfl ?_
     refine c0_ rfl rfl .move rfl rfl ?_
     iterate 4 refine ch_skip (gdv_f rfl rfl rfl) rfl ?_
     refine c0_ rfl rfl (r_pickT rfl) rfl rfl ?_
     refine ch_n fun hU224_7 => ?_
     exact ⟨true, hg, Sub.lists [(0, 0)] rfl rfl ⟨⟨_, rfl, .ptr rfl⟩, ⟨_, rfl, .val _⟩, trivial⟩ ⟨.inl ⟨0, _, rfl, rfl, ⟨rfl, .cons (.val _) (.cons (.val _) (.cons (.val _) (.cons (.val _) (.cons (.val _) (.cons (.val _) (.cons (.val _) (.cons (.val _) (.cons (.val _) (.cons (.val _) (.cons (.val _) (.cons (.val _) (.cons (.sl _ _) (.cons (.val _) (.cons (.val _) .nil))))))))))))))⟩⟩, trivial⟩⟩
    ·replace hg := cond_f h6 hg
     refine c0_ (gdv_t rfl rfl h6) rfl (.fieldP fd33_2 ty9 (by decide)) rfl rfl ?_
     refine ch_s (rd := [0]) (gdv_t rfl rfl h6) rfl (.loadB1 ty9 rfl) rfl rfl ?_
     obtain ⟨y_2, hy_2, hg⟩ := bind_some hg
     refine ch_callP (rd := []) (ps := []) (gs := []) false (gdv_t rfl rfl h6) (w_catalog_Named c.Subject _ hy_2) rfl rfl (.cons .val .nil) rfl rfl (by intro h; cases h) rfl rfl rfl rfl ?_
     refine c0_ (gdv_t rfl rfl h6) rfl r_not rfl rfl ?_
     refine c0_ rfl rfl (r_pickF h6) rfl rfl ?_
     refine c0_ rfl rfl .move rfl rfl ?_
     rcases Bool.eq_false_or_eq_true (!y_2) with h8 | h8
     ·replace hg := cond_t h8 hg
      iterate 4 refine ch_skip (gdv_f rfl rfl h8) rfl ?_
      refine c0_ rfl rfl (r_pickT h8) rfl rfl ?_
      refine ch_n fun hU224_9 => ?_
      exact ⟨true, hg, Sub.lists [(0, 0)] rfl rfl ⟨⟨_, rfl, .ptr rfl⟩, ⟨_, rfl, .val _⟩, trivial⟩ ⟨.inl ⟨0, _, rfl, rfl, ⟨rfl, .cons (.val _) (.cons (.val _) (.cons (.val _) (.cons (.val _) (.cons (.val _) (.cons (.val _) (.cons (.val _) (.cons (.val _) (.cons (.val _) (.cons (.val _) (.cons (.val _) (.cons (.val _) (.cons (.sl _ _) (.cons (.val _) (.cons (.val _) .nil))))))))))))))⟩⟩, trivial⟩⟩
     ·replace hg := cond_f h8 hg
      refine c0_ (gdv_t rfl rfl h8) rfl (.fieldP fd33_10 ty29 (by decide)) rfl rfl ?_
      refine ch_s (rd := [0]) (gdv_t rfl rfl h8) rfl (.loadB1 ty29 rfl) rfl rfl ?_
      obtain ⟨y_3, hy_3, hg⟩ := bind_some hg
      refine ch_callP (rd := []) (ps := []) (gs := []) false (gdv_t rfl rfl h8) (w_certificate_named c.Names _ hy_3) rfl rfl (.cons .sl .nil) rfl rfl (by intro h; cases h) rfl rfl rfl rfl ?_
      refine c0_ (gdv_t rfl rfl h8) rfl r_not rfl rfl ?_
      refine c0_ rfl rfl (r_pickF h8) rfl rfl ?_
      refine ch_n fun hU224_10 => ?_
      exact ⟨!y_3, hg, Sub.lists [(0, 0)] rfl rfl ⟨⟨_, rfl, .ptr rfl⟩, ⟨_, rfl, .val _⟩, trivial⟩ ⟨.inl ⟨0, _, rfl, rfl, ⟨rfl, .cons (.val _) (.cons (.val _) (.cons (.val _) (.cons (.val _) (.cons (.val _) (.cons (.val _) (.cons (.val _) (.cons (.val _) (.cons (.val _) (.cons (.val _) (.cons (.val _) (.cons (.val _) (.cons (.sl _ _) (.cons (.val _) (.cons (.val _) .nil))))))))))))))⟩⟩, trivial⟩⟩
 ·rintro x28_1 hg
  replace hg : g_certificate_valid.j1 c x28_1 = some r := hg
  show awp _ _ _ _ (mk _ _ _)
  unfold g_certificate_valid.j1 at hg
  refine awp_cond rfl (fun h11 => ?_) (fun h11 => ?_)
  ·replace hg := cond_t h11 hg
   refine sr_ 1 9 mk_U ?_
   refine c0_ rfl rfl .assign rfl rfl ?_
   refine ch_n fun hU9_12 => ?_
   refine aw_r ?_
   obtain rfl := Option.some.inj hg
   exact ⟨[_], _, [], [], .cons (.tmp rfl) .nil, ⟨rfl, rfl⟩, .val _, trivial, rfl, rfl, rfl, rfl⟩
  ·replace hg := cond_f h11 hg
   refine aw_s ?_
   refine awp_seq ?_
   refine awp_cut (ι := Bool) (fun (x58_2 : Bool) => mk [(1, .ptr 0 0), (58, .val (.bool x58_2))] [(0, .box [.val (.int .i64 c.Serial), .val (.string c.Issuer), .val (.string c.Subject), .val (.int .i64 c.Key.Alg), .val (.int .i64 c.Key.Bits), .val (.int .i64 c.KeyId), .val (.int .i64 c.Hash.Alg), .val (.int .i64 c.Hash.Bits), .val (.int .i64 c.From), .val (.int .i64 c.To), .val (.bool c.Authority), .val (.int .i64 c.Path), .sl 1 (encL eS c.Names), .val (.int .i64 c.Seal.Key), .val (.int .i64 c.Seal.Sum)] 33)] 1) (fun (x58_2 : Bool) => g_certificate_valid.j2 c x58_2 = some r) ?_ ?_
   ·refine awp_region (sys _ _ []) 1 241 mk_U rfl rfl ?_
    refine c0_ rfl rfl (.fieldP fd33_3 ty28 (by decide)) rfl rfl ?_
    refine ch_s (rd := [0]) rfl rfl (.loadBA ty28 (Nat.le_of_ble_eq_true rfl)) rfl rfl ?_
    obtain ⟨y_4, hy_4, hg⟩ := bind_some hg
    refine ch_callP (rd := []) (ps := []) (gs := []) false rfl (w_certificate_of c.Key 2 _ hy_4) rfl rfl (.cons (.agg (.cons .val (.cons .val .nil))) (.cons .val .nil)) rfl rfl (by intro h; cases h) rfl rfl rfl rfl ?_
    refine c0_ rfl rfl r_not rfl rfl ?_
    refine c0_ rfl rfl .move rfl rfl ?_
    rcases Bool.eq_false_or_eq_true (!y_4) with h13 | h13
    ·replace hg := cond_t h13 hg
     iterate 4 refine ch_skip (gdv_f rfl rfl h13) rfl ?_
     refine c0_ rfl rfl (r_pickT h13) rfl rfl ?_
     refine c0_ rfl rfl .move rfl rfl ?_
     iterate 4 refine ch_skip (gdv_f rfl rfl rfl) rfl ?_
     refine c0_ rfl rfl (r_pickT rfl) rfl rfl ?_
     refine c0_ rfl rfl .move rfl rfl ?_
     iterate 5 refine ch_skip (gdv_f rfl rfl rfl) rfl ?_
     refine c0_ rfl rfl (r_pickT rfl) rfl rfl ?_
     refine c0_ rfl rfl .move rfl rfl ?_
     iterate 5 refine ch_skip (gdv_f rfl rfl rfl) rfl ?_
     refine c0_ rfl rfl (r_pickT rfl) rfl rfl ?_
     refine ch_n fun hU241_14 => ?_
     exact ⟨true, hg, Sub.lists [(0, 0)] rfl rfl ⟨⟨_, rfl, .ptr rfl⟩, ⟨_, rfl, .val _⟩, trivial⟩ ⟨.inl ⟨0, _, rfl, rfl, ⟨rfl, .cons (.val _) (.cons (.val _) (.cons (.val _) (.cons (.val _) (.cons (.val _) (.cons (.val _) (.cons (.val _) (.cons (.val _) (.cons (.val _) (.cons (.val _) (.cons (.val _) (.cons (.val _) (.cons (.sl _ _) (.cons (.val _) (.cons (.val _) .nil))))))))))))))⟩⟩, trivial⟩⟩
    ·replace hg := cond_f h13 hg
     refine c0_ (gdv_t rfl rfl h13) rfl (.fieldP fd33_4 ty3 (by decide)) rfl rfl ?_
     refine ch_s (rd := [0]) (gdv_t rfl rfl h13) rfl (.loadB1 ty3 rfl) rfl rfl ?_
     obtain ⟨y_5, hy_5, hg⟩ := bind_some hg
     refine ch_callP (rd := []) (ps := []) (gs := []) false (gdv_t rfl rfl h13) (w_certificate_Key c.KeyId _ hy_5) rfl rfl (.cons .val .nil) rfl rfl (by intro h; cases h) rfl rfl rfl rfl ?_
     refine c0_ (gdv_t rfl rfl h13) rfl r_not rfl rfl ?_
     refine c0_ rfl rfl (r_pickF h13) rfl rfl ?_
     refine c0_ rfl rfl .move rfl rfl ?_
     rcases Bool.eq_false_or_eq_true (!y_5) with h15 | h15
     ·replace hg := cond_t h15 hg
      iterate 4 refine ch_skip (gdv_f rfl rfl h15) rfl ?_
      refine c0_ rfl rfl (r_pickT h15) rfl rfl ?_
      refine c0_ rfl rfl .move rfl rfl ?_
      iterate 5 refine ch_skip (gdv_f rfl rfl rfl) rfl ?_
      refine c0_ rfl rfl (r_pickT rfl) rfl rfl ?_
      refine c0_ rfl rfl .move rfl rfl ?_
      iterate 5 refine ch_skip (gdv_f rfl rfl rfl) rfl ?_
      refine c0_ rfl rfl (r_pickT rfl) rfl rfl ?_
      refine ch_n fun hU241_16 => ?_
      exact ⟨true, hg, Sub.lists [(0, 0)] rfl rfl ⟨⟨_, rfl, .ptr rfl⟩, ⟨_, rfl, .val _⟩, trivial⟩ ⟨.inl ⟨0, _, rfl, rfl, ⟨rfl, .cons (.val _) (.cons (.val _) (.cons (.val _) (.cons (.val _) (.cons (.val _) (.cons (.val _) (.cons (.val _) (.cons (.val _) (.cons (.val _) (.cons (.val _) (.cons (.val _) (.cons (.val _) (.cons (.sl _ _) (.cons (.val _) (.cons (.val _) .nil))))))))))))))⟩⟩, trivial⟩⟩
     ·replace hg := cond_f h15 hg
      refine c0_ (gdv_t rfl rfl h15) rfl (.fieldP fd33_5 ty28 (by decide)) rfl rfl ?_
      refine ch_s (rd := [0]) (gdv_t rfl rfl h15) rfl (.loadBA ty28 (Nat.le_of_ble_eq_true rfl)) rfl rfl ?_
      obtain ⟨y_6, hy_6, hg⟩ := bind_some hg
      refine ch_callP (rd := []) (ps := []) (gs := []) false (gdv_t rfl rfl h15) (w_certificate_of c.Hash 1 _ hy_6) rfl rfl (.cons (.agg (.cons .val (.cons .val .nil))) (.cons .val .nil)) rfl rfl (by intro h; cases h) rfl rfl rfl rfl ?_
      refine c0_ (gdv_t rfl rfl h15) rfl r_not rfl rfl ?_
      refine c0_ rfl rfl (r_pickF h15) rfl rfl ?_
      refine c0_ rfl rfl .move rfl rfl ?_
      rcases Bool.eq_false_or_eq_true (!y_6) with h17 | h17
      ·replace hg := cond_t h17 hg
       iterate 5 refine ch_skip (gdv_f rfl rfl h17) rfl ?_
       refine c0_ rfl rfl (r_pickT h17) rfl rfl ?_
       refine c0_ rfl rfl .move rfl rfl ?_
       iterate 5 refine ch_skip (gdv_f rfl rfl rfl) rfl ?_
       refine c0_ rfl rfl (r_pickT rfl) rfl rfl ?_
       refine ch_n fun hU241_18 => ?_
       exact ⟨true, hg, Sub.lists [(0, 0)] rfl rfl ⟨⟨_, rfl, .ptr rfl⟩, ⟨_, rfl, .val _⟩, trivial⟩ ⟨.inl ⟨0, _, rfl, rfl, ⟨rfl, .cons (.val _) (.cons (.val _) (.cons (.val _) (.cons (.val _) (.cons (.val _) (.cons (.val _) (.cons (.val _) (.cons (.val _) (.cons (.val _) (.cons (.val _) (.cons (.val _) (.cons (.val _) (.cons (.sl _ _) (.cons (.val _) (.cons (.val _) .nil))))))))))))))⟩⟩, trivial⟩⟩
      ·replace hg := cond_f h17 hg
       refine c0_ (gdv_t rfl rfl h17) rfl (.fieldP fd33_11 ty31 (by decide)) rfl rfl ?_
       refine c0_ (gdv_t rfl rfl h17) rfl (.fieldP fd31_0 ty3 (by decide)) rfl rfl ?_
       refine ch_s (rd := [0]) (gdv_t rfl rfl h17) rfl (.loadB1 ty3 rfl) rfl rfl ?_
       obtain ⟨y_7, hy_7, hg⟩ := bind_some hg
       refine ch_callP (rd := []) (ps := []) (gs := []) false (gdv_t rfl rfl h17) (w_certificate_Key c.Seal.Key _ hy_7) rfl rfl (.cons .val .nil) rfl rfl (by intro h; cases h) rfl rfl rfl rfl ?_
       refine c0_ (gdv_t rfl rfl h17) rfl r_not rfl rfl ?_
       refine c0_ rfl rfl (r_pickF h17) rfl rfl ?_
       refine c0_ rfl rfl .move rfl rfl ?_
       rcases Bool.eq_false_or_eq_true (!y_7) with h19 | h19
       ·replace hg := cond_t h19 hg
        iterate 5 refine ch_skip (gdv_f rfl rfl h19) rfl ?_
        refine c0_ rfl rfl (r_pickT h19) rfl rfl ?_
        refine ch_n fun hU241_20 => ?_
        exact ⟨true, hg, Sub.lists [(0, 0)] rfl rfl ⟨⟨_, rfl, .ptr rfl⟩, ⟨_, rfl, .val _⟩, trivial⟩ ⟨.inl ⟨0, _, rfl, rfl, ⟨rfl, .cons (.val _) (.cons (.val _) (.cons (.val _) (.cons (.val _) (.cons (.val _) (.cons (.val _) (.cons (.val _) (.cons (.val _) (.cons (.val _) (.cons (.val _) (.cons (.val _) (.cons (.val _) (.cons (.sl _ _) (.cons (.val _) (.cons (.val _) .nil))))))))))))))⟩⟩, trivial⟩⟩
       ·replace hg := cond_f h19 hg
        refine c0_ (gdv_t rfl rfl h19) rfl (.fieldP fd33_11 ty31 (by decide)) rfl rfl ?_
        refine c0_ (gdv_t rfl rfl h19) rfl (.fieldP fd31_1 ty3 (by decide)) rfl rfl ?_
        refine ch_s (rd := [0]) (gdv_t rfl rfl h19) rfl (.loadB1 ty3 rfl) rfl rfl ?_
        obtain ⟨y_8, hy_8, hg⟩ := bind_some hg
        refine ch_callP (rd := []) (ps := []) (gs := []) false (gdv_t rfl rfl h19) (w_certificate_sum c.Seal.Sum _ hy_8) rfl rfl (.cons .val .nil) rfl rfl (by intro h; cases h) rfl rfl rfl rfl ?_
        refine c0_ (gdv_t rfl rfl h19) rfl r_not rfl rfl ?_
        refine c0_ rfl rfl (r_pickF h19) rfl rfl ?_
        refine ch_n fun hU241_21 => ?_
        exact ⟨!y_8, hg, Sub.lists [(0, 0)] rfl rfl ⟨⟨_, rfl, .ptr rfl⟩, ⟨_, rfl, .val _⟩, trivial⟩ ⟨.inl ⟨0, _, rfl, rfl, ⟨rfl, .cons (.val _) (.cons (.val _) (.cons (.val _) (.cons (.val _) (.cons (.val _) (.cons (.val _) (.cons (.val _) (.cons (.val _) (.cons (.val _) (.cons (.val _) (.cons (.val _) (.cons (.val _) (.cons (.sl _ _) (.cons (.val _) (.cons (.val _) .nil))))))))))))))⟩⟩, trivial⟩⟩
   ·rintro x58_2 hg
    replace hg : g_certificate_valid.j2 c x58_2 = some r := hg
    show awp _ _ _ _ (mk _ _ _)
    unfold g_certificate_valid.j2 at hg
    refine awp_cond rfl (fun h22 => ?_) (fun h22 => ?_)
    ·replace hg := cond_t h22 hg
     refine sr_ 1 9 mk_U ?_
     refine c0_ rfl rfl .assign rfl rfl ?_
     refine ch_n fun hU9_23 => ?_
     refine aw_r ?_
     obtain rfl := Option.some.inj hg
     exact ⟨[_], _, [], [], .cons (.tmp rfl) .nil, ⟨rfl, rfl⟩, .val _, trivial, rfl, rfl, rfl, rfl⟩
    ·replace hg := cond_f h22 hg
     refine aw_s ?_
     refine awp_seq ?_
     refine awp_cut (ι := Bool) (fun (x73_3 : Bool) => mk [(1, .ptr 0 0), (73, .val (.bool x73_3))] [(0, .box [.val (.int .i64 c.Serial), .val (.string c.Issuer), .val (.string c.Subject), .val (.int .i64 c.Key.Alg), .val (.int .i64 c.Key.Bits), .val (.int .i64 c.KeyId), .val (.int .i64 c.Hash.Alg), .val (.int .i64 c.Hash.Bits), .val (.int .i64 c.From), .val (.int .i64 c.To), .val (.bool c.Authority), .val (.int .i64 c.Path), .sl 1 (encL eS c.Names), .val (.int .i64 c.Seal.Key), .val (.int .i64 c.Seal.Sum)] 33)] 1) (fun (x73_3 : Bool) => g_certificate_valid.j3 c x73_3 = some r) ?_ ?_
     ·refine awp_region (sys _ _ []) 1 121 mk_U rfl rfl ?_
      refine c0_ rfl rfl (.fieldP fd33_6 ty3 (by decide)) rfl rfl ?_
      refine ch_s (rd := [0]) rfl rfl (.loadB1 ty3 rfl) rfl rfl ?_
      refine c0_ rfl rfl r_lss rfl rfl ?_
      refine c0_ rfl rfl .move rfl rfl ?_
      rcases Bool.eq_false_or_eq_true (decide (c.From < 0)) with h24 | h24
      ·replace hg := cond_t h24 hg
       iterate 5 refine ch_skip (gdv_f rfl rfl h24) rfl ?_
       refine c0_ rfl rfl (r_pickT h24) rfl rfl ?_
       refine c0_ rfl rfl .move rfl rfl ?_
       iterate 3 refine ch_skip (gdv_f rfl rfl rfl) rfl ?_
       refine c0_ rfl rfl (r_pickT rfl) rfl rfl ?_
       refine ch_n fun hU121_25 => ?_
       exact ⟨true, hg, Sub.lists [(0, 0)] rfl rfl ⟨⟨_, rfl, .ptr rfl⟩, ⟨_, rfl, .val _⟩, trivial⟩ ⟨.inl ⟨0, _, rfl, rfl, ⟨rfl, .cons (.val _) (.cons (.val _) (.cons (.val _) (.cons (.val _) (.cons (.val _) (.cons (.val _) (.cons (.val _) (.cons (.val _) (.cons (.val _) (.cons (.val _) (.cons (.val _) (.cons (.val _) (.cons (.sl _ _) (.cons (.val _) (.cons (.val _) .nil))))))))))))))⟩⟩, trivial⟩⟩
      ·replace hg := cond_f h24 hg
       refine c0_ (gdv_t rfl rfl h24) rfl (.fieldP fd33_6 ty3 (by decide)) rfl rfl ?_
       refine ch_s (rd := [0]) (gdv_t rfl rfl h24) rfl (.loadB1 ty3 rfl) rfl rfl ?_
       refine c0_ (gdv_t rfl rfl h24) rfl (.fieldP fd33_7 ty3 (by decide)) rfl rfl ?_
       refine ch_s (rd := [0]) (gdv_t rfl rfl h24) rfl (.loadB1 ty3 rfl) rfl rfl ?_
       refine c0_ (gdv_t rfl rfl h24) rfl r_gtr rfl rfl ?_
       refine c0_ rfl rfl (r_pickF h24) rfl rfl ?_
       refine c0_ rfl rfl .move rfl rfl ?_
       rcases Bool.eq_false_or_eq_true (decide (c.To < c.From)) with h26 | h26
       ·replace hg := cond_t h26 hg
        iterate 3 refine ch_skip (gdv_f rfl rfl h26) rfl ?_
        refine c0_ rfl rfl (r_pickT h26) rfl rfl ?_
        refine ch_n fun hU121_27 => ?_
        exact ⟨true, hg, Sub.lists [(0, 0)] rfl rfl ⟨⟨_, rfl, .ptr rfl⟩, ⟨_, rfl, .val _⟩, trivial⟩ ⟨.inl ⟨0, _, rfl, rfl, ⟨rfl, .cons (.val _) (.cons (.val _) (.cons (.val _) (.cons (.val _) (.cons (.val _) (.cons (.val _) (.cons (.val _) (.cons (.val _) (.cons (.val _) (.cons (.val _) (.cons (.val _) (.cons (.val _) (.cons (.sl _ _) (.cons (.val _) (.cons (.val _) .nil))))))))))))))⟩⟩, trivial⟩⟩
       ·replace hg := cond_f h26 hg
        refine c0_ (gdv_t rfl rfl h26) rfl (.fieldP fd33_7 ty3 (by decide)) rfl rfl ?_
        refine ch_s (rd := [0]) (gdv_t rfl rfl h26) rfl (.loadB1 ty3 rfl) rfl rfl ?_
        refine c0_ (gdv_t rfl rfl h26) rfl r_gtr rfl rfl ?_
        refine c0_ rfl rfl (r_pickF h26) rfl rfl ?_
        refine ch_n fun hU121_28 => ?_
        exact ⟨decide (40000 < c.To), hg, Sub.lists [(0, 0)] rfl rfl ⟨⟨_, rfl, .ptr rfl⟩, ⟨_, rfl, .val _⟩, trivial⟩ ⟨.inl ⟨0, _, rfl, rfl, ⟨rfl, .cons (.val _) (.cons (.val _) (.cons (.val _) (.cons (.val _) (.cons (.val _) (.cons (.val _) (.cons (.val _) (.cons (.val _) (.cons (.val _) (.cons (.val _) (.cons (.val _) (.cons (.val _) (.cons (.sl _ _) (.cons (.val _) (.cons (.val _) .nil))))))))))))))⟩⟩, trivial⟩⟩
     ·rintro x73_3 hg
      replace hg : g_certificate_valid.j3 c x73_3 = some r := hg
      show awp _ _ _ _ (mk _ _ _)
      unfold g_certificate_valid.j3 at hg
      refine awp_cond rfl (fun h29 => ?_) (fun h29 => ?_)
      ·replace hg := cond_t h29 hg
       refine sr_ 1 9 mk_U ?_
       refine c0_ rfl rfl .assign rfl rfl ?_
       refine ch_n fun hU9_30 => ?_
       refine aw_r ?_
       obtain rfl := Option.some.inj hg
       exact ⟨[_], _, [], [], .cons (.tmp rfl) .nil, ⟨rfl, rfl⟩, .val _, trivial, rfl, rfl, rfl, rfl⟩
      ·replace hg := cond_f h29 hg
       refine aw_s ?_
       refine sr_ 1 145 mk_U ?_
       refine c0_ rfl rfl (.fieldP fd33_9 ty3 (by decide)) rfl rfl ?_
       refine ch_s (rd := [0]) rfl rfl (.loadB1 ty3 rfl) rfl rfl ?_
       refine c0_ rfl rfl r_geq rfl rfl ?_
       refine c0_ rfl rfl .move rfl rfl ?_
       rcases Bool.eq_false_or_eq_true (decide (0 ≤ c.Path)) with h31 | h31
       ·replace hg := cond_t h31 hg
        refine c0_ (gdv_t rfl rfl h31) rfl (.fieldP fd33_9 ty3 (by decide)) rfl rfl ?_
        refine ch_s (rd := [0]) (gdv_t rfl rfl h31) rfl (.loadB1 ty3 rfl) rfl rfl ?_
        refine c0_ (gdv_t rfl rfl h31) rfl r_leq rfl rfl ?_
        refine c0_ rfl rfl (r_pickT h31) rfl rfl ?_
        refine c0_ rfl rfl .move rfl rfl ?_
        rcases Bool.eq_false_or_eq_true (decide (c.Path ≤ 8)) with h32 | h32
        ·replace hg := cond_t h32 hg
         refine c0_ (gdv_t rfl rfl h32) rfl (.fieldP fd33_8 ty4 (by decide)) rfl rfl ?_
         refine ch_s (rd := [0]) (gdv_t rfl rfl h32) rfl (.loadB1 ty4 rfl) rfl rfl ?_
         refine c0_ (gdv_t rfl rfl h32) rfl .move rfl rfl ?_
         rcases Bool.eq_false_or_eq_true (c.Authority) with h33 | h33
         ·replace hg := cond_t h33 hg
          iterate 3 refine ch_skip (gdv_f rfl rfl h33) rfl ?_
          refine c0_ (gdv_t rfl rfl h32) rfl (r_pickT h33) rfl rfl ?_
          refine c0_ rfl rfl (r_pickT h32) rfl rfl ?_
          refine c0_ rfl rfl .assign rfl rfl ?_
          refine ch_n fun hU145_34 => ?_
          refine aw_r ?_
          obtain rfl := Option.some.inj hg
          exact ⟨[_], _, [], [], .cons (.tmp rfl) .nil, ⟨rfl, rfl⟩, .val _, trivial, rfl, rfl, rfl, rfl⟩
         ·replace hg := cond_f h33 hg
          refine c0_ (gdv_t rfl rfl h33) rfl (.fieldP fd33_9 ty3 (by decide)) rfl rfl ?_
          refine ch_s (rd := [0]) (gdv_t rfl rfl h33) rfl (.loadB1 ty3 rfl) rfl rfl ?_
          refine c0_ (gdv_t rfl rfl h33) rfl r_eql rfl rfl ?_
          refine c0_ (gdv_t rfl rfl h32) rfl (r_pickF h33) rfl rfl ?_
          refine c0_ rfl rfl (r_pickT h32) rfl rfl ?_
          refine c0_ rfl rfl .assign rfl rfl ?_
          refine ch_n fun hU145_35 => ?_
          refine aw_r ?_
          obtain rfl := Option.some.inj hg
          exact ⟨[_], _, [], [], .cons (.tmp rfl) .nil, ⟨rfl, rfl⟩, .val _, trivial, rfl, rfl, rfl, rfl⟩
        ·replace hg := cond_f h32 hg
         iterate 3 refine ch_skip (gdv_f rfl rfl h32) rfl ?_
         iterate 3 refine ch_skip rfl rfl ?_
         refine ch_skip (gdv_f rfl rfl h32) rfl ?_
         refine c0_ rfl rfl (r_pickF h32) rfl rfl ?_
         refine c0_ rfl rfl .assign rfl rfl ?_
         refine ch_n fun hU145_36 => ?_
         refine aw_r ?_
         obtain rfl := Option.some.inj hg
         exact ⟨[_], _, [], [], .cons (.tmp rfl) .nil, ⟨rfl, rfl⟩, .val _, trivial, rfl, rfl, rfl, rfl⟩
       ·replace hg := cond_f h31 hg
        iterate 3 refine ch_skip (gdv_f rfl rfl h31) rfl ?_
        refine c0_ rfl rfl (r_pickF h31) rfl rfl ?_
        refine c0_ rfl rfl .move rfl rfl ?_
        iterate 3 refine ch_skip (gdv_f rfl rfl rfl) rfl ?_
        iterate 3 refine ch_skip rfl rfl ?_
        refine ch_skip (gdv_f rfl rfl rfl) rfl ?_
        refine c0_ rfl rfl (r_pickF rfl) rfl rfl ?_
        refine c0_ rfl rfl .assign rfl rfl ?_
        refine ch_n fun hU145_37 => ?_
        refine aw_r ?_
        obtain rfl := Option.some.inj hg
        exact ⟨[_], _, [], [], .cons (.tmp rfl) .nil, ⟨rfl, rfl⟩, .val _, trivial, rfl, rfl, rfl, rfl⟩
end Go.Proofs.Ytlcfdnjokgbccaa
