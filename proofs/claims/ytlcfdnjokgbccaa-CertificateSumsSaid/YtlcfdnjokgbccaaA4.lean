/- The program computes the plain functions. -/
import Derived.Test.YtlcfdnjokgbccaaT1
import Derived.Test.YtlcfdnjokgbccaaA2
import Derived.Test.YtlcfdnjokgbccaaA3
set_option linter.unusedVariables false
set_option linter.unusedSimpArgs false
set_option maxRecDepth 100000
set_option maxHeartbeats 1600000
namespace Go.Proofs.Ytlcfdnjokgbccaa
open Go.RowKit
theorem w_der_AsInt (v : api_Value) (r : Int × Int) (hg : g_der_AsInt v = some r) : Fn Try.prog 64 0 [.agg [.val (.int .i64 v.Tag), .sl 1 (encL e8 v.Bytes), .val (.bool v.Nested), .sl 4 (encL api_Value.enc v.Elements)]] [] (fun d b => d = .tup [.val (.int .i64 r.1), .val (.int .i64 r.2)] ∧ b = []) := by
 unfold g_der_AsInt at hg
 refine Fn.of Try.func64 rfl rfl rfl fun w0 I ρ0 => ?_
 show awp _ ⟨w0, I, ρ0, 0, 0, 52⟩ _ _ _
 refine sr_ 0 24 mk_U ?_
 refine c0_ rfl rfl (.box rfl) rfl rfl ?_
 refine c0_ rfl rfl .assign rfl rfl ?_
 refine c0_ rfl rfl .assign rfl rfl ?_
 refine ch_n fun hU24_1 => ?_
 refine awp_seq ?_
 refine awp_cut (ι := Bool) (fun (x21_1 : Bool) => mk [(1, .ptr 0 0), (21, .val (.bool x21_1))] [(0, .box [.val (.int .i64 v.Tag), .sl 1 (encL e8 v.Bytes), .val (.bool v.Nested), .sl 4 (encL api_Value.enc v.Elements)] 49)] 1) (fun (x21_1 : Bool) => g_der_AsInt.j1 v x21_1 = some r) ?_ ?_
 ·refine awp_region (sys _ _ []) 24 144 hU24_1 rfl rfl ?_
  refine ch_s (rd := [0]) rfl rfl (.loadBA ty49 (Nat.le_of_ble_eq_true rfl)) rfl rfl ?_
  obtain ⟨y, hy, hg⟩ := bind_some hg
  refine ch_callP (rd := []) (ps := []) (gs := []) false rfl (w_der_plain v 2 _ hy) rfl rfl (.cons (.agg (.cons .val (.cons .sl (.cons .val (.cons .sl .nil))))) (.cons .val .nil)) rfl rfl (by intro h; cases h) rfl rfl rfl rfl ?_
  refine c0_ rfl rfl r_not rfl rfl ?_
  refine c0_ rfl rfl .move rfl rfl ?_
  rcases Bool.eq_false_or_eq_true (!y) with h2 | h2
  ·replace hg := cond_t h2 hg
   iterate 4 refine ch_skip (gdv_f rfl rfl h2) rfl ?_
   refine c0_ rfl rfl (r_pickT h2) rfl rfl ?_
   refine c0_ rfl rfl .move rfl rfl ?_
   iterate 4 refine ch_skip (gdv_f rfl rfl rfl) rfl ?_
   refine c0_ rfl rfl (r_pickT rfl) rfl rfl ?_
   refine ch_n fun hU144_3 => ?_
   exact ⟨true, hg, Sub.lists [(0, 0)] rfl rfl ⟨⟨_, rfl, .ptr rfl⟩, ⟨_, rfl, .val _⟩, trivial⟩ ⟨.inl ⟨0, _, rfl, rfl, ⟨rfl, .cons (.val _) (.cons (.sl _ _) (.cons (.val _) (.cons (.sl _ _) .nil)))⟩⟩, trivial⟩⟩
  ·replace hg := cond_f h2 hg
   refine c0_ (gdv_t rfl rfl h2) rfl (.fieldP fd49_1 ty22 (by decide)) rfl rfl ?_
   refine ch_s (rd := [0]) (gdv_t rfl rfl h2) rfl (.loadB1 ty22 rfl) rfl rfl ?_
   refine c0_ (gdv_t rfl rfl h2) rfl (r_lenS sl22 e8_len) rfl rfl ?_
   refine c0_ (gdv_t rfl rfl h2) rfl r_lss rfl rfl ?_
   refine c0_ rfl rfl (r_pickF h2) rfl rfl ?_
   refine c0_ rfl rfl .move rfl rfl ?_
   rcases Bool.eq_false_or_eq_true (decide ((v.Bytes.length : Int) < 1)) with h4 | h4
   ·replace hg := cond_t h4 hg
    iterate 4 refine ch_skip (gdv_f rfl rfl h4) rfl ?_
    refine c0_ rfl rfl (r_pickT h4) rfl rfl ?_
    refine ch_n fun hU144_5 => ?_
    exact ⟨true, hg, Sub.lists [(0, 0)] rfl rfl ⟨⟨_, rfl, .ptr rfl⟩, ⟨_, rfl, .val _⟩, trivial⟩ ⟨.inl ⟨0, _, rfl, rfl, ⟨rfl, .cons (.val _) (.cons (.sl _ _) (.cons (.val _) (.cons (.sl _ _) .nil)))⟩⟩, trivial⟩⟩
   ·replace hg := cond_f h4 hg
    refine c0_ (gdv_t rfl rfl h4) rfl (.fieldP fd49_1 ty22 (by decide)) rfl rfl ?_
    refine ch_s (rd := [0]) (gdv_t rfl rfl h4) rfl (.loadB1 ty22 rfl) rfl rfl ?_
    refine c0_ (gdv_t rfl rfl h4) rfl (r_lenS sl22 e8_len) rfl rfl ?_
    refine c0_ (gdv_t rfl rfl h4) rfl r_gtr rfl rfl ?_
    refine c0_ rfl rfl (r_pickF h4) rfl rfl ?_
    refine ch_n fun hU144_6 => ?_
    exact ⟨decide (8 < (v.Bytes.length : Int)), hg, Sub.lists [(0, 0)] rfl rfl ⟨⟨_, rfl, .ptr rfl⟩, ⟨_, rfl, .val _⟩, trivial⟩ ⟨.inl ⟨0, _, rfl, rfl, ⟨rfl, .cons (.val _) (.cons (.sl _ _) (.cons (.val _) (.cons (.sl _ _) .nil)))⟩⟩, trivial⟩⟩
 ·rintro x21_1 hg
  replace hg : g_der_AsInt.j1 v x21_1 = some r := hg
  show awp _ _ _ _ (mk _ _ _)
  unfold g_der_AsInt.j1 at hg
  refine awp_cond rfl (fun h7 => ?_) (fun h7 => ?_)
  ·replace hg := cond_t h7 hg
   refine sr_ 1 17 mk_U ?_
   refine c0_ rfl rfl .assign rfl rfl ?_
   refine c0_ rfl rfl .assign rfl rfl ?_
   refine ch_n fun hU17_8 => ?_
   refine aw_r ?_
   obtain rfl := Option.some.inj hg
   exact ⟨[_, _], _, [], [], .cons (.tmp rfl) (.cons (.tmp rfl) .nil), ⟨rfl, rfl⟩, .tup (.cons (.val _) (.cons (.val _) .nil)), trivial, rfl, rfl, rfl, rfl⟩
  ·replace hg := cond_f h7 hg
   refine aw_s ?_
   refine sr_ 1 9 mk_U ?_
   refine c0_ rfl rfl .assign rfl rfl ?_
   refine ch_n fun hU9_9 => ?_
   refine awp_cut (ι := Int) (fun (n_2 : Int) => mk [(1, .ptr 0 0), (4, .val (.int .u64 n_2))] [(0, .box [.val (.int .i64 v.Tag), .sl 1 (encL e8 v.Bytes), .val (.bool v.Nested), .sl 4 (encL api_Value.enc v.Elements)] 49)] 1) (fun (n_2 : Int) => g_der_AsInt.j2 v n_2 = some r) ?_ ?_
   ·refine awp_seq ?_
    refine awp_region (sys _ _ []) 9 49 hU9_9 rfl rfl ?_
    refine c0_ rfl rfl (.fieldP fd49_1 ty22 (by decide)) rfl rfl ?_
    refine ch_s (rd := [0]) rfl rfl (.loadB1 ty22 rfl) rfl rfl ?_
    obtain ⟨e, he, hg⟩ := bind_some hg
    refine c0_ rfl rfl (r_idxS sl22 e8_len (getI_ix he) (getI_at he)) rfl rfl ?_
    refine c0_ rfl rfl (r_loadE1 ty5 (enc_cell e8_len (getI_at he) (o := 0) (c := .int .u8 (e.toNat : Int)) rfl rfl)) rfl rfl ?_
    refine c0_ rfl rfl r_geq rfl rfl ?_
    refine ch_n fun hU49_10 => ?_
    refine awp_cond rfl (fun h11 => ?_) (fun h11 => ?_)
    ·replace hg := cond_t h11 hg
     refine awp_region (sys _ _ []) 49 73 hU49_10 rfl rfl ?_
     refine c0_ rfl rfl .move rfl rfl ?_
     refine c0_ rfl rfl r_notK rfl rfl ?_
     refine c0_ rfl rfl .assign rfl rfl ?_
     refine ch_n fun hU73_12 => ?_
     exact ⟨notK .u64 0, hg, Sub.lists [(0, 0)] rfl rfl ⟨⟨_, rfl, .ptr rfl⟩, ⟨_, rfl, .val _⟩, trivial⟩ ⟨.inl ⟨0, _, rfl, rfl, ⟨rfl, .cons (.val _) (.cons (.sl _ _) (.cons (.val _) (.cons (.sl _ _) .nil)))⟩⟩, trivial⟩⟩
    ·replace hg := cond_f h11 hg
     refine aw_s ?_
     exact ⟨0, hg, Sub.lists [(0, 0)] rfl rfl ⟨⟨_, rfl, .ptr rfl⟩, ⟨_, rfl, .val _⟩, trivial⟩ ⟨.inl ⟨0, _, rfl, rfl, ⟨rfl, .cons (.val _) (.cons (.sl _ _) (.cons (.val _) (.cons (.sl _ _) .nil)))⟩⟩, trivial⟩⟩
   ·rintro n_2 hg
    replace hg : g_der_AsInt.j2 v n_2 = some r := hg
    show awp _ _ _ _ (mk _ _ _)
    unfold g_der_AsInt.j2 at hg
    refine awp_seq ?_
    refine sr_ 1 33 mk_U ?_
    refine c0_ rfl rfl (.fieldP fd49_1 ty22 (by decide)) rfl rfl ?_
    refine ch_s (rd := [0]) rfl rfl (.loadB1 ty22 rfl) rfl rfl ?_
    refine c0_ rfl rfl (r_lenS sl22 e8_len) rfl rfl ?_
    refine c0_ rfl rfl .move rfl rfl ?_
    refine ch_n fun hU33_13 => ?_
    refine awp_block ?_
    obtain ⟨n3, hg⟩ := loop_some hg
    refine awp_loop (ι := (Int × Int) × Nat) (fun (((n_3, x32_3), _) : (Int × Int) × Nat) => mk [(1, .ptr 0 0), (4, .val (.int .u64 n_3)), (30, .sl 1 (encL e8 v.Bytes)), (31, .val (.int .i64 (v.Bytes.length : Int))), (32, .val (.int .i64 x32_3))] [(0, .box [.val (.int .i64 v.Tag), .sl 1 (encL e8 v.Bytes), .val (.bool v.Nested), .sl 4 (encL api_Value.enc v.Elements)] 49)] 1) (fun (((n_3, x32_3), nq') : (Int × Int) × Nat) => iter (fun q' => g_der_AsInt.l3 v q'.1 q'.2) nq' (n_3, x32_3) = some r) (fun q => q.2) ((n_2, 0), n3) (Sub.lists [(0, 0)] rfl rfl ⟨⟨_, rfl, .ptr rfl⟩, ⟨_, rfl, .val _⟩, ⟨_, rfl, .sl _ _⟩, ⟨_, rfl, .val _⟩, ⟨_, rfl, .val _⟩, trivial⟩ ⟨.inl ⟨0, _, rfl, rfl, ⟨rfl, .cons (.val _) (.cons (.sl _ _) (.cons (.val _) (.cons (.sl _ _) .nil)))⟩⟩, trivial⟩) hg ?_
    rintro ⟨⟨n_3, x32_3⟩, n3⟩ hg
    obtain ⟨m3, o3, rfl, hg, hn3⟩ := iter_some (show iter (fun q' => g_der_AsInt.l3 v q'.1 q'.2) n3 (n_3, x32_3) = some r from hg)
    replace hg : g_der_AsInt.l3 v n_3 x32_3 = some o3 := hg
    show awp _ _ _ _ (mk _ _ _)
    unfold g_der_AsInt.l3 at hg
    refine sr_ 1 9 mk_U ?_
    refine c0_ rfl rfl r_lss rfl rfl ?_
    refine ch_n fun hU9_14 => ?_
    refine awp_seq ?_
    refine awp_cond rfl (fun h15 => ?_) (fun h15 => ?_)
    ·replace hg := cond_t h15 hg
     refine aw_s ?_
     refine awp_seq ?_
     refine awp_block ?_
     refine sr_ 9 33 hU9_14 ?_
     obtain ⟨e_2, he_2, hg⟩ := bind_some hg
     refine c0_ rfl rfl (r_idxS sl22 e8_len (getI_ix he_2) (getI_at he_2)) rfl rfl ?_
     refine c0_ rfl rfl (r_loadE1 ty5 (enc_cell e8_len (getI_at he_2) (o := 0) (c := .int .u8 (e_2.toNat : Int)) rfl rfl)) rfl rfl ?_
     refine c0_ rfl rfl .assign rfl rfl ?_
     refine ch_n fun hU33_16 => ?_
     refine awp_region (sys _ _ []) 33 81 hU33_16 rfl rfl ?_
     refine c0_ rfl rfl .move rfl rfl ?_
     obtain ⟨q, hq, hg⟩ := bind_some hg
     refine c0_ rfl rfl (r_shlK hq) rfl rfl ?_
     refine c0_ rfl rfl .move rfl rfl ?_
     refine c0_ rfl rfl (r_convK und5 und86) rfl rfl ?_
     refine c0_ rfl rfl r_orK rfl rfl ?_
     refine c0_ rfl rfl .assign rfl rfl ?_
     refine ch_n fun hU81_17 => ?_
     refine awp_region (sys _ _ []) 81 97 hU81_17 rfl rfl ?_
     refine c0_ rfl rfl r_add rfl rfl ?_
     refine c0_ rfl rfl .move rfl rfl ?_
     refine ch_n fun hU97_18 => ?_
     obtain rfl := Option.some.inj hg
     exact ⟨((orK .u64 q (IntKind.wrap .u64 (e_2.toNat : Int)), W (x32_3 + 1)), m3), Nat.lt_succ_self _, hn3, Sub.lists [(0, 0)] rfl rfl ⟨⟨_, rfl, .ptr rfl⟩, ⟨_, rfl, .val _⟩, ⟨_, rfl, .sl _ _⟩, ⟨_, rfl, .val _⟩, ⟨_, rfl, .val _⟩, trivial⟩ ⟨.inl ⟨0, _, rfl, rfl, ⟨rfl, .cons (.val _) (.cons (.sl _ _) (.cons (.val _) (.cons (.sl _ _) .nil)))⟩⟩, trivial⟩⟩
    ·replace hg := cond_f h15 hg
     refine awp_exit ?_
     repeat first | refine st_ ?_ | refine sn_ ?_
     replace hg := leave hg hn3
     refine awp_seq ?_
     refine awp_seq ?_
     refine awp_draw (sys _ _ []) (by kernel_rfl) [0, 1, 3, 7, 0, 16, 63, 127] 9 73 hU9_14 rfl rfl (by kernel_rfl) ?_
     refine c0_ rfl rfl .move rfl rfl ?_
     refine c0_ rfl rfl (r_conv_i64 und86 und3) rfl rfl ?_
     obtain ⟨y_2, hy_2, hg⟩ := bind_some hg
     refine ch_callP (rd := []) (ps := []) (gs := []) false rfl (w_der_Int (W n_3) _ hy_2) rfl rfl (.cons .val .nil) rfl rfl (by intro h; cases h) rfl rfl rfl rfl ?_
     refine c0_ rfl rfl (.field1 fd49_1 ty22 rfl) rfl rfl ?_
     refine c0_ rfl rfl (.fieldP fd49_1 ty22 (by decide)) rfl rfl ?_
     refine ch_s (rd := [0]) rfl rfl (.loadB1 ty22 rfl) rfl rfl ?_
     obtain ⟨y_3, hy_3, hg⟩ := bind_some hg
     refine ch_callP (rd := []) (ps := []) (gs := []) false rfl (w_bytes_Equal y_2.Bytes v.Bytes _ hy_3) rfl rfl (.cons .sl (.cons .sl .nil)) rfl rfl (by intro h; cases h) rfl rfl rfl rfl ?_
     refine c0_ rfl rfl r_not rfl rfl ?_
     refine ch_n fun hU73_19 => ?_
     refine awp_cond rfl (fun h20 => ?_) (fun h20 => ?_)
     ·replace hg := cond_t h20 hg
      refine sr_ 73 89 hU73_19 ?_
      refine c0_ rfl rfl .assign rfl rfl ?_
      refine c0_ rfl rfl .assign rfl rfl ?_
      refine ch_n fun hU89_21 => ?_
      refine aw_r ?_
      obtain rfl := Option.some.inj hg
      exact ⟨[_, _], _, [], [], .cons (.tmp rfl) (.cons (.tmp rfl) .nil), ⟨rfl, rfl⟩, .tup (.cons (.val _) (.cons (.val _) .nil)), trivial, rfl, rfl, rfl, rfl⟩
     ·replace hg := cond_f h20 hg
      refine aw_s ?_
      refine sr_ 73 105 hU73_19 ?_
      refine c0_ rfl rfl .move rfl rfl ?_
      refine c0_ rfl rfl (r_conv_i64 und86 und3) rfl rfl ?_
      refine c0_ rfl rfl .assign rfl rfl ?_
      refine c0_ rfl rfl .assign rfl rfl ?_
      refine ch_n fun hU105_22 => ?_
      refine aw_r ?_
      obtain rfl := Option.some.inj hg
      exact ⟨[_, _], _, [], [], .cons (.tmp rfl) (.cons (.tmp rfl) .nil), ⟨rfl, rfl⟩, .tup (.cons (.val _) (.cons (.val _) .nil)), trivial, rfl, rfl, rfl, rfl⟩
theorem w_certificate_Reader_Int (r' : certificate_Reader) (r : Int × certificate_Reader) (hg : g_certificate_Reader_Int r' = some r) : Fn Try.prog 36 1 [.ptr 0 0] [.box [.sl 4 (encL api_Value.enc r'.l), .val (.bool r'.Failed)] 75] (fun d b => d = .val (.int .i64 r.1) ∧ b = [.box [.sl 4 (encL api_Value.enc r.2.l), .val (.bool r.2.Failed)] 75]) := by
 unfold g_certificate_Reader_Int at hg
 refine Fn.of Try.func36 rfl rfl rfl fun w0 I ρ0 => ?_
 show awp _ ⟨w0, I, ρ0, 1, 1, 23⟩ _ _ _
 refine sr_ 1 9 mk_U ?_
 refine c0_ rfl rfl .assign rfl rfl ?_
 refine ch_n fun hU9_1 => ?_
 refine sr_ 9 73 hU9_1 ?_
 refine c0_ rfl rfl .move rfl rfl ?_
 obtain ⟨y, hy, hg⟩ := bind_some hg
 refine ch_callP (rd := [0]) (ps := [0]) (gs := []) false rfl (w_certificate_Reader_Next r' _ hy) rfl rfl (.cons (.ptr rfl) .nil) ⟨_, _, _, rfl, .head _, ⟨_, rfl, (by repeat' (first | exact AgL.nil | apply AgL.cons | exact Ag.val | exact Ag.sl | exact Ag.nils | exact Ag.ptr rfl))⟩, rfl⟩ rfl (by intro h; cases h) rfl rfl rfl rfl ?_
 obtain ⟨y_2, hy_2, hg⟩ := bind_some hg
 refine ch_callP (rd := []) (ps := []) (gs := []) false rfl (w_der_AsInt y.1 _ hy_2) rfl rfl (.cons (.agg (.cons .val (.cons .sl (.cons .val (.cons .sl .nil))))) .nil) rfl rfl (by intro h; cases h) rfl rfl rfl rfl ?_
 refine c0_ rfl rfl .move rfl rfl ?_
 refine c0_ rfl rfl (.extract rfl) rfl rfl ?_
 refine c0_ rfl rfl (.extract rfl) rfl rfl ?_
 refine c0_ rfl rfl .assign rfl rfl ?_
 refine c0_ rfl rfl .assign rfl rfl ?_
 refine ch_n fun hU73_2 => ?_
 refine sr_ 73 169 hU73_2 ?_
 refine c0_ rfl rfl .move rfl rfl ?_
 refine c0_ rfl rfl .move rfl rfl ?_
 refine c0_ rfl rfl .nilP rfl rfl ?_
 refine c0_ rfl rfl (.fieldP fd75_1 ty4 (by decide)) rfl rfl ?_
 refine ch_s (rd := [0]) rfl rfl (.loadB1 ty4 rfl) rfl rfl ?_
 refine c0_ rfl rfl .move rfl rfl ?_
 rcases Bool.eq_false_or_eq_true (y.2.Failed) with h3 | h3
 ·replace hg := cond_t h3 hg
  refine ch_skip (gdv_f rfl rfl h3) rfl ?_
  refine ch_skip (gdv_f rfl rfl h3) rfl ?_
  refine c0_ rfl rfl (r_pickT h3) rfl rfl ?_
  refine c0_ rfl rfl .nilP rfl rfl ?_
  refine c0_ rfl rfl (.fieldP fd75_1 ty4 (by decide)) rfl rfl ?_
  refine ch_s (rd := [0]) rfl rfl (r_storeB (ds' := [.sl 4 (encL api_Value.enc y.2.l), .val (.bool true)]) ty4 rfl (Nat.le_of_ble_eq_true rfl) rfl rfl) rfl rfl ?_
  refine ch_n fun hU169_4 => ?_
  refine sr_ 169 185 hU169_4 ?_
  refine c0_ rfl rfl .move rfl rfl ?_
  refine c0_ rfl rfl .assign rfl rfl ?_
  refine ch_n fun hU185_6 => ?_
  refine aw_r ?_
  obtain rfl := Option.some.inj hg
  exact ⟨[_], _, [_], [(0, 0)], .cons (.tmp rfl) .nil, ⟨rfl, rfl⟩, .val _, ⟨.inl ⟨0, _, rfl, rfl, ⟨rfl, .cons (.sl _ _) (.cons (.val _) .nil)⟩⟩, trivial⟩, rfl, rfl, rfl, rfl⟩
 ·replace hg := cond_f h3 hg
  refine c0_ (gdv_t rfl rfl h3) rfl .move rfl rfl ?_
  refine c0_ (gdv_t rfl rfl h3) rfl r_neq rfl rfl ?_
  refine c0_ rfl rfl (r_pickF h3) rfl rfl ?_
  refine c0_ rfl rfl .nilP rfl rfl ?_
  refine c0_ rfl rfl (.fieldP fd75_1 ty4 (by decide)) rfl rfl ?_
  refine ch_s (rd := [0]) rfl rfl (r_storeB (ds' := [.sl 4 (encL api_Value.enc y.2.l), .val (.bool (!decide (y_2.2 = 0)))]) ty4 rfl (Nat.le_of_ble_eq_true rfl) rfl rfl) rfl rfl ?_
  refine ch_n fun hU169_5 => ?_
  refine sr_ 169 185 hU169_5 ?_
  refine c0_ rfl rfl .move rfl rfl ?_
  refine c0_ rfl rfl .assign rfl rfl ?_
  refine ch_n fun hU185_7 => ?_
  refine aw_r ?_
  obtain rfl := Option.some.inj hg
  exact ⟨[_], _, [_], [(0, 0)], .cons (.tmp rfl) .nil, ⟨rfl, rfl⟩, .val _, ⟨.inl ⟨0, _, rfl, rfl, ⟨rfl, .cons (.sl _ _) (.cons (.val _) .nil)⟩⟩, trivial⟩, rfl, rfl, rfl, rfl⟩
theorem w_certificate_Parse_c1 (c0 : certificate_Reader) (c1 : api_Certificate) (r : certificate_Reader × api_Certificate) (hg : g_certificate_Parse_c1 c0 c1 = some r) : Fn Try.prog 35 3 [.ptr 0 0, .ptr 2 0] [.box [.ptr 1 0] 66, .box [.sl 4 (encL api_Value.enc c0.l), .val (.bool c0.Failed)] 75, .box [.val (.int .i64 c1.Serial), .val (.string c1.Issuer), .val (.string c1.Subject), .val (.int .i64 c1.Key.Alg), .val (.int .i64 c1.Key.Bits), .val (.int .i64 c1.KeyId), .val (.int .i64 c1.Hash.Alg), .val (.int .i64 c1.Hash.Bits), .val (.int .i64 c1.From), .val (.int .i64 c1.To), .val (.bool c1.Authority), .val (.int .i64 c1.Path), .sl 1 (encL eS c1.Names), .val (.int .i64 c1.Seal.Key), .val (.int .i64 c1.Seal.Sum)] 33] (fun d b => d = .tup [] ∧ b = [.box [.ptr 1 0] 66, .box [.sl 4 (encL api_Value.enc r.1.l), .val (.bool r.1.Failed)] 75, .box [.val (.int .i64 r.2.Serial), .val (.string r.2.Issuer), .val (.string r.2.Subject), .val (.int .i64 r.2.Key.Alg), .val (.int .i64 r.2.Key.Bits), .val (.int .i64 r.2.KeyId), .val (.int .i64 r.2.Hash.Alg), .val (.int .i64 r.2.Hash.Bits), .val (.int .i64 r.2.From), .val (.int .i64 r.2.To), .val (.bool r.2.Authority), .val (.int .i64 r.2.Path), .sl 1 (encL eS r.2.Names), .val (.int .i64 r.2.Seal.Key), .val (.int .i64 r.2.Seal.Sum)] 33]) := by
 unfold g_certificate_Parse_c1 at hg
 refine Fn.of Try.func35 rfl rfl rfl fun w0 I ρ0 => ?_
 show awp _ ⟨w0, I, ρ0, 3, 3, 5⟩ _ _ _
 refine awp_region (sys _ _ []) 3 35 mk_U rfl rfl ?_
 refine ch_s (rd := [0]) rfl rfl (.loadB1 ty66 rfl) rfl rfl ?_
 obtain ⟨y, hy, hg⟩ := bind_some hg
 refine ch_callP (rd := [1]) (ps := [1]) (gs := []) false rfl (w_certificate_Reader_Int c0 _ hy) rfl rfl (.cons (.ptr rfl) .nil) ⟨_, _, _, rfl, .head _, ⟨_, rfl, (by repeat' (first | exact AgL.nil | apply AgL.cons | exact Ag.val | exact Ag.sl | exact Ag.nils | exact Ag.ptr rfl))⟩, rfl⟩ rfl (by intro h; cases h) rfl rfl rfl rfl ?_
 refine c0_ rfl rfl (.fieldP fd33_0 ty3 (by decide)) rfl rfl ?_
 refine ch_s (rd := [2]) rfl rfl (r_storeB (ds' := [.val (.int .i64 y.1), .val (.string c1.Issuer), .val (.string c1.Subject), .val (.int .i64 c1.Key.Alg), .val (.int .i64 c1.Key.Bits), .val (.int .i64 c1.KeyId), .val (.int .i64 c1.Hash.Alg), .val (.int .i64 c1.Hash.Bits), .val (.int .i64 c1.From), .val (.int .i64 c1.To), .val (.bool c1.Authority), .val (.int .i64 c1.Path), .sl 1 (encL eS c1.Names), .val (.int .i64 c1.Seal.Key), .val (.int .i64 c1.Seal.Sum)]) ty3 rfl (Nat.le_of_ble_eq_true rfl) rfl rfl) rfl rfl ?_
 refine ch_n fun hU35_1 => ?_
 obtain rfl := Option.some.inj hg
 exact ⟨[], _, [_, _, _], [(0, 0), (1, 1), (2, 2)], .nil, ⟨rfl, rfl⟩, .tup (.nil), ⟨.inl ⟨0, _, rfl, rfl, ⟨rfl, .cons (.ptr rfl) .nil⟩⟩, .inl ⟨1, _, rfl, rfl, ⟨rfl, .cons (.sl _ _) (.cons (.val _) .nil)⟩⟩, .inl ⟨2, _, rfl, rfl, ⟨rfl, .cons (.val _) (.cons (.val _) (.cons (.val _) (.cons (.val _) (.cons (.val _) (.cons (.val _) (.cons (.val _) (.cons (.val _) (.cons (.val _) (.cons (.val _) (.cons (.val _) (.cons (.val _) (.cons (.sl _ _) (.cons (.val _) (.cons (.val _) .nil))))))))))))))⟩⟩, trivial⟩, rfl, rfl, rfl, rfl⟩
theorem w_der_AsText_c1 (x' : UInt8) (r : Bool) (hg : g_der_AsText_c1 x' = some r) : Fn Try.prog 74 0 [.val (.int .u8 (x'.toNat : Int))] [] (fun d b => d = .val (.bool r) ∧ b = []) := by
 unfold g_der_AsText_c1 at hg
 refine Fn.of Try.func74 rfl rfl rfl fun w0 I ρ0 => ?_
 show awp _ ⟨w0, I, ρ0, 0, 0, 9⟩ _ _ _
 refine sr_ 0 8 mk_U ?_
 refine c0_ rfl rfl .assign rfl rfl ?_
 refine ch_n fun hU8_1 => ?_
 refine sr_ 8 64 hU8_1 ?_
 refine c0_ rfl rfl .move rfl rfl ?_
 refine c0_ rfl rfl r_lss rfl rfl ?_
 refine c0_ rfl rfl .move rfl rfl ?_
 rcases Bool.eq_false_or_eq_true (decide ((x'.toNat : Int) < 32)) with h2 | h2
 ·replace hg := cond_t h2 hg
  refine ch_skip (gdv_f rfl rfl h2) rfl ?_
  refine ch_skip (gdv_f rfl rfl h2) rfl ?_
  refine c0_ rfl rfl (r_pickT h2) rfl rfl ?_
  refine c0_ rfl rfl .assign rfl rfl ?_
  refine ch_n fun hU64_3 => ?_
  refine aw_r ?_
  obtain rfl := Option.some.inj hg
  exact ⟨[_], _, [], [], .cons (.tmp rfl) .nil, ⟨rfl, rfl⟩, .val _, trivial, rfl, rfl, rfl, rfl⟩
 ·replace hg := cond_f h2 hg
  refine c0_ (gdv_t rfl rfl h2) rfl .move rfl rfl ?_
  refine c0_ (gdv_t rfl rfl h2) rfl r_gtr rfl rfl ?_
  refine c0_ rfl rfl (r_pickF h2) rfl rfl ?_
  refine c0_ rfl rfl .assign rfl rfl ?_
  refine ch_n fun hU64_4 => ?_
  refine aw_r ?_
  obtain rfl := Option.some.inj hg
  exact ⟨[_], _, [], [], .cons (.tmp rfl) .nil, ⟨rfl, rfl⟩, .val _, trivial, rfl, rfl, rfl, rfl⟩
theorem w_slices_IndexFunc_byte_clo_74_0_ (s : (List UInt8)) (f : UInt8 → Option (Bool)) (hf_f : ∀ (x0 : UInt8) (y : Bool), f x0 = some y → Fn Try.prog 74 0 [.val (.int .u8 (x0.toNat : Int))] [] (fun d b => d = .val (.bool y) ∧ b = [])) (r : Int) (hg : g_slices_IndexFunc_byte s f = some r) : Fn Try.prog 79 0 [.sl 1 (encL e8 s), .clo 74 0 []] [] (fun d b => d = .val (.int .i64 r) ∧ b = []) := by
 unfold g_slices_IndexFunc_byte at hg
 refine Fn.of Try.func79 rfl rfl rfl fun w0 I ρ0 => ?_
 show awp _ ⟨w0, I, ρ0, 0, 0, 19⟩ _ _ _
 refine sr_ 0 8 mk_U ?_
 refine c0_ rfl rfl .assign rfl rfl ?_
 refine ch_n fun hU8_1 => ?_
 refine awp_seq ?_
 refine sr_ 8 32 hU8_1 ?_
 refine c0_ rfl rfl .move rfl rfl ?_
 refine c0_ rfl rfl (r_lenS sl22 e8_len) rfl rfl ?_
 refine c0_ rfl rfl .move rfl rfl ?_
 refine ch_n fun hU32_2 => ?_
 refine awp_block ?_
 obtain ⟨n1, hg⟩ := loop_some hg
 refine awp_loop (ι := (Int) × Nat) (fun ((x8_1, _) : (Int) × Nat) => mk [(0, .sl 1 (encL e8 s)), (1, .clo 74 0 []), (7, .val (.int .i64 (s.length : Int))), (8, .val (.int .i64 x8_1))] [] 0) (fun ((x8_1, nq') : (Int) × Nat) => iter (fun q' => g_slices_IndexFunc_byte.l1 s f q') nq' x8_1 = some r) (fun q => q.2) (0, n1) (Sub.lists [] rfl rfl ⟨⟨_, rfl, .sl _ _⟩, ⟨_, rfl, .clo _ _ (.nil)⟩, ⟨_, rfl, .val _⟩, ⟨_, rfl, .val _⟩, trivial⟩ trivial) hg ?_
 rintro ⟨x8_1, n1⟩ hg
 obtain ⟨m1, o1, rfl, hg, hn1⟩ := iter_some (show iter (fun q' => g_slices_IndexFunc_byte.l1 s f q') n1 x8_1 = some r from hg)
 replace hg : g_slices_IndexFunc_byte.l1 s f x8_1 = some o1 := hg
 show awp _ _ _ _ (mk _ _ _)
 unfold g_slices_IndexFunc_byte.l1 at hg
 refine sr_ 0 8 mk_U ?_
 refine c0_ rfl rfl r_lss rfl rfl ?_
 refine ch_n fun hU8_3 => ?_
 refine awp_seq ?_
 refine awp_cond rfl (fun h4 => ?_) (fun h4 => ?_)
 ·replace hg := cond_t h4 hg
  refine aw_s ?_
  refine awp_seq ?_
  refine awp_block ?_
  refine sr_ 8 24 hU8_3 ?_
  refine c0_ rfl rfl .move rfl rfl ?_
  refine c0_ rfl rfl .assign rfl rfl ?_
  refine ch_n fun hU24_5 => ?_
  refine sr_ 24 72 hU24_5 ?_
  iterate 3 refine c0_ rfl rfl .move rfl rfl ?_
  obtain ⟨e, he, hg⟩ := bind_some hg
  refine c0_ rfl rfl (r_idxS sl22 e8_len (getI_ix he) (getI_at he)) rfl rfl ?_
  refine c0_ rfl rfl (r_loadE1 ty5 (enc_cell e8_len (getI_at he) (o := 0) (c := .int .u8 (e.toNat : Int)) rfl rfl)) rfl rfl ?_
  obtain ⟨y, hy, hg⟩ := bind_some hg
  refine ch_callCP (rd := []) (ps := []) (gs := []) false rfl rfl (hf_f e _ hy) rfl rfl (.cons .val .nil) rfl rfl (by intro h; cases h) rfl rfl rfl rfl ?_
  refine ch_n fun hU72_6 => ?_
  refine awp_cond rfl (fun h7 => ?_) (fun h7 => ?_)
  ·replace hg := cond_t h7 hg
   refine sr_ 72 88 hU72_6 ?_
   refine c0_ rfl rfl .move rfl rfl ?_
   refine c0_ rfl rfl .assign rfl rfl ?_
   refine ch_n fun hU88_8 => ?_
   refine aw_r ?_
   replace hg := leave hg hn1
   obtain rfl := Option.some.inj hg
   exact ⟨[_], _, [], [], .cons (.tmp rfl) .nil, ⟨rfl, rfl⟩, .val _, trivial, rfl, rfl, rfl, rfl⟩
  ·replace hg := cond_f h7 hg
   refine aw_s ?_
   refine awp_region (sys _ _ []) 72 88 hU72_6 rfl rfl ?_
   refine c0_ rfl rfl r_add rfl rfl ?_
   refine c0_ rfl rfl .move rfl rfl ?_
   refine ch_n fun hU88_9 => ?_
   obtain rfl := Option.some.inj hg
   exact ⟨(W (x8_1 + 1), m1), Nat.lt_succ_self _, hn1, Sub.lists [] rfl rfl ⟨⟨_, rfl, .sl _ _⟩, ⟨_, rfl, .clo _ _ (.nil)⟩, ⟨_, rfl, .val _⟩, ⟨_, rfl, .val _⟩, trivial⟩ trivial⟩
 ·replace hg := cond_f h4 hg
  refine awp_exit ?_
  repeat first | refine st_ ?_ | refine sn_ ?_
  replace hg := leave hg hn1
  refine sr_ 8 16 hU8_3 ?_
  refine c0_ rfl rfl .assign rfl rfl ?_
  refine ch_n fun hU16_10 => ?_
  refine aw_r ?_
  obtain rfl := Option.some.inj hg
  exact ⟨[_], _, [], [], .cons (.tmp rfl) .nil, ⟨rfl, rfl⟩, .val _, trivial, rfl, rfl, rfl, rfl⟩
theorem w_slices_ContainsFunc_byte_clo_74_0_ (s : (List UInt8)) (f : UInt8 → Option (Bool)) (hf_f : ∀ (x0 : UInt8) (y : Bool), f x0 = some y → Fn Try.prog 74 0 [.val (.int .u8 (x0.toNat : Int))] [] (fun d b => d = .val (.bool y) ∧ b = [])) (r : Bool) (hg : g_slices_ContainsFunc_byte s f = some r) : Fn Try.prog 73 0 [.sl 1 (encL e8 s), .clo 74 0 []] [] (fun d b => d = .val (.bool r) ∧ b = []) := by
 unfold g_slices_ContainsFunc_byte at hg
 refine Fn.of Try.func73 rfl rfl rfl fun w0 I ρ0 => ?_
 show awp _ ⟨w0, I, ρ0, 0, 0, 9⟩ _ _ _
 refine sr_ 0 8 mk_U ?_
 refine c0_ rfl rfl .assign rfl rfl ?_
 refine ch_n fun hU8_1 => ?_
 refine sr_ 8 48 hU8_1 ?_
 refine c0_ rfl rfl .move rfl rfl ?_
 refine c0_ rfl rfl .move rfl rfl ?_
 obtain ⟨y, hy, hg⟩ := bind_some hg
 refine ch_callP (rd := []) (ps := []) (gs := []) false rfl (w_slices_IndexFunc_byte_clo_74_0_ s f hf_f _ hy) rfl rfl (.cons .sl (.cons (.clo (.nil)) .nil)) rfl rfl (by intro h; cases h) rfl rfl rfl rfl ?_
 refine c0_ rfl rfl r_geq rfl rfl ?_
 refine c0_ rfl rfl .assign rfl rfl ?_
 refine ch_n fun hU48_2 => ?_
 refine aw_r ?_
 obtain rfl := Option.some.inj hg
 exact ⟨[_], _, [], [], .cons (.tmp rfl) .nil, ⟨rfl, rfl⟩, .val _, trivial, rfl, rfl, rfl, rfl⟩
theorem w_der_AsText (v : api_Value) (r : ByteArray × Int) (hg : g_der_AsText v = some r) : Fn Try.prog 65 0 [.agg [.val (.int .i64 v.Tag), .sl 1 (encL e8 v.Bytes), .val (.bool v.Nested), .sl 4 (encL api_Value.enc v.Elements)]] [] (fun d b => d = .tup [.val (.string r.1), .val (.int .i64 r.2)] ∧ b = []) := by
 unfold g_der_AsText at hg
 refine Fn.of Try.func65 rfl rfl rfl fun w0 I ρ0 => ?_
 show awp _ ⟨w0, I, ρ0, 0, 0, 15⟩ _ _ _
 refine sr_ 0 24 mk_U ?_
 refine c0_ rfl rfl (.box rfl) rfl rfl ?_
 refine c0_ rfl rfl .assign rfl rfl ?_
 refine c0_ rfl rfl .assign rfl rfl ?_
 refine ch_n fun hU24_1 => ?_
 refine awp_seq ?_
 refine awp_cut (ι := Bool) (fun (x11_1 : Bool) => mk [(1, .ptr 0 0), (11, .val (.bool x11_1))] [(0, .box [.val (.int .i64 v.Tag), .sl 1 (encL e8 v.Bytes), .val (.bool v.Nested), .sl 4 (encL api_Value.enc v.Elements)] 49)] 1) (fun (x11_1 : Bool) => g_der_AsText.j1 v x11_1 = some r) ?_ ?_
 ·refine awp_region (sys _ _ []) 24 88 hU24_1 rfl rfl ?_
  refine ch_s (rd := [0]) rfl rfl (.loadBA ty49 (Nat.le_of_ble_eq_true rfl)) rfl rfl ?_
  obtain ⟨y, hy, hg⟩ := bind_some hg
  refine ch_callP (rd := []) (ps := []) (gs := []) false rfl (w_der_plain v 12 _ hy) rfl rfl (.cons (.agg (.cons .val (.cons .sl (.cons .val (.cons .sl .nil))))) (.cons .val .nil)) rfl rfl (by intro h; cases h) rfl rfl rfl rfl ?_
  refine c0_ rfl rfl r_not rfl rfl ?_
  refine c0_ rfl rfl .move rfl rfl ?_
  rcases Bool.eq_false_or_eq_true (!y) with h2 | h2
  ·replace hg := cond_t h2 hg
   iterate 3 refine ch_skip (gdv_f rfl rfl h2) rfl ?_
   refine c0_ rfl rfl (r_pickT h2) rfl rfl ?_
   refine ch_n fun hU88_3 => ?_
   exact ⟨true, hg, Sub.lists [(0, 0)] rfl rfl ⟨⟨_, rfl, .ptr rfl⟩, ⟨_, rfl, .val _⟩, trivial⟩ ⟨.inl ⟨0, _, rfl, rfl, ⟨rfl, .cons (.val _) (.cons (.sl _ _) (.cons (.val _) (.cons (.sl _ _) .nil)))⟩⟩, trivial⟩⟩
  ·replace hg := cond_f h2 hg
   refine c0_ (gdv_t rfl rfl h2) rfl (.fieldP fd49_1 ty22 (by decide)) rfl rfl ?_
   refine ch_s (rd := [0]) (gdv_t rfl rfl h2) rfl (.loadB1 ty22 rfl) rfl rfl ?_
   obtain ⟨y_2, hy_2, hg⟩ := bind_some hg
   refine ch_callP (rd := []) (ps := []) (gs := []) false (gdv_t rfl rfl h2) (w_slices_ContainsFunc_byte_clo_74_0_ v.Bytes (fun x0 => g_der_AsText_c1 x0) (fun x0 y h => w_der_AsText_c1 x0 y h) _ hy_2) rfl rfl (.cons .sl (.cons .fn .nil)) rfl rfl (by intro h; cases h) rfl rfl rfl rfl ?_
   refine c0_ rfl rfl (r_pickF h2) rfl rfl ?_
   refine ch_n fun hU88_4 => ?_
   exact ⟨y_2, hg, Sub.lists [(0, 0)] rfl rfl ⟨⟨_, rfl, .ptr rfl⟩, ⟨_, rfl, .val _⟩, trivial⟩ ⟨.inl ⟨0, _, rfl, rfl, ⟨rfl, .cons (.val _) (.cons (.sl _ _) (.cons (.val _) (.cons (.sl _ _) .nil)))⟩⟩, trivial⟩⟩
 ·rintro x11_1 hg
  replace hg : g_der_AsText.j1 v x11_1 = some r := hg
  show awp _ _ _ _ (mk _ _ _)
  unfold g_der_AsText.j1 at hg
  refine awp_cond rfl (fun h5 => ?_) (fun h5 => ?_)
  ·replace hg := cond_t h5 hg
   refine sr_ 1 17 mk_U ?_
   refine c0_ rfl rfl .assign rfl rfl ?_
   refine c0_ rfl rfl .assign rfl rfl ?_
   refine ch_n fun hU17_6 => ?_
   refine aw_r ?_
   obtain rfl := Option.some.inj hg
   exact ⟨[_, _], _, [], [], .cons (.tmp rfl) (.cons (.tmp rfl) .nil), ⟨rfl, rfl⟩, .tup (.cons (.val _) (.cons (.val _) .nil)), trivial, rfl, rfl, rfl, rfl⟩
  ·replace hg := cond_f h5 hg
   refine aw_s ?_
   refine sr_ 1 41 mk_U ?_
   refine c0_ rfl rfl (.fieldP fd49_1 ty22 (by decide)) rfl rfl ?_
   refine ch_s (rd := [0]) rfl rfl (.loadB1 ty22 rfl) rfl rfl ?_
   refine c0_ rfl rfl (r_convS und22 und5 und9 .sl rfl) rfl rfl ?_
   refine c0_ rfl rfl .assign rfl rfl ?_
   refine c0_ rfl rfl .assign rfl rfl ?_
   refine ch_n fun hU41_7 => ?_
   refine aw_r ?_
   obtain rfl := Option.some.inj hg
   exact ⟨[_, _], _, [], [], .cons (.tmp rfl) (.cons (.tmp rfl) .nil), ⟨rfl, rfl⟩, .tup (.cons (.val _) (.cons (.val _) .nil)), trivial, rfl, rfl, rfl, rfl⟩
theorem w_certificate_Reader_Text (r' : certificate_Reader) (r : ByteArray × certificate_Reader) (hg : g_certificate_Reader_Text r' = some r) : Fn Try.prog 38 1 [.ptr 0 0] [.box [.sl 4 (encL api_Value.enc r'.l), .val (.bool r'.Failed)] 75] (fun d b => d = .val (.string r.1) ∧ b = [.box [.sl 4 (encL api_Value.enc r.2.l), .val (.bool r.2.Failed)] 75]) := by
 unfold g_certificate_Reader_Text at hg
 refine Fn.of Try.func38 rfl rfl rfl fun w0 I ρ0 => ?_
 show awp _ ⟨w0, I, ρ0, 1, 1, 23⟩ _ _ _
 refine sr_ 1 9 mk_U ?_
 refine c0_ rfl rfl .assign rfl rfl ?_
 refine ch_n fun hU9_1 => ?_
 refine sr_ 9 73 hU9_1 ?_
 refine c0_ rfl rfl .move rfl rfl ?_
 obtain ⟨y, hy, hg⟩ := bind_some hg
 refine ch_callP (rd := [0]) (ps := [0]) (gs := []) false rfl (w_certificate_Reader_Next r' _ hy) rfl rfl (.cons (.ptr rfl) .nil) ⟨_, _, _, rfl, .head _, ⟨_, rfl, (by repeat' (first | exact AgL.nil | apply AgL.cons | exact Ag.val | exact Ag.sl | exact Ag.nils | exact Ag.ptr rfl))⟩, rfl⟩ rfl (by intro h; cases h) rfl rfl rfl rfl ?_
 obtain ⟨y_2, hy_2, hg⟩ := bind_some hg
 refine ch_callP (rd := []) (ps := []) (gs := []) false rfl (w_der_AsText y.1 _ hy_2) rfl rfl (.cons (.agg (.cons .val (.cons .sl (.cons .val (.cons .sl .nil))))) .nil) rfl rfl (by intro h; cases h) rfl rfl rfl rfl ?_
 refine c0_ rfl rfl .move rfl rfl ?_
 refine c0_ rfl rfl (.extract rfl) rfl rfl ?_
 refine c0_ rfl rfl (.extract rfl) rfl rfl ?_
 refine c0_ rfl rfl .assign rfl rfl ?_
 refine c0_ rfl rfl .assign rfl rfl ?_
 refine ch_n fun hU73_2 => ?_
 refine sr_ 73 169 hU73_2 ?_
 refine c0_ rfl rfl .move rfl rfl ?_
 refine c0_ rfl rfl .move rfl rfl ?_
 refine c0_ rfl rfl .nilP rfl rfl ?_
 refine c0_ rfl rfl (.fieldP fd75_1 ty4 (by decide)) rfl rfl ?_
 refine ch_s (rd := [0]) rfl rfl (.loadB1 ty4 rfl) rfl rfl ?_
 refine c0_ rfl rfl .move rfl rfl ?_
 rcases Bool.eq_false_or_eq_true (y.2.Failed) with h3 | h3
 ·replace hg := cond_t h3 hg
  refine ch_skip (gdv_f rfl rfl h3) rfl ?_
  refine ch_skip (gdv_f rfl rfl h3) rfl ?_
  refine c0_ rfl rfl (r_pickT h3) rfl rfl ?_
  refine c0_ rfl rfl .nilP rfl rfl ?_
  refine c0_ rfl rfl (.fieldP fd75_1 ty4 (by decide)) rfl rfl ?_
  refine ch_s (rd := [0]) rfl rfl (r_storeB (ds' := [.sl 4 (encL api_Value.enc y.2.l), .val (.bool true)]) ty4 rfl (Nat.le_of_ble_eq_true rfl) rfl rfl) rfl rfl ?_
  refine ch_n fun hU169_4 => ?_
  refine sr_ 169 185 hU169_4 ?_
  refine c0_ rfl rfl .move rfl rfl ?_
  refine c0_ rfl rfl .assign rfl rfl ?_
  refine ch_n fun hU185_6 => ?_
  refine aw_r ?_
  obtain rfl := Option.some.inj hg
  exact ⟨[_], _, [_], [(0, 0)], .cons (.tmp rfl) .nil, ⟨rfl, rfl⟩, .val _, ⟨.inl ⟨0, _, rfl, rfl, ⟨rfl, .cons (.sl _ _) (.cons (.val _) .nil)⟩⟩, trivial⟩, rfl, rfl, rfl, rfl⟩
 ·replace hg := cond_f h3 hg
  refine c0_ (gdv_t rfl rfl h3) rfl .move rfl rfl ?_
  refine c0_ (gdv_t rfl rfl h3) rfl r_neq rfl rfl ?_
  refine c0_ rfl rfl (r_pickF h3) rfl rfl ?_
  refine c0_ rfl rfl .nilP rfl rfl ?_
  refine c0_ rfl rfl (.fieldP fd75_1 ty4 (by decide)) rfl rfl ?_
  refine ch_s (rd := [0]) rfl rfl (r_storeB (ds' := [.sl 4 (encL api_Value.enc y.2.l), .val (.bool (!decide (y_2.2 = 0)))]) ty4 rfl (Nat.le_of_ble_eq_true rfl) rfl rfl) rfl rfl ?_
  refine ch_n fun hU169_5 => ?_
  refine sr_ 169 185 hU169_5 ?_
  refine c0_ rfl rfl .move rfl rfl ?_
  refine c0_ rfl rfl .assign rfl rfl ?_
  refine ch_n fun hU185_7 => ?_
  refine aw_r ?_
  obtain rfl := Option.some.inj hg
  exact ⟨[_], _, [_], [(0, 0)], .cons (.tmp rfl) .nil, ⟨rfl, rfl⟩, .val _, ⟨.inl ⟨0, _, rfl, rfl, ⟨rfl, .cons (.sl _ _) (.cons (.val _) .nil)⟩⟩, trivial⟩, rfl, rfl, rfl, rfl⟩
theorem w_certificate_Parse_c2 (c0 : certificate_Reader) (c1 : api_Certificate) (r : certificate_Reader × api_Certificate) (hg : g_certificate_Parse_c2 c0 c1 = some r) : Fn Try.prog 37 3 [.ptr 0 0, .ptr 2 0] [.box [.ptr 1 0] 66, .box [.sl 4 (encL api_Value.enc c0.l), .val (.bool c0.Failed)] 75, .box [.val (.int .i64 c1.Serial), .val (.string c1.Issuer), .val (.string c1.Subject), .val (.int .i64 c1.Key.Alg), .val (.int .i64 c1.Key.Bits), .val (.int .i64 c1.KeyId), .val (.int .i64 c1.Hash.Alg), .val (.int .i64 c1.Hash.Bits), .val (.int .i64 c1.From), .val (.int .i64 c1.To), .val (.bool c1.Authority), .val (.int .i64 c1.Path), .sl 1 (encL eS c1.Names), .val (.int .i64 c1.Seal.Key), .val (.int .i64 c1.Seal.Sum)] 33] (fun d b => d = .tup [] ∧ b = [.box [.ptr 1 0] 66, .box [.sl 4 (encL api_Value.enc r.1.l), .val (.bool r.1.Failed)] 75, .box [.val (.int .i64 r.2.Serial), .val (.string r.2.Issuer), .val (.string r.2.Subject), .val (.int .i64 r.2.Key.Alg), .val (.int .i64 r.2.Key.Bits), .val (.int .i64 r.2.KeyId), .val (.int .i64 r.2.Hash.Alg), .val (.int .i64 r.2.Hash.Bits), .val (.int .i64 r.2.From), .val (.int .i64 r.2.To), .val (.bool r.2.Authority), .val (.int .i64 r.2.Path), .sl 1 (encL eS r.2.Names), .val (.int .i64 r.2.Seal.Key), .val (.int .i64 r.2.Seal.Sum)] 33]) := by
 unfold g_certificate_Parse_c2 at hg
 refine Fn.of Try.func37 rfl rfl rfl fun w0 I ρ0 => ?_
 show awp _ ⟨w0, I, ρ0, 3, 3, 8⟩ _ _ _
 refine awp_draw (sys _ _ []) (by kernel_rfl) [0, 1, 0, 7, 15, 31, 63, 127] 3 67 mk_U rfl rfl (by kernel_rfl) ?_
 refine ch_s (rd := [0]) rfl rfl (.loadB1 ty66 rfl) rfl rfl ?_
 obtain ⟨y, hy, hg⟩ := bind_some hg
 refine ch_callP (rd := [1]) (ps := [1]) (gs := []) false rfl (w_certificate_Reader_Text c0 _ hy) rfl rfl (.cons (.ptr rfl) .nil) ⟨_, _, _, rfl, .head _, ⟨_, rfl, (by repeat' (first | exact AgL.nil | apply AgL.cons | exact Ag.val | exact Ag.sl | exact Ag.nils | exact Ag.ptr rfl))⟩, rfl⟩ rfl (by intro h; cases h) rfl rfl rfl rfl ?_
 refine ch_s (rd := [0]) rfl rfl (.loadB1 ty66 rfl) rfl rfl ?_
 obtain ⟨y_2, hy_2, hg⟩ := bind_some hg
 refine ch_callP (rd := [1]) (ps := [1]) (gs := []) false rfl (w_certificate_Reader_Text y.2 _ hy_2) rfl rfl (.cons (.ptr rfl) .nil) ⟨_, _, _, rfl, .head _, ⟨_, rfl, (by repeat' (first | exact AgL.nil | apply AgL.cons | exact Ag.val | exact Ag.sl | exact Ag.nils | exact Ag.ptr rfl))⟩, rfl⟩ rfl (by intro h; cases h) rfl rfl rfl rfl ?_
 refine c0_ rfl rfl (.fieldP fd33_1 ty9 (by decide)) rfl rfl ?_
 refine ch_s (rd := [2]) rfl rfl (r_storeB (ds' := [.val (.int .i64 c1.Serial), .val (.string y.1), .val (.string c1.Subject), .val (.int .i64 c1.Key.Alg), .val (.int .i64 c1.Key.Bits), .val (.int .i64 c1.KeyId), .val (.int .i64 c1.Hash.Alg), .val (.int .i64 c1.Hash.Bits), .val (.int .i64 c1.From), .val (.int .i64 c1.To), .val (.bool c1.Authority), .val (.int .i64 c1.Path), .sl 1 (encL eS c1.Names), .val (.int .i64 c1.Seal.Key), .val (.int .i64 c1.Seal.Sum)]) ty9 rfl (Nat.le_of_ble_eq_true rfl) rfl rfl) rfl rfl ?_
 refine c0_ rfl rfl (.fieldP fd33_2 ty9 (by decide)) rfl rfl ?_
 refine ch_s (rd := [2]) rfl rfl (r_storeB (ds' := [.val (.int .i64 c1.Serial), .val (.string y.1), .val (.string y_2.1), .val (.int .i64 c1.Key.Alg), .val (.int .i64 c1.Key.Bits), .val (.int .i64 c1.KeyId), .val (.int .i64 c1.Hash.Alg), .val (.int .i64 c1.Hash.Bits), .val (.int .i64 c1.From), .val (.int .i64 c1.To), .val (.bool c1.Authority), .val (.int .i64 c1.Path), .sl 1 (encL eS c1.Names), .val (.int .i64 c1.Seal.Key), .val (.int .i64 c1.Seal.Sum)]) ty9 rfl (Nat.le_of_ble_eq_true rfl) rfl rfl) rfl rfl ?_
 refine ch_n fun hU67_1 => ?_
 obtain rfl := Option.some.inj hg
 exact ⟨[], _, [_, _, _], [(0, 0), (1, 1), (2, 2)], .nil, ⟨rfl, rfl⟩, .tup (.nil), ⟨.inl ⟨0, _, rfl, rfl, ⟨rfl, .cons (.ptr rfl) .nil⟩⟩, .inl ⟨1, _, rfl, rfl, ⟨rfl, .cons (.sl _ _) (.cons (.val _) .nil)⟩⟩, .inl ⟨2, _, rfl, rfl, ⟨rfl, .cons (.val _) (.cons (.val _) (.cons (.val _) (.cons (.val _) (.cons (.val _) (.cons (.val _) (.cons (.val _) (.cons (.val _) (.cons (.val _) (.cons (.val _) (.cons (.val _) (.cons (.val _) (.cons (.sl _ _) (.cons (.val _) (.cons (.val _) .nil))))))))))))))⟩⟩, trivial⟩, rfl, rfl, rfl, rfl⟩
theorem w_certificate_Reader_Use (r' : certificate_Reader) (r : api_Use × certificate_Reader) (hg : g_certificate_Reader_Use r' = some r) : Fn Try.prog 40 1 [.ptr 0 0] [.box [.sl 4 (encL api_Value.enc r'.l), .val (.bool r'.Failed)] 75] (fun d b => d = .agg [.val (.int .i64 r.1.Alg), .val (.int .i64 r.1.Bits)] ∧ b = [.box [.sl 4 (encL api_Value.enc r.2.l), .val (.bool r.2.Failed)] 75]) := by
 unfold g_certificate_Reader_Use at hg
 refine Fn.of Try.func40 rfl rfl rfl fun w0 I ρ0 => ?_
 show awp _ ⟨w0, I, ρ0, 1, 1, 27⟩ _ _ _
 refine sr_ 1 9 mk_U ?_
 refine c0_ rfl rfl (.alloc z28) rfl rfl ?_
 refine ch_n fun hU9_1 => ?_
 refine sr_ 9 41 hU9_1 ?_
 refine c0_ rfl rfl .move rfl rfl ?_
 obtain ⟨y, hy, hg⟩ := bind_some hg
 refine ch_callP (rd := [0]) (ps := [0]) (gs := []) false rfl (w_certificate_Reader_Next r' _ hy) rfl rfl (.cons (.ptr rfl) .nil) ⟨_, _, _, rfl, .head _, ⟨_, rfl, (by repeat' (first | exact AgL.nil | apply AgL.cons | exact Ag.val | exact Ag.sl | exact Ag.nils | exact Ag.ptr rfl))⟩, rfl⟩ rfl (by intro h; cases h) rfl rfl rfl rfl ?_
 obtain ⟨y_2, hy_2, hg⟩ := bind_some hg
 refine ch_call (rd := []) (ps := []) (gs := []) false rfl (w_certificate_Read y.1 2 _ hy_2) rfl rfl (.cons (.agg (.cons .val (.cons .sl (.cons .val (.cons .sl .nil))))) (.cons .val .nil)) rfl rfl (by intro h; cases h) rfl (by intro h; first | (cases h; done) | exact ⟨_, _, ⟨rfl, rfl⟩, by simp, by simp⟩) ?_
 rintro _ _ ⟨rfl, rfl⟩
 refine c0_ rfl rfl .assign rfl rfl ?_
 refine ch_n fun hU41_2 => ?_
 refine sr_ 41 97 hU41_2 ?_
 refine c0_ rfl rfl .move rfl rfl ?_
 obtain ⟨y_3, hy_3, hg⟩ := bind_some hg
 refine ch_callP (rd := [25]) (ps := [25]) (gs := []) false rfl (w_certificate_Reader_Int y_2 _ hy_3) rfl rfl (.cons (.ptr rfl) .nil) ⟨_, _, _, rfl, .head _, ⟨_, rfl, (by repeat' (first | exact AgL.nil | apply AgL.cons | exact Ag.val | exact Ag.sl | exact Ag.nils | exact Ag.ptr rfl))⟩, rfl⟩ rfl (by intro h; cases h) rfl rfl rfl rfl ?_
 refine c0_ rfl rfl .move rfl rfl ?_
 obtain ⟨y_4, hy_4, hg⟩ := bind_some hg
 refine ch_callP (rd := [25]) (ps := [25]) (gs := []) false rfl (w_certificate_Reader_Int y_3.2 _ hy_4) rfl rfl (.cons (.ptr rfl) .nil) ⟨_, _, _, rfl, .head _, ⟨_, rfl, (by repeat' (first | exact AgL.nil | apply AgL.cons | exact Ag.val | exact Ag.sl | exact Ag.nils | exact Ag.ptr rfl))⟩, rfl⟩ rfl (by intro h; cases h) rfl rfl rfl rfl ?_
 refine c0_ rfl rfl (.build (r := [.val (.int .i64 y_3.1), .val (.int .i64 y_4.1)]) und28 pl28 z28 (by kernel_rfl) rfl) rfl rfl ?_
 refine c0_ rfl rfl (.alloc z28) rfl rfl ?_
 refine ch_s (rd := [81]) rfl rfl (r_storeB (ds' := [.val (.int .i64 y_3.1), .val (.int .i64 y_4.1)]) ty28 rfl (Nat.le_of_ble_eq_true rfl) rfl rfl) rfl rfl ?_
 refine ch_n fun hU97_3 => ?_
 refine awp_cut (ι := Bool) (fun (b_1 : Bool) => mk [(2, .ptr 1 0), (4, .ptr 2 0)] [(0, .box [.sl 4 (encL api_Value.enc y.2.l), .val (.bool b_1)] 75), (1, .box [.val (.int .i64 0), .val (.int .i64 0)] 28), (2, .box [.val (.int .i64 y_3.1), .val (.int .i64 y_4.1)] 28)] 3) (fun (b_1 : Bool) => g_certificate_Reader_Use.j1 y y_3 y_4 b_1 = some r) ?_ ?_
 ·refine awp_region (sys _ _ []) 97 209 hU97_3 rfl rfl ?_
  refine c0_ rfl rfl .move rfl rfl ?_
  refine c0_ rfl rfl .move rfl rfl ?_
  refine c0_ rfl rfl .nilP rfl rfl ?_
  refine c0_ rfl rfl (.fieldP fd75_1 ty4 (by decide)) rfl rfl ?_
  refine ch_s (rd := [0]) rfl rfl (.loadB1 ty4 rfl) rfl rfl ?_
  refine c0_ rfl rfl .move rfl rfl ?_
  rcases Bool.eq_false_or_eq_true (y.2.Failed) with h4 | h4
  ·replace hg := cond_t h4 hg
   iterate 4 refine ch_skip (gdv_f rfl rfl h4) rfl ?_
   refine c0_ rfl rfl (r_pickT h4) rfl rfl ?_
   refine c0_ rfl rfl .nilP rfl rfl ?_
   refine c0_ rfl rfl (.fieldP fd75_1 ty4 (by decide)) rfl rfl ?_
   refine ch_s (rd := [0]) rfl rfl (r_storeB (ds' := [.sl 4 (encL api_Value.enc y.2.l), .val (.bool true)]) ty4 rfl (Nat.le_of_ble_eq_true rfl) rfl rfl) rfl rfl ?_
   refine ch_n fun hU209_5 => ?_
   exact ⟨true, hg, Sub.lists [(0, 0), (1, 1), (2, 81)] rfl rfl ⟨⟨_, rfl, .ptr rfl⟩, ⟨_, rfl, .ptr rfl⟩, trivial⟩ ⟨.inl ⟨0, _, rfl, rfl, ⟨rfl, .cons (.sl _ _) (.cons (.val _) .nil)⟩⟩, .inl ⟨1, _, rfl, rfl, ⟨rfl, .cons (.val _) (.cons (.val _) .nil)⟩⟩, .inl ⟨81, _, rfl, rfl, ⟨rfl, .cons (.val _) (.cons (.val _) .nil)⟩⟩, trivial⟩⟩
  ·replace hg := cond_f h4 hg
   refine c0_ (gdv_t rfl rfl h4) rfl .move rfl rfl ?_
   refine c0_ (gdv_t rfl rfl h4) rfl .nilP rfl rfl ?_
   refine c0_ (gdv_t rfl rfl h4) rfl (.fieldP fd75_1 ty4 (by decide)) rfl rfl ?_
   refine ch_s (rd := [25]) (gdv_t rfl rfl h4) rfl (.loadB1 ty4 rfl) rfl rfl ?_
   refine c0_ rfl rfl (r_pickF h4) rfl rfl ?_
   refine c0_ rfl rfl .nilP rfl rfl ?_
   refine c0_ rfl rfl (.fieldP fd75_1 ty4 (by decide)) rfl rfl ?_
   refine ch_s (rd := [0]) rfl rfl (r_storeB (ds' := [.sl 4 (encL api_Value.enc y.2.l), .val (.bool y_4.2.Failed)]) ty4 rfl (Nat.le_of_ble_eq_true rfl) rfl rfl) rfl rfl ?_
   refine ch_n fun hU209_6 => ?_
   exact ⟨y_4.2.Failed, hg, Sub.lists [(0, 0), (1, 1), (2, 81)] rfl rfl ⟨⟨_, rfl, .ptr rfl⟩, ⟨_, rfl, .ptr rfl⟩, trivial⟩ ⟨.inl ⟨0, _, rfl, rfl, ⟨rfl, .cons (.sl _ _) (.cons (.val _) .nil)⟩⟩, .inl ⟨1, _, rfl, rfl, ⟨rfl, .cons (.val _) (.cons (.val _) .nil)⟩⟩, .inl ⟨81, _, rfl, rfl, ⟨rfl, .cons (.val _) (.cons (.val _) .nil)⟩⟩, trivial⟩⟩
 ·rintro b_1 hg
  replace hg : g_certificate_Reader_Use.j1 y y_3 y_4 b_1 = some r := hg
  show awp _ _ _ _ (mk _ _ _)
  unfold g_certificate_Reader_Use.j1 at hg
  refine sr_ 3 19 mk_U ?_
  refine ch_s (rd := [2]) rfl rfl (.loadBA ty28 (Nat.le_of_ble_eq_true rfl)) rfl rfl ?_
  refine ch_s (rd := [1]) rfl rfl (r_storeB (ds' := [.val (.int .i64 y_3.1), .val (.int .i64 y_4.1)]) ty28 rfl (Nat.le_of_ble_eq_true rfl) rfl rfl) rfl rfl ?_
  refine ch_n fun hU19_7 => ?_
  refine aw_r ?_
  obtain rfl := Option.some.inj hg
  exact ⟨[_], _, [_], [(0, 0)], .cons (.cellA rfl rfl ty28 rfl) .nil, ⟨rfl, rfl⟩, .agg (.cons (.val _) (.cons (.val _) .nil)), ⟨.inl ⟨0, _, rfl, rfl, ⟨rfl, .cons (.sl _ _) (.cons (.val _) .nil)⟩⟩, trivial⟩, rfl, rfl, rfl, rfl⟩
theorem w_certificate_Parse_c3 (c0 : certificate_Reader) (c1 : api_Certificate) (r : certificate_Reader × api_Certificate) (hg : g_certificate_Parse_c3 c0 c1 = some r) : Fn Try.prog 39 3 [.ptr 0 0, .ptr 2 0] [.box [.ptr 1 0] 66, .box [.sl 4 (encL api_Value.enc c0.l), .val (.bool c0.Failed)] 75, .box [.val (.int .i64 c1.Serial), .val (.string c1.Issuer), .val (.string c1.Subject), .val (.int .i64 c1.Key.Alg), .val (.int .i64 c1.Key.Bits), .val (.int .i64 c1.KeyId), .val (.int .i64 c1.Hash.Alg), .val (.int .i64 c1.Hash.Bits), .val (.int .i64 c1.From), .val (.int .i64 c1.To), .val (.bool c1.Authority), .val (.int .i64 c1.Path), .sl 1 (encL eS c1.Names), .val (.int .i64 c1.Seal.Key), .val (.int .i64 c1.Seal.Sum)] 33] (fun d b => d = .tup [] ∧ b = [.box [.ptr 1 0] 66, .box [.sl 4 (encL api_Value.enc r.1.l), .val (.bool r.1.Failed)] 75, .box [.val (.int .i64 r.2.Serial), .val (.string r.2.Issuer), .val (.string r.2.Subject), .val (.int .i64 r.2.Key.Alg), .val (.int .i64 r.2.Key.Bits), .val (.int .i64 r.2.KeyId), .val (.int .i64 r.2.Hash.Alg), .val (.int .i64 r.2.Hash.Bits), .val (.int .i64 r.2.From), .val (.int .i64 r.2.To), .val (.bool r.2.Authority), .val (.int .i64 r.2.Path), .sl 1 (encL eS r.2.Names), .val (.int .i64 r.2.Seal.Key), .val (.int .i64 r.2.Seal.Sum)] 33]) := by
 unfold g_certificate_Parse_c3 at hg
 refine Fn.of Try.func39 rfl rfl rfl fun w0 I ρ0 => ?_
 show awp _ ⟨w0, I, ρ0, 3, 3, 8⟩ _ _ _
 refine awp_draw (sys _ _ []) (by kernel_rfl) [0, 1, 0, 7, 15, 31, 63, 127] 3 67 mk_U rfl rfl (by kernel_rfl) ?_
 refine ch_s (rd := [0]) rfl rfl (.loadB1 ty66 rfl) rfl rfl ?_
 obtain ⟨y, hy, hg⟩ := bind_some hg
 refine ch_callP (rd := [1]) (ps := [1]) (gs := []) false rfl (w_certificate_Reader_Use c0 _ hy) rfl rfl (.cons (.ptr rfl) .nil) ⟨_, _, _, rfl, .head _, ⟨_, rfl, (by repeat' (first | exact AgL.nil | apply AgL.cons | exact Ag.val | exact Ag.sl | exact Ag.nils | exact Ag.ptr rfl))⟩, rfl⟩ rfl (by intro h; cases h) rfl rfl rfl rfl ?_
 refine ch_s (rd := [0]) rfl rfl (.loadB1 ty66 rfl) rfl rfl ?_
 obtain ⟨y_2, hy_2, hg⟩ := bind_some hg
 refine ch_callP (rd := [1]) (ps := [1]) (gs := []) false rfl (w_certificate_Reader_Int y.2 _ hy_2) rfl rfl (.cons (.ptr rfl) .nil) ⟨_, _, _, rfl, .head _, ⟨_, rfl, (by repeat' (first | exact AgL.nil | apply AgL.cons | exact Ag.val | exact Ag.sl | exact Ag.nils | exact Ag.ptr rfl))⟩, rfl⟩ rfl (by intro h; cases h) rfl rfl rfl rfl ?_
 refine c0_ rfl rfl (.fieldP fd33_3 ty28 (by decide)) rfl rfl ?_
 refine ch_s (rd := [2]) rfl rfl (r_storeB (ds' := [.val (.int .i64 c1.Serial), .val (.string c1.Issuer), .val (.string c1.Subject), .val (.int .i64 y.1.Alg), .val (.int .i64 y.1.Bits), .val (.int .i64 c1.KeyId), .val (.int .i64 c1.Hash.Alg), .val (.int .i64 c1.Hash.Bits), .val (.int .i64 c1.From), .val (.int .i64 c1.To), .val (.bool c1.Authority), .val (.int .i64 c1.Path), .sl 1 (encL eS c1.Names), .val (.int .i64 c1.Seal.Key), .val (.int .i64 c1.Seal.Sum)]) ty28 rfl (Nat.le_of_ble_eq_true rfl) rfl rfl) rfl rfl ?_
 refine c0_ rfl rfl (.fieldP fd33_4 ty3 (by decide)) rfl rfl ?_
 refine ch_s (rd := [2]) rfl rfl (r_storeB (ds' := [.val (.int .i64 c1.Serial), .val (.string c1.Issuer), .val (.string c1.Subject), .val (.int .i64 y.1.Alg), .val (.int .i64 y.1.Bits), .val (.int .i64 y_2.1), .val (.int .i64 c1.Hash.Alg), .val (.int .i64 c1.Hash.Bits), .val (.int .i64 c1.From), .val (.int .i64 c1.To), .val (.bool c1.Authority), .val (.int .i64 c1.Path), .sl 1 (encL eS c1.Names), .val (.int .i64 c1.Seal.Key), .val (.int .i64 c1.Seal.Sum)]) ty3 rfl (Nat.le_of_ble_eq_true rfl) rfl rfl) rfl rfl ?_
 refine ch_n fun hU67_1 => ?_
 obtain rfl := Option.some.inj hg
 exact ⟨[], _, [_, _, _], [(0, 0), (1, 1), (2, 2)], .nil, ⟨rfl, rfl⟩, .tup (.nil), ⟨.inl ⟨0, _, rfl, rfl, ⟨rfl, .cons (.ptr rfl) .nil⟩⟩, .inl ⟨1, _, rfl, rfl, ⟨rfl, .cons (.sl _ _) (.cons (.val _) .nil)⟩⟩, .inl ⟨2, _, rfl, rfl, ⟨rfl, .cons (.val _) (.cons (.val _) (.cons (.val _) (.cons (.val _) (.cons (.val _) (.cons (.val _) (.cons (.val _) (.cons (.val _) (.cons (.val _) (.cons (.val _) (.cons (.val _) (.cons (.val _) (.cons (.sl _ _) (.cons (.val _) (.cons (.val _) .nil))))))))))))))⟩⟩, trivial⟩, rfl, rfl, rfl, rfl⟩
theorem w_certificate_Parse_c4 (c0 : certificate_Reader) (c1 : api_Certificate) (r : certificate_Reader × api_Certificate) (hg : g_certificate_Parse_c4 c0 c1 = some r) : Fn Try.prog 41 3 [.ptr 0 0, .ptr 2 0] [.box [.ptr 1 0] 66, .box [.sl 4 (encL api_Value.enc c0.l), .val (.bool c0.Failed)] 75, .box [.val (.int .i64 c1.Serial), .val (.string c1.Issuer), .val (.string c1.Subject), .val (.int .i64 c1.Key.Alg), .val (.int .i64 c1.Key.Bits), .val (.int .i64 c1.KeyId), .val (.int .i64 c1.Hash.Alg), .val (.int .i64 c1.Hash.Bits), .val (.int .i64 c1.From), .val (.int .i64 c1.To), .val (.bool c1.Authority), .val (.int .i64 c1.Path), .sl 1 (encL eS c1.Names), .val (.int .i64 c1.Seal.Key), .val (.int .i64 c1.Seal.Sum)] 33] (fun d b => d = .tup [] ∧ b = [.box [.ptr 1 0] 66, .box [.sl 4 (encL api_Value.enc r.1.l), .val (.bool r.1.Failed)] 75, .box [.val (.int .i64 r.2.Serial), .val (.string r.2.Issuer), .val (.string r.2.Subject), .val (.int .i64 r.2.Key.Alg), .val (.int .i64 r.2.Key.Bits), .val (.int .i64 r.2.KeyId), .val (.int .i64 r.2.Hash.Alg), .val (.int .i64 r.2.Hash.Bits), .val (.int .i64 r.2.From), .val (.int .i64 r.2.To), .val (.bool r.2.Authority), .val (.int .i64 r.2.Path), .sl 1 (encL eS r.2.Names), .val (.int .i64 r.2.Seal.Key), .val (.int .i64 r.2.Seal.Sum)] 33]) := by
 unfold g_certificate_Parse_c4 at hg
 refine Fn.of Try.func41 rfl rfl rfl fun w0 I ρ0 => ?_
 show awp _ ⟨w0, I, ρ0, 3, 3, 5⟩ _ _ _
 refine awp_region (sys _ _ []) 3 35 mk_U rfl rfl ?_
 refine ch_s (rd := [0]) rfl rfl (.loadB1 ty66 rfl) rfl rfl ?_
 obtain ⟨y, hy, hg⟩ := bind_some hg
 refine ch_callP (rd := [1]) (ps := [1]) (gs := []) false rfl (w_certificate_Reader_Use c0 _ hy) rfl rfl (.cons (.ptr rfl) .nil) ⟨_, _, _, rfl, .head _, ⟨_, rfl, (by repeat' (first | exact AgL.nil | apply AgL.cons | exact Ag.val | exact Ag.sl | exact Ag.nils | exact Ag.ptr rfl))⟩, rfl⟩ rfl (by intro h; cases h) rfl rfl rfl rfl ?_
 refine c0_ rfl rfl (.fieldP fd33_5 ty28 (by decide)) rfl rfl ?_
 refine ch_s (rd := [2]) rfl rfl (r_storeB (ds' := [.val (.int .i64 c1.Serial), .val (.string c1.Issuer), .val (.string c1.Subject), .val (.int .i64 c1.Key.Alg), .val (.int .i64 c1.Key.Bits), .val (.int .i64 c1.KeyId), .val (.int .i64 y.1.Alg), .val (.int .i64 y.1.Bits), .val (.int .i64 c1.From), .val (.int .i64 c1.To), .val (.bool c1.Authority), .val (.int .i64 c1.Path), .sl 1 (encL eS c1.Names), .val (.int .i64 c1.Seal.Key), .val (.int .i64 c1.Seal.Sum)]) ty28 rfl (Nat.le_of_ble_eq_true rfl) rfl rfl) rfl rfl ?_
 refine ch_n fun hU35_1 => ?_
 obtain rfl := Option.some.inj hg
 exact ⟨[], _, [_, _, _], [(0, 0), (1, 1), (2, 2)], .nil, ⟨rfl, rfl⟩, .tup (.nil), ⟨.inl ⟨0, _, rfl, rfl, ⟨rfl, .cons (.ptr rfl) .nil⟩⟩, .inl ⟨1, _, rfl, rfl, ⟨rfl, .cons (.sl _ _) (.cons (.val _) .nil)⟩⟩, .inl ⟨2, _, rfl, rfl, ⟨rfl, .cons (.val _) (.cons (.val _) (.cons (.val _) (.cons (.val _) (.cons (.val _) (.cons (.val _) (.cons (.val _) (.cons (.val _) (.cons (.val _) (.cons (.val _) (.cons (.val _) (.cons (.val _) (.cons (.sl _ _) (.cons (.val _) (.cons (.val _) .nil))))))))))))))⟩⟩, trivial⟩, rfl, rfl, rfl, rfl⟩
theorem w_certificate_Parse_c5 (c0 : certificate_Reader) (c1 : api_Certificate) (r : certificate_Reader × api_Certificate) (hg : g_certificate_Parse_c5 c0 c1 = some r) : Fn Try.prog 42 3 [.ptr 0 0, .ptr 2 0] [.box [.ptr 1 0] 66, .box [.sl 4 (encL api_Value.enc c0.l), .val (.bool c0.Failed)] 75, .box [.val (.int .i64 c1.Serial), .val (.string c1.Issuer), .val (.string c1.Subject), .val (.int .i64 c1.Key.Alg), .val (.int .i64 c1.Key.Bits), .val (.int .i64 c1.KeyId), .val (.int .i64 c1.Hash.Alg), .val (.int .i64 c1.Hash.Bits), .val (.int .i64 c1.From), .val (.int .i64 c1.To), .val (.bool c1.Authority), .val (.int .i64 c1.Path), .sl 1 (encL eS c1.Names), .val (.int .i64 c1.Seal.Key), .val (.int .i64 c1.Seal.Sum)] 33] (fun d b => d = .tup [] ∧ b = [.box [.ptr 1 0] 66, .box [.sl 4 (encL api_Value.enc r.1.l), .val (.bool r.1.Failed)] 75, .box [.val (.int .i64 r.2.Serial), .val (.string r.2.Issuer), .val (.string r.2.Subject), .val (.int .i64 r.2.Key.Alg), .val (.int .i64 r.2.Key.Bits), .val (.int .i64 r.2.KeyId), .val (.int .i64 r.2.Hash.Alg), .val (.int .i64 r.2.Hash.Bits), .val (.int .i64 r.2.From), .val (.int .i64 r.2.To), .val (.bool r.2.Authority), .val (.int .i64 r.2.Path), .sl 1 (encL eS r.2.Names), .val (.int .i64 r.2.Seal.Key), .val (.int .i64 r.2.Seal.Sum)] 33]) := by
 unfold g_certificate_Parse_c5 at hg
 refine Fn.of Try.func42 rfl rfl rfl fun w0 I ρ0 => ?_
 show awp _ ⟨w0, I, ρ0, 3, 3, 8⟩ _ _ _
 refine awp_draw (sys _ _ []) (by kernel_rfl) [0, 1, 0, 7, 15, 31, 63, 127] 3 67 mk_U rfl rfl (by kernel_rfl) ?_
 refine ch_s (rd := [0]) rfl rfl (.loadB1 ty66 rfl) rfl rfl ?_
 obtain ⟨y, hy, hg⟩ := bind_some hg
 refine ch_callP (rd := [1]) (ps := [1]) (gs := []) false rfl (w_certificate_Reader_Int c0 _ hy) rfl rfl (.cons (.ptr rfl) .nil) ⟨_, _, _, rfl, .head _, ⟨_, rfl, (by repeat' (first | exact AgL.nil | apply AgL.cons | exact Ag.val | exact Ag.sl | exact Ag.nils | exact Ag.ptr rfl))⟩, rfl⟩ rfl (by intro h; cases h) rfl rfl rfl rfl ?_
 refine ch_s (rd := [0]) rfl rfl (.loadB1 ty66 rfl) rfl rfl ?_
 obtain ⟨y_2, hy_2, hg⟩ := bind_some hg
 refine ch_callP (rd := [1]) (ps := [1]) (gs := []) false rfl (w_certificate_Reader_Int y.2 _ hy_2) rfl rfl (.cons (.ptr rfl) .nil) ⟨_, _, _, rfl, .head _, ⟨_, rfl, (by repeat' (first | exact AgL.nil | apply AgL.cons | exact Ag.val | exact Ag.sl | exact Ag.nils | exact Ag.ptr rfl))⟩, rfl⟩ rfl (by intro h; cases h) rfl rfl rfl rfl ?_
 refine c0_ rfl rfl (.fieldP fd33_6 ty3 (by decide)) rfl rfl ?_
 refine ch_s (rd := [2]) rfl rfl (r_storeB (ds' := [.val (.int .i64 c1.Serial), .val (.string c1.Issuer), .val (.string c1.Subject), .val (.int .i64 c1.Key.Alg), .val (.int .i64 c1.Key.Bits), .val (.int .i64 c1.KeyId), .val (.int .i64 c1.Hash.Alg), .val (.int .i64 c1.Hash.Bits), .val (.int .i64 y.1), .val (.int .i64 c1.To), .val (.bool c1.Authority), .val (.int .i64 c1.Path), .sl 1 (encL eS c1.Names), .val (.int .i64 c1.Seal.Key), .val (.int .i64 c1.Seal.Sum)]) ty3 rfl (Nat.le_of_ble_eq_true rfl) rfl rfl) rfl rfl ?_
 refine c0_ rfl rfl (.fieldP fd33_7 ty3 (by decide)) rfl rfl ?_
 refine ch_s (rd := [2]) rfl rfl (r_storeB (ds' := [.val (.int .i64 c1.Serial), .val (.string c1.Issuer), .val (.string c1.Subject), .val (.int .i64 c1.Key.Alg), .val (.int .i64 c1.Key.Bits), .val (.int .i64 c1.KeyId), .val (.int .i64 c1.Hash.Alg), .val (.int .i64 c1.Hash.Bits), .val (.int .i64 y.1), .val (.int .i64 y_2.1), .val (.bool c1.Authority), .val (.int .i64 c1.Path), .sl 1 (encL eS c1.Names), .val (.int .i64 c1.Seal.Key), .val (.int .i64 c1.Seal.Sum)]) ty3 rfl (Nat.le_of_ble_eq_true rfl) rfl rfl) rfl rfl ?_
 refine ch_n fun hU67_1 => ?_
 obtain rfl := Option.some.inj hg
 exact ⟨[], _, [_, _, _], [(0, 0), (1, 1), (2, 2)], .nil, ⟨rfl, rfl⟩, .tup (.nil), ⟨.inl ⟨0, _, rfl, rfl, ⟨rfl, .cons (.ptr rfl) .nil⟩⟩, .inl ⟨1, _, rfl, rfl, ⟨rfl, .cons (.sl _ _) (.cons (.val _) .nil)⟩⟩, .inl ⟨2, _, rfl, rfl, ⟨rfl, .cons (.val _) (.cons (.val _) (.cons (.val _) (.cons (.val _) (.cons (.val _) (.cons (.val _) (.cons (.val _) (.cons (.val _) (.cons (.val _) (.cons (.val _) (.cons (.val _) (.cons (.val _) (.cons (.sl _ _) (.cons (.val _) (.cons (.val _) .nil))))))))))))))⟩⟩, trivial⟩, rfl, rfl, rfl, rfl⟩
theorem w_der_AsBool (v : api_Value) (r : Bool × Int) (hg : g_der_AsBool v = some r) : Fn Try.prog 66 0 [.agg [.val (.int .i64 v.Tag), .sl 1 (encL e8 v.Bytes), .val (.bool v.Nested), .sl 4 (encL api_Value.enc v.Elements)]] [] (fun d b => d = .tup [.val (.bool r.1), .val (.int .i64 r.2)] ∧ b = []) := by
 unfold g_der_AsBool at hg
 refine Fn.of Try.func66 rfl rfl rfl fun w0 I ρ0 => ?_
 show awp _ ⟨w0, I, ρ0, 0, 0, 32⟩ _ _ _
 refine sr_ 0 24 mk_U ?_
 refine c0_ rfl rfl (.box rfl) rfl rfl ?_
 refine c0_ rfl rfl .assign rfl rfl ?_
 refine c0_ rfl rfl .assign rfl rfl ?_
 refine ch_n fun hU24_1 => ?_
 refine awp_seq ?_
 refine awp_cut (ι := Bool) (fun (x26_1 : Bool) => mk [(1, .ptr 0 0), (26, .val (.bool x26_1))] [(0, .box [.val (.int .i64 v.Tag), .sl 1 (encL e8 v.Bytes), .val (.bool v.Nested), .sl 4 (encL api_Value.enc v.Elements)] 49)] 1) (fun (x26_1 : Bool) => g_der_AsBool.j1 v x26_1 = some r) ?_ ?_
 ·refine awp_region (sys _ _ []) 24 208 hU24_1 rfl rfl ?_
  refine ch_s (rd := [0]) rfl rfl (.loadBA ty49 (Nat.le_of_ble_eq_true rfl)) rfl rfl ?_
  obtain ⟨y, hy, hg⟩ := bind_some hg
  refine ch_callP (rd := []) (ps := []) (gs := []) false rfl (w_der_plain v 1 _ hy) rfl rfl (.cons (.agg (.cons .val (.cons .sl (.cons .val (.cons .sl .nil))))) (.cons .val .nil)) rfl rfl (by intro h; cases h) rfl rfl rfl rfl ?_
  refine c0_ rfl rfl r_not rfl rfl ?_
  refine c0_ rfl rfl .move rfl rfl ?_
  rcases Bool.eq_false_or_eq_true (!y) with h2 | h2
  ·replace hg := cond_t h2 hg
   iterate 4 refine ch_skip (gdv_f rfl rfl h2) rfl ?_
   refine c0_ rfl rfl (r_pickT h2) rfl rfl ?_
   refine c0_ rfl rfl .move rfl rfl ?_
   iterate 6 refine ch_skip (gdv_f rfl rfl rfl) rfl ?_
   iterate 5 refine ch_skip rfl rfl ?_
   refine ch_skip (gdv_f rfl rfl rfl) rfl ?_
   refine c0_ rfl rfl (r_pickT rfl) rfl rfl ?_
   refine ch_n fun hU208_3 => ?_
   exact ⟨true, hg, Sub.lists [(0, 0)] rfl rfl ⟨⟨_, rfl, .ptr rfl⟩, ⟨_, rfl, .val _⟩, trivial⟩ ⟨.inl ⟨0, _, rfl, rfl, ⟨rfl, .cons (.val _) (.cons (.sl _ _) (.cons (.val _) (.cons (.sl _ _) .nil)))⟩⟩, trivial⟩⟩
  ·replace hg := cond_f h2 hg
   refine c0_ (gdv_t rfl rfl h2) rfl (.fieldP fd49_1 ty22 (by decide)) rfl rfl ?_
   refine ch_s (rd := [0]) (gdv_t rfl rfl h2) rfl (.loadB1 ty22 rfl) rfl rfl ?_
   refine c0_ (gdv_t rfl rfl h2) rfl (r_lenS sl22 e8_len) rfl rfl ?_
   refine c0_ (gdv_t rfl rfl h2) rfl r_neq rfl rfl ?_
   refine c0_ rfl rfl (r_pickF h2) rfl rfl ?_
   refine c0_ rfl rfl .move rfl rfl ?_
   rcases Bool.eq_false_or_eq_true (!decide ((v.Bytes.length : Int) = 1)) with h4 | h4
   ·replace hg := cond_t h4 hg
    iterate 6 refine ch_skip (gdv_f rfl rfl h4) rfl ?_
    iterate 5 refine ch_skip rfl rfl ?_
    refine ch_skip (gdv_f rfl rfl h4) rfl ?_
    refine c0_ rfl rfl (r_pickT h4) rfl rfl ?_
    refine ch_n fun hU208_5 => ?_
    exact ⟨true, hg, Sub.lists [(0, 0)] rfl rfl ⟨⟨_, rfl, .ptr rfl⟩, ⟨_, rfl, .val _⟩, trivial⟩ ⟨.inl ⟨0, _, rfl, rfl, ⟨rfl, .cons (.val _) (.cons (.sl _ _) (.cons (.val _) (.cons (.sl _ _) .nil)))⟩⟩, trivial⟩⟩
   ·replace hg := cond_f h4 hg
    refine c0_ (gdv_t rfl rfl h4) rfl (.fieldP fd49_1 ty22 (by decide)) rfl rfl ?_
    refine ch_s (rd := [0]) (gdv_t rfl rfl h4) rfl (.loadB1 ty22 rfl) rfl rfl ?_
    obtain ⟨e, he, hg⟩ := bind_some hg
    refine c0_ (gdv_t rfl rfl h4) rfl (r_idxS sl22 e8_len (getI_ix he) (getI_at he)) rfl rfl ?_
    refine c0_ (gdv_t rfl rfl h4) rfl (r_loadE1 ty5 (enc_cell e8_len (getI_at he) (o := 0) (c := .int .u8 (e.toNat : Int)) rfl rfl)) rfl rfl ?_
    refine c0_ (gdv_t rfl rfl h4) rfl r_neq rfl rfl ?_
    refine c0_ (gdv_t rfl rfl h4) rfl .move rfl rfl ?_
    rcases Bool.eq_false_or_eq_true (!decide ((e.toNat : Int) = 0)) with h6 | h6
    ·replace hg := cond_t h6 hg
     refine c0_ (gdv_t rfl rfl h6) rfl (.fieldP fd49_1 ty22 (by decide)) rfl rfl ?_
     refine ch_s (rd := [0]) (gdv_t rfl rfl h6) rfl (.loadB1 ty22 rfl) rfl rfl ?_
     refine c0_ (gdv_t rfl rfl h6) rfl (r_idxS sl22 e8_len (getI_ix he) (getI_at he)) rfl rfl ?_
     refine c0_ (gdv_t rfl rfl h6) rfl (r_loadE1 ty5 (enc_cell e8_len (getI_at he) (o := 0) (c := .int .u8 (e.toNat : Int)) rfl rfl)) rfl rfl ?_
     refine c0_ (gdv_t rfl rfl h6) rfl r_neq rfl rfl ?_
     refine c0_ (gdv_t rfl rfl h4) rfl (r_pickT h6) rfl rfl ?_
     refine c0_ rfl rfl (r_pickF h4) rfl rfl ?_
     refine ch_n fun hU208_7 => ?_
     exact ⟨!decide ((e.toNat : Int) = 255), hg, Sub.lists [(0, 0)] rfl rfl ⟨⟨_, rfl, .ptr rfl⟩, ⟨_, rfl, .val _⟩, trivial⟩ ⟨.inl ⟨0, _, rfl, rfl, ⟨rfl, .cons (.val _) (.cons (.sl _ _) (.cons (.val _) (.cons (.sl _ _) .nil)))⟩⟩, trivial⟩⟩
    ·replace hg := cond_f h6 hg
     iterate 5 refine ch_skip (gdv_f rfl rfl h6) rfl ?_
     refine c0_ (gdv_t rfl rfl h4) rfl (r_pickF h6) rfl rfl ?_
     refine c0_ rfl rfl (r_pickF h4) rfl rfl ?_
     refine ch_n fun hU208_8 => ?_
     exact ⟨false, hg, Sub.lists [(0, 0)] rfl rfl ⟨⟨_, rfl, .ptr rfl⟩, ⟨_, rfl, .val _⟩, trivial⟩ ⟨.inl ⟨0, _, rfl, rfl, ⟨rfl, .cons (.val _) (.cons (.sl _ _) (.cons (.val _) (.cons (.sl _ _) .nil)))⟩⟩, trivial⟩⟩
 ·rintro x26_1 hg
  replace hg : g_der_AsBool.j1 v x26_1 = some r := hg
  show awp _ _ _ _ (mk _ _ _)
  unfold g_der_AsBool.j1 at hg
  refine awp_cond rfl (fun h9 => ?_) (fun h9 => ?_)
  ·replace hg := cond_t h9 hg
   refine sr_ 1 17 mk_U ?_
   refine c0_ rfl rfl .assign rfl rfl ?_
   refine c0_ rfl rfl .assign rfl rfl ?_
   refine ch_n fun hU17_10 => ?_
   refine aw_r ?_
   obtain rfl := Option.some.inj hg
   exact ⟨[_, _], _, [], [], .cons (.tmp rfl) (.cons (.tmp rfl) .nil), ⟨rfl, rfl⟩, .tup (.cons (.val _) (.cons (.val _) .nil)), trivial, rfl, rfl, rfl, rfl⟩
  ·replace hg := cond_f h9 hg
   refine aw_s ?_
   refine sr_ 1 57 mk_U ?_
   refine c0_ rfl rfl (.fieldP fd49_1 ty22 (by decide)) rfl rfl ?_
   refine ch_s (rd := [0]) rfl rfl (.loadB1 ty22 rfl) rfl rfl ?_
   obtain ⟨e_2, he_2, hg⟩ := bind_some hg
   refine c0_ rfl rfl (r_idxS sl22 e8_len (getI_ix he_2) (getI_at he_2)) rfl rfl ?_
   refine c0_ rfl rfl (r_loadE1 ty5 (enc_cell e8_len (getI_at he_2) (o := 0) (c := .int .u8 (e_2.toNat : Int)) rfl rfl)) rfl rfl ?_
   refine c0_ rfl rfl r_eql rfl rfl ?_
   refine c0_ rfl rfl .assign rfl rfl ?_
   refine c0_ rfl rfl .assign rfl rfl ?_
   refine ch_n fun hU57_11 => ?_
   refine aw_r ?_
   obtain rfl := Option.some.inj hg
   exact ⟨[_, _], _, [], [], .cons (.tmp rfl) (.cons (.tmp rfl) .nil), ⟨rfl, rfl⟩, .tup (.cons (.val _) (.cons (.val _) .nil)), trivial, rfl, rfl, rfl, rfl⟩
theorem w_certificate_Reader_Bool (r' : certificate_Reader) (r : Bool × certificate_Reader) (hg : g_certificate_Reader_Bool r' = some r) : Fn Try.prog 44 1 [.ptr 0 0] [.box [.sl 4 (encL api_Value.enc r'.l), .val (.bool r'.Failed)] 75] (fun d b => d = .val (.bool r.1) ∧ b = [.box [.sl 4 (encL api_Value.enc r.2.l), .val (.bool r.2.Failed)] 75]) := by
 unfold g_certificate_Reader_Bool at hg
 refine Fn.of Try.func44 rfl rfl rfl fun w0 I ρ0 => ?_
 show awp _ ⟨w0, I, ρ0, 1, 1, 23⟩ _ _ _
 refine sr_ 1 9 mk_U ?_
 refine c0_ rfl rfl .assign rfl rfl ?_
 refine ch_n fun hU9_1 => ?_
 refine sr_ 9 73 hU9_1 ?_
 refine c0_ rfl rfl .move rfl rfl ?_
 obtain ⟨y, hy, hg⟩ := bind_some hg
 refine ch_callP (rd := [0]) (ps := [0]) (gs := []) false rfl (w_certificate_Reader_Next r' _ hy) rfl rfl (.cons (.ptr rfl) .nil) ⟨_, _, _, rfl, .head _, ⟨_, rfl, (by repeat' (first | exact AgL.nil | apply AgL.cons | exact Ag.val | exact Ag.sl | exact Ag.nils | exact Ag.ptr rfl))⟩, rfl⟩ rfl (by intro h; cases h) rfl rfl rfl rfl ?_
 obtain ⟨y_2, hy_2, hg⟩ := bind_some hg
 refine ch_callP (rd := []) (ps := []) (gs := []) false rfl (w_der_AsBool y.1 _ hy_2) rfl rfl (.cons (.agg (.cons .val (.cons .sl (.cons .val (.cons .sl .nil))))) .nil) rfl rfl (by intro h; cases h) rfl rfl rfl rfl ?_
 refine c0_ rfl rfl .move rfl rfl ?_
 refine c0_ rfl rfl (.extract rfl) rfl rfl ?_
 refine c0_ rfl rfl (.extract rfl) rfl rfl ?_
 refine c0_ rfl rfl .assign rfl rfl ?_
 refine c0_ rfl rfl .assign rfl rfl ?_
 refine ch_n fun hU73_2 => ?_
 refine sr_ 73 169 hU73_2 ?_
 refine c0_ rfl rfl .move rfl rfl ?_
 refine c0_ rfl rfl .move rfl rfl ?_
 refine c0_ rfl rfl .nilP rfl rfl ?_
 refine c0_ rfl rfl (.fieldP fd75_1 ty4 (by decide)) rfl rfl ?_
 refine ch_s (rd := [0]) rfl rfl (.loadB1 ty4 rfl) rfl rfl ?_
 refine c0_ rfl rfl .move rfl rfl ?_
 rcases Bool.eq_false_or_eq_true (y.2.Failed) with h3 | h3
 ·replace hg := cond_t h3 hg
  refine ch_skip (gdv_f rfl rfl h3) rfl ?_
  refine ch_skip (gdv_f rfl rfl h3) rfl ?_
  refine c0_ rfl rfl (r_pickT h3) rfl rfl ?_
  refine c0_ rfl rfl .nilP rfl rfl ?_
  refine c0_ rfl rfl (.fieldP fd75_1 ty4 (by decide)) rfl rfl ?_
  refine ch_s (rd := [0]) rfl rfl (r_storeB (ds' := [.sl 4 (encL api_Value.enc y.2.l), .val (.bool true)]) ty4 rfl (Nat.le_of_ble_eq_true rfl) rfl rfl) rfl rfl ?_
  refine ch_n fun hU169_4 => ?_
  refine sr_ 169 185 hU169_4 ?_
  refine c0_ rfl rfl .move rfl rfl ?_
  refine c0_ rfl rfl .assign rfl rfl ?_
  refine ch_n fun hU185_6 => ?_
  refine aw_r ?_
  obtain rfl := Option.some.inj hg
  exact ⟨[_], _, [_], [(0, 0)], .cons (.tmp rfl) .nil, ⟨rfl, rfl⟩, .val _, ⟨.inl ⟨0, _, rfl, rfl, ⟨rfl, .cons (.sl _ _) (.cons (.val _) .nil)⟩⟩, trivial⟩, rfl, rfl, rfl, rfl⟩
 ·replace hg := cond_f h3 hg
  refine c0_ (gdv_t rfl rfl h3) rfl .move rfl rfl ?_
  refine c0_ (gdv_t rfl rfl h3) rfl r_neq rfl rfl ?_
  refine c0_ rfl rfl (r_pickF h3) rfl rfl ?_
  refine c0_ rfl rfl .nilP rfl rfl ?_
  refine c0_ rfl rfl (.fieldP fd75_1 ty4 (by decide)) rfl rfl ?_
  refine ch_s (rd := [0]) rfl rfl (r_storeB (ds' := [.sl 4 (encL api_Value.enc y.2.l), .val (.bool (!decide (y_2.2 = 0)))]) ty4 rfl (Nat.le_of_ble_eq_true rfl) rfl rfl) rfl rfl ?_
  refine ch_n fun hU169_5 => ?_
  refine sr_ 169 185 hU169_5 ?_
  refine c0_ rfl rfl .move rfl rfl ?_
  refine c0_ rfl rfl .assign rfl rfl ?_
  refine ch_n fun hU185_7 => ?_
  refine aw_r ?_
  obtain rfl := Option.some.inj hg
  exact ⟨[_], _, [_], [(0, 0)], .cons (.tmp rfl) .nil, ⟨rfl, rfl⟩, .val _, ⟨.inl ⟨0, _, rfl, rfl, ⟨rfl, .cons (.sl _ _) (.cons (.val _) .nil)⟩⟩, trivial⟩, rfl, rfl, rfl, rfl⟩
theorem w_certificate_Parse_c6 (c0 : certificate_Reader) (c1 : api_Certificate) (r : certificate_Reader × api_Certificate) (hg : g_certificate_Parse_c6 c0 c1 = some r) : Fn Try.prog 43 3 [.ptr 0 0, .ptr 2 0] [.box [.ptr 1 0] 66, .box [.sl 4 (encL api_Value.enc c0.l), .val (.bool c0.Failed)] 75, .box [.val (.int .i64 c1.Serial), .val (.string c1.Issuer), .val (.string c1.Subject), .val (.int .i64 c1.Key.Alg), .val (.int .i64 c1.Key.Bits), .val (.int .i64 c1.KeyId), .val (.int .i64 c1.Hash.Alg), .val (.int .i64 c1.Hash.Bits), .val (.int .i64 c1.From), .val (.int .i64 c1.To), .val (.bool c1.Authority), .val (.int .i64 c1.Path), .sl 1 (encL eS c1.Names), .val (.int .i64 c1.Seal.Key), .val (.int .i64 c1.Seal.Sum)] 33] (fun d b => d = .tup [] ∧ b = [.box [.ptr 1 0] 66, .box [.sl 4 (encL api_Value.enc r.1.l), .val (.bool r.1.Failed)] 75, .box [.val (.int .i64 r.2.Serial), .val (.string r.2.Issuer), .val (.string r.2.Subject), .val (.int .i64 r.2.Key.Alg), .val (.int .i64 r.2.Key.Bits), .val (.int .i64 r.2.KeyId), .val (.int .i64 r.2.Hash.Alg), .val (.int .i64 r.2.Hash.Bits), .val (.int .i64 r.2.From), .val (.int .i64 r.2.To), .val (.bool r.2.Authority), .val (.int .i64 r.2.Path), .sl 1 (encL eS r.2.Names), .val (.int .i64 r.2.Seal.Key), .val (.int .i64 r.2.Seal.Sum)] 33]) := by
 unfold g_certificate_Parse_c6 at hg
 refine Fn.of Try.func43 rfl rfl rfl fun w0 I ρ0 => ?_
 show awp _ ⟨w0, I, ρ0, 3, 3, 8⟩ _ _ _
 refine awp_draw (sys _ _ []) (by kernel_rfl) [0, 1, 0, 7, 15, 31, 63, 127] 3 67 mk_U rfl rfl (by kernel_rfl) ?_
 refine ch_s (rd := [0]) rfl rfl (.loadB1 ty66 rfl) rfl rfl ?_
 obtain ⟨y, hy, hg⟩ := bind_some hg
 refine ch_callP (rd := [1]) (ps := [1]) (gs := []) false rfl (w_certificate_Reader_Bool c0 _ hy) rfl rfl (.cons (.ptr rfl) .nil) ⟨_, _, _, rfl, .head _, ⟨_, rfl, (by repeat' (first | exact AgL.nil | apply AgL.cons | exact Ag.val | exact Ag.sl | exact Ag.nils | exact Ag.ptr rfl))⟩, rfl⟩ rfl (by intro h; cases h) rfl rfl rfl rfl ?_
 refine ch_s (rd := [0]) rfl rfl (.loadB1 ty66 rfl) rfl rfl ?_
 obtain ⟨y_2, hy_2, hg⟩ := bind_some hg
 refine ch_callP (rd := [1]) (ps := [1]) (gs := []) false rfl (w_certificate_Reader_Int y.2 _ hy_2) rfl rfl (.cons (.ptr rfl) .nil) ⟨_, _, _, rfl, .head _, ⟨_, rfl, (by repeat' (first | exact AgL.nil | apply AgL.cons | exact Ag.val | exact Ag.sl | exact Ag.nils | exact Ag.ptr rfl))⟩, rfl⟩ rfl (by intro h; cases h) rfl rfl rfl rfl ?_
 refine c0_ rfl rfl (.fieldP fd33_8 ty4 (by decide)) rfl rfl ?_
 refine ch_s (rd := [2]) rfl rfl (r_storeB (ds' := [.val (.int .i64 c1.Serial), .val (.string c1.Issuer), .val (.string c1.Subject), .val (.int .i64 c1.Key.Alg), .val (.int .i64 c1.Key.Bits), .val (.int .i64 c1.KeyId), .val (.int .i64 c1.Hash.Alg), .val (.int .i64 c1.Hash.Bits), .val (.int .i64 c1.From), .val (.int .i64 c1.To), .val (.bool y.1), .val (.int .i64 c1.Path), .sl 1 (encL eS c1.Names), .val (.int .i64 c1.Seal.Key), .val (.int .i64 c1.Seal.Sum)]) ty4 rfl (Nat.le_of_ble_eq_true rfl) rfl rfl) rfl rfl ?_
 refine c0_ rfl rfl (.fieldP fd33_9 ty3 (by decide)) rfl rfl ?_
 refine ch_s (rd := [2]) rfl rfl (r_storeB (ds' := [.val (.int .i64 c1.Serial), .val (.string c1.Issuer), .val (.string c1.Subject), .val (.int .i64 c1.Key.Alg), .val (.int .i64 c1.Key.Bits), .val (.int .i64 c1.KeyId), .val (.int .i64 c1.Hash.Alg), .val (.int .i64 c1.Hash.Bits), .val (.int .i64 c1.From), .val (.int .i64 c1.To), .val (.bool y.1), .val (.int .i64 y_2.1), .sl 1 (encL eS c1.Names), .val (.int .i64 c1.Seal.Key), .val (.int .i64 c1.Seal.Sum)]) ty3 rfl (Nat.le_of_ble_eq_true rfl) rfl rfl) rfl rfl ?_
 refine ch_n fun hU67_1 => ?_
 obtain rfl := Option.some.inj hg
 exact ⟨[], _, [_, _, _], [(0, 0), (1, 1), (2, 2)], .nil, ⟨rfl, rfl⟩, .tup (.nil), ⟨.inl ⟨0, _, rfl, rfl, ⟨rfl, .cons (.ptr rfl) .nil⟩⟩, .inl ⟨1, _, rfl, rfl, ⟨rfl, .cons (.sl _ _) (.cons (.val _) .nil)⟩⟩, .inl ⟨2, _, rfl, rfl, ⟨rfl, .cons (.val _) (.cons (.val _) (.cons (.val _) (.cons (.val _) (.cons (.val _) (.cons (.val _) (.cons (.val _) (.cons (.val _) (.cons (.val _) (.cons (.val _) (.cons (.val _) (.cons (.val _) (.cons (.sl _ _) (.cons (.val _) (.cons (.val _) .nil))))))))))))))⟩⟩, trivial⟩, rfl, rfl, rfl, rfl⟩
theorem w_certificate_Reader_List (r' : certificate_Reader) (r : (List api_Value) × certificate_Reader) (hg : g_certificate_Reader_List r' = some r) : Fn Try.prog 67 1 [.ptr 0 0] [.box [.sl 4 (encL api_Value.enc r'.l), .val (.bool r'.Failed)] 75] (fun d b => d = .sl 4 (encL api_Value.enc r.1) ∧ b = [.box [.sl 4 (encL api_Value.enc r.2.l), .val (.bool r.2.Failed)] 75]) := by
 unfold g_certificate_Reader_List at hg
 refine Fn.of Try.func67 rfl rfl rfl fun w0 I ρ0 => ?_
 show awp _ ⟨w0, I, ρ0, 1, 1, 23⟩ _ _ _
 refine sr_ 1 9 mk_U ?_
 refine c0_ rfl rfl .assign rfl rfl ?_
 refine ch_n fun hU9_1 => ?_
 refine sr_ 9 73 hU9_1 ?_
 refine c0_ rfl rfl .move rfl rfl ?_
 obtain ⟨y, hy, hg⟩ := bind_some hg
 refine ch_callP (rd := [0]) (ps := [0]) (gs := []) false rfl (w_certificate_Reader_Next r' _ hy) rfl rfl (.cons (.ptr rfl) .nil) ⟨_, _, _, rfl, .head _, ⟨_, rfl, (by repeat' (first | exact AgL.nil | apply AgL.cons | exact Ag.val | exact Ag.sl | exact Ag.nils | exact Ag.ptr rfl))⟩, rfl⟩ rfl (by intro h; cases h) rfl rfl rfl rfl ?_
 obtain ⟨y_2, hy_2, hg⟩ := bind_some hg
 refine ch_callP (rd := []) (ps := []) (gs := []) false rfl (w_der_AsList y.1 _ hy_2) rfl rfl (.cons (.agg (.cons .val (.cons .sl (.cons .val (.cons .sl .nil))))) .nil) rfl rfl (by intro h; cases h) rfl rfl rfl rfl ?_
 refine c0_ rfl rfl .move rfl rfl ?_
 refine c0_ rfl rfl (.extract rfl) rfl rfl ?_
 refine c0_ rfl rfl (.extract rfl) rfl rfl ?_
 refine c0_ rfl rfl .assign rfl rfl ?_
 refine c0_ rfl rfl .assign rfl rfl ?_
 refine ch_n fun hU73_2 => ?_
 refine sr_ 73 169 hU73_2 ?_
 refine c0_ rfl rfl .move rfl rfl ?_
 refine c0_ rfl rfl .move rfl rfl ?_
 refine c0_ rfl rfl .nilP rfl rfl ?_
 refine c0_ rfl rfl (.fieldP fd75_1 ty4 (by decide)) rfl rfl ?_
 refine ch_s (rd := [0]) rfl rfl (.loadB1 ty4 rfl) rfl rfl ?_
 refine c0_ rfl rfl .move rfl rfl ?_
 rcases Bool.eq_false_or_eq_true (y.2.Failed) with h3 | h3
 ·replace hg := cond_t h3 hg
  refine ch_skip (gdv_f rfl rfl h3) rfl ?_
  refine ch_skip (gdv_f rfl rfl h3) rfl ?_
  refine c0_ rfl rfl (r_pickT h3) rfl rfl ?_
  refine c0_ rfl rfl .nilP rfl rfl ?_
  refine c0_ rfl rfl (.fieldP fd75_1 ty4 (by decide)) rfl rfl ?_
  refine ch_s (rd := [0]) rfl rfl (r_storeB (ds' := [.sl 4 (encL api_Value.enc y.2.l), .val (.bool true)]) ty4 rfl (Nat.le_of_ble_eq_true rfl) rfl rfl) rfl rfl ?_
  refine ch_n fun hU169_4 => ?_
  refine sr_ 169 185 hU169_4 ?_
  refine c0_ rfl rfl .move rfl rfl ?_
  refine c0_ rfl rfl .assign rfl rfl ?_
  refine ch_n fun hU185_6 => ?_
  refine aw_r ?_
  obtain rfl := Option.some.inj hg
  exact ⟨[_], _, [_], [(0, 0)], .cons (.tmp rfl) .nil, ⟨rfl, rfl⟩, .sl _ _, ⟨.inl ⟨0, _, rfl, rfl, ⟨rfl, .cons (.sl _ _) (.cons (.val _) .nil)⟩⟩, trivial⟩, rfl, rfl, rfl, rfl⟩
 ·replace hg := cond_f h3 hg
  refine c0_ (gdv_t rfl rfl h3) rfl .move rfl rfl ?_
  refine c0_ (gdv_t rfl rfl h3) rfl r_neq rfl rfl ?_
  refine c0_ rfl rfl (r_pickF h3) rfl rfl ?_
  refine c0_ rfl rfl .nilP rfl rfl ?_
  refine c0_ rfl rfl (.fieldP fd75_1 ty4 (by decide)) rfl rfl ?_
  refine ch_s (rd := [0]) rfl rfl (r_storeB (ds' := [.sl 4 (encL api_Value.enc y.2.l), .val (.bool (!decide (y_2.2 = 0)))]) ty4 rfl (Nat.le_of_ble_eq_true rfl) rfl rfl) rfl rfl ?_
  refine ch_n fun hU169_5 => ?_
  refine sr_ 169 185 hU169_5 ?_
  refine c0_ rfl rfl .move rfl rfl ?_
  refine c0_ rfl rfl .assign rfl rfl ?_
  refine ch_n fun hU185_7 => ?_
  refine aw_r ?_
  obtain rfl := Option.some.inj hg
  exact ⟨[_], _, [_], [(0, 0)], .cons (.tmp rfl) .nil, ⟨rfl, rfl⟩, .sl _ _, ⟨.inl ⟨0, _, rfl, rfl, ⟨rfl, .cons (.sl _ _) (.cons (.val _) .nil)⟩⟩, trivial⟩, rfl, rfl, rfl, rfl⟩
theorem w_certificate_Reader_names (r' : certificate_Reader) (r : (List ByteArray) × certificate_Reader) (hg : g_certificate_Reader_names r' = some r) : Fn Try.prog 46 1 [.ptr 0 0] [.box [.sl 4 (encL api_Value.enc r'.l), .val (.bool r'.Failed)] 75] (fun d b => d = .sl 1 (encL eS r.1) ∧ b = [.box [.sl 4 (encL api_Value.enc r.2.l), .val (.bool r.2.Failed)] 75]) := by
 unfold g_certificate_Reader_names at hg
 refine Fn.of Try.func46 rfl rfl rfl fun w0 I ρ0 => ?_
 show awp _ ⟨w0, I, ρ0, 1, 1, 37⟩ _ _ _
 refine sr_ 1 9 mk_U ?_
 refine c0_ rfl rfl .assign rfl rfl ?_
 refine ch_n fun hU9_1 => ?_
 refine sr_ 9 17 hU9_1 ?_
 refine c0_ rfl rfl .assign rfl rfl ?_
 refine ch_n fun hU17_2 => ?_
 refine awp_seq ?_
 refine sr_ 17 49 hU17_2 ?_
 refine c0_ rfl rfl .move rfl rfl ?_
 obtain ⟨y, hy, hg⟩ := bind_some hg
 refine ch_callP (rd := [0]) (ps := [0]) (gs := []) false rfl (w_certificate_Reader_List r' _ hy) rfl rfl (.cons (.ptr rfl) .nil) ⟨_, _, _, rfl, .head _, ⟨_, rfl, (by repeat' (first | exact AgL.nil | apply AgL.cons | exact Ag.val | exact Ag.sl | exact Ag.nils | exact Ag.ptr rfl))⟩, rfl⟩ rfl (by intro h; cases h) rfl rfl rfl rfl ?_
 refine c0_ rfl rfl (r_lenS sl47 api_Value.enc_len) rfl rfl ?_
 refine c0_ rfl rfl .move rfl rfl ?_
 refine ch_n fun hU49_3 => ?_
 refine awp_block ?_
 obtain ⟨n1, hg⟩ := loop_some hg
 refine awp_loop (ι := (Int × Bool × List ByteArray) × Nat) (fun (((x11_1, r_1, out_1), _) : (Int × Bool × List ByteArray) × Nat) => mk [(0, .ptr 0 0), (3, .row 1), (9, .sl 4 (encL api_Value.enc y.1)), (10, .val (.int .i64 (y.1.length : Int))), (11, .val (.int .i64 x11_1))] [(0, .box [.sl 4 (encL api_Value.enc y.2.l), .val (.bool r_1)] 75), (1, .row 9 1 (encL eS out_1))] 2) (fun (((x11_1, r_1, out_1), nq') : (Int × Bool × List ByteArray) × Nat) => iter (fun q' => g_certificate_Reader_names.l1 y q'.1 q'.2.1 q'.2.2) nq' (x11_1, r_1, out_1) = some r) (fun q => q.2) ((0, y.2.Failed, ([] : List ByteArray)), n1) (Sub.lists [(0, 0)] rfl rfl ⟨⟨_, rfl, .ptr rfl⟩, ⟨_, rfl, .nil rfl⟩, ⟨_, rfl, .sl _ _⟩, ⟨_, rfl, .val _⟩, ⟨_, rfl, .val _⟩, trivial⟩ ⟨.inl ⟨0, _, rfl, rfl, ⟨rfl, .cons (.sl _ _) (.cons (.val _) .nil)⟩⟩, .inr ⟨rfl, _, _, rfl⟩, trivial⟩) hg ?_
 rintro ⟨⟨x11_1, r_1, out_1⟩, n1⟩ hg
 obtain ⟨m1, o1, rfl, hg, hn1⟩ := iter_some (show iter (fun q' => g_certificate_Reader_names.l1 y q'.1 q'.2.1 q'.2.2) n1 (x11_1, r_1, out_1) = some r from hg)
 replace hg : g_certificate_Reader_names.l1 y x11_1 r_1 out_1 = some o1 := hg
 show awp _ _ _ _ (mk _ _ _)
 unfold g_certificate_Reader_names.l1 at hg
 refine sr_ 2 10 mk_U ?_
 refine c0_ rfl rfl r_lss rfl rfl ?_
 refine ch_n fun hU10_4 => ?_
 refine awp_seq ?_
 refine awp_cond rfl (fun h5 => ?_) (fun h5 => ?_)
 ·replace hg := cond_t h5 hg
  refine aw_s ?_
  refine awp_seq ?_
  refine awp_block ?_
  refine sr_ 10 42 hU10_4 ?_
  obtain ⟨e, he, hg⟩ := bind_some hg
  refine c0_ rfl rfl (r_idxS sl47 api_Value.enc_len (getI_ix he) (getI_at he)) rfl rfl ?_
  refine c0_ rfl rfl (r_loadEA ty49 (enc_cells api_Value.enc_len (getI_at he) (o := 0) (m := 4) (cs := [.int .i64 e.Tag, .sl 1 (encL e8 e.Bytes), .bool e.Nested, .sl 4 (encL api_Value.enc e.Elements)]) (by simp only [api_Value.enc_eq]; rfl) (by decide) rfl) (enc_cells_le api_Value.enc_len (getI_at he) (o := 0) (m := 4) (by decide) rfl)) rfl rfl ?_
  refine c0_ rfl rfl (.alloc z49) rfl rfl ?_
  refine ch_s (rd := [26]) rfl rfl (r_storeB (ds' := [.val (.int .i64 e.Tag), .sl 1 (encL e8 e.Bytes), .val (.bool e.Nested), .sl 4 (encL api_Value.enc e.Elements)]) ty49 rfl (Nat.le_of_ble_eq_true rfl) rfl rfl) rfl rfl ?_
  refine ch_n fun hU42_6 => ?_
  refine sr_ 42 98 hU42_6 ?_
  refine ch_s (rd := [26]) rfl rfl (.loadBA ty49 (Nat.le_of_ble_eq_true rfl)) rfl rfl ?_
  obtain ⟨y_2, hy_2, hg⟩ := bind_some hg
  refine ch_callP (rd := []) (ps := []) (gs := []) false rfl (w_der_AsText e _ hy_2) rfl rfl (.cons (.agg (.cons .val (.cons .sl (.cons .val (.cons .sl .nil))))) .nil) rfl rfl (by intro h; cases h) rfl rfl rfl rfl ?_
  refine c0_ rfl rfl .move rfl rfl ?_
  refine c0_ rfl rfl (.extract rfl) rfl rfl ?_
  refine c0_ rfl rfl (.extract rfl) rfl rfl ?_
  refine c0_ rfl rfl .assign rfl rfl ?_
  refine c0_ rfl rfl .assign rfl rfl ?_
  refine ch_n fun hU98_7 => ?_
  refine awp_cut (ι := Bool) (fun (r_2 : Bool) => mk [(0, .ptr 0 0), (3, .row 1), (6, .val (.string y_2.1)), (9, .sl 4 (encL api_Value.enc y.1)), (10, .val (.int .i64 (y.1.length : Int))), (11, .val (.int .i64 x11_1))] [(0, .box [.sl 4 (encL api_Value.enc y.2.l), .val (.bool r_2)] 75), (1, .row 9 1 (encL eS out_1))] 2) (fun (r_2 : Bool) => g_certificate_Reader_names.j2 x11_1 out_1 y_2 r_2 = some o1) ?_ ?_
  ·refine awp_region (sys _ _ []) 98 194 hU98_7 rfl rfl ?_
   refine c0_ rfl rfl .move rfl rfl ?_
   refine c0_ rfl rfl .move rfl rfl ?_
   refine c0_ rfl rfl .nilP rfl rfl ?_
   refine c0_ rfl rfl (.fieldP fd75_1 ty4 (by decide)) rfl rfl ?_
   refine ch_s (rd := [0]) rfl rfl (.loadB1 ty4 rfl) rfl rfl ?_
   refine c0_ rfl rfl .move rfl rfl ?_
   rcases Bool.eq_false_or_eq_true (r_1) with h8 | h8
   ·replace hg := cond_t h8 hg
    refine ch_skip (gdv_f rfl rfl h8) rfl ?_
    refine ch_skip (gdv_f rfl rfl h8) rfl ?_
    refine c0_ rfl rfl (r_pickT h8) rfl rfl ?_
    refine c0_ rfl rfl .nilP rfl rfl ?_
    refine c0_ rfl rfl (.fieldP fd75_1 ty4 (by decide)) rfl rfl ?_
    refine ch_s (rd := [0]) rfl rfl (r_storeB (ds' := [.sl 4 (encL api_Value.enc y.2.l), .val (.bool true)]) ty4 rfl (Nat.le_of_ble_eq_true rfl) rfl rfl) rfl rfl ?_
    refine ch_n fun hU194_9 => ?_
    exact ⟨true, hg, Sub.lists [(0, 0), (1, 1)] rfl rfl ⟨⟨_, rfl, .ptr rfl⟩, ⟨_, rfl, .row rfl⟩, ⟨_, rfl, .val _⟩, ⟨_, rfl, .sl _ _⟩, ⟨_, rfl, .val _⟩, ⟨_, rfl, .val _⟩, trivial⟩ ⟨.inl ⟨0, _, rfl, rfl, ⟨rfl, .cons (.sl _ _) (.cons (.val _) .nil)⟩⟩, .inl ⟨1, _, rfl, rfl, ⟨rfl, rfl, rfl⟩⟩, trivial⟩⟩
   ·replace hg := cond_f h8 hg
    refine c0_ (gdv_t rfl rfl h8) rfl .move rfl rfl ?_
    refine c0_ (gdv_t rfl rfl h8) rfl r_neq rfl rfl ?_
    refine c0_ rfl rfl (r_pickF h8) rfl rfl ?_
    refine c0_ rfl rfl .nilP rfl rfl ?_
    refine c0_ rfl rfl (.fieldP fd75_1 ty4 (by decide)) rfl rfl ?_
    refine ch_s (rd := [0]) rfl rfl (r_storeB (ds' := [.sl 4 (encL api_Value.enc y.2.l), .val (.bool (!decide (y_2.2 = 0)))]) ty4 rfl (Nat.le_of_ble_eq_true rfl) rfl rfl) rfl rfl ?_
    refine ch_n fun hU194_10 => ?_
    exact ⟨!decide (y_2.2 = 0), hg, Sub.lists [(0, 0), (1, 1)] rfl rfl ⟨⟨_, rfl, .ptr rfl⟩, ⟨_, rfl, .row rfl⟩, ⟨_, rfl, .val _⟩, ⟨_, rfl, .sl _ _⟩, ⟨_, rfl, .val _⟩, ⟨_, rfl, .val _⟩, trivial⟩ ⟨.inl ⟨0, _, rfl, rfl, ⟨rfl, .cons (.sl _ _) (.cons (.val _) .nil)⟩⟩, .inl ⟨1, _, rfl, rfl, ⟨rfl, rfl, rfl⟩⟩, trivial⟩⟩
  ·rintro r_2 hg
   replace hg : g_certificate_Reader_names.j2 x11_1 out_1 y_2 r_2 = some o1 := hg
   show awp _ _ _ _ (mk _ _ _)
   unfold g_certificate_Reader_names.j2 at hg
   refine awp_region (sys _ _ []) 2 42 mk_U rfl rfl ?_
   refine c0_ rfl rfl .move rfl rfl ?_
   refine c0_ rfl rfl .move rfl rfl ?_
   refine c0_ rfl rfl (r_buildFull sl29 z9 (by decide) rfl rfl rfl rfl ck9 (cs := [.str y_2.1]) (.cons .str .nil) rfl (l := ([y_2.1] : List ByteArray)) (f := eS) rfl) rfl rfl ?_
   obtain ⟨l, hl, hg⟩ := bind_some hg
   refine ch_s (rd := [1, 18]) rfl rfl (r_append sl29 eS_len .row rfl .row rfl hl rfl) rfl rfl ?_
   refine c0_ rfl rfl .assign rfl rfl ?_
   refine ch_n fun hU42_11 => ?_
   refine awp_region (sys _ _ []) 42 58 hU42_11 rfl rfl ?_
   refine c0_ rfl rfl r_add rfl rfl ?_
   refine c0_ rfl rfl .move rfl rfl ?_
   refine ch_n fun hU58_12 => ?_
   obtain rfl := Option.some.inj hg
   exact ⟨((W (x11_1 + 1), r_2, l), m1), Nat.lt_succ_self _, hn1, Sub.lists [(0, 0), (1, 26)] rfl rfl ⟨⟨_, rfl, .ptr rfl⟩, ⟨_, rfl, .row rfl⟩, ⟨_, rfl, .sl _ _⟩, ⟨_, rfl, .val _⟩, ⟨_, rfl, .val _⟩, trivial⟩ ⟨.inl ⟨0, _, rfl, rfl, ⟨rfl, .cons (.sl _ _) (.cons (.val _) .nil)⟩⟩, .inl ⟨26, _, rfl, rfl, ⟨rfl, rfl, rfl⟩⟩, trivial⟩⟩
 ·replace hg := cond_f h5 hg
  refine awp_exit ?_
  repeat first | refine st_ ?_ | refine sn_ ?_
  replace hg := leave hg hn1
  refine sr_ 10 26 hU10_4 ?_
  refine c0_ rfl rfl .move rfl rfl ?_
  refine c0_ rfl rfl .assign rfl rfl ?_
  refine ch_n fun hU26_13 => ?_
  refine aw_r ?_
  obtain rfl := Option.some.inj hg
  exact ⟨[_], _, [_], [(0, 0)], .cons (.tmp rfl) .nil, ⟨rfl, rfl⟩, .frz rfl (look_ne rfl), ⟨.inl ⟨0, _, rfl, rfl, ⟨rfl, .cons (.sl _ _) (.cons (.val _) .nil)⟩⟩, trivial⟩, rfl, rfl, rfl, rfl⟩
theorem w_certificate_Parse_c7 (c0 : certificate_Reader) (c1 : api_Certificate) (r : certificate_Reader × api_Certificate) (hg : g_certificate_Parse_c7 c0 c1 = some r) : Fn Try.prog 45 3 [.ptr 0 0, .ptr 2 0] [.box [.ptr 1 0] 66, .box [.sl 4 (encL api_Value.enc c0.l), .val (.bool c0.Failed)] 75, .box [.val (.int .i64 c1.Serial), .val (.string c1.Issuer), .val (.string c1.Subject), .val (.int .i64 c1.Key.Alg), .val (.int .i64 c1.Key.Bits), .val (.int .i64 c1.KeyId), .val (.int .i64 c1.Hash.Alg), .val (.int .i64 c1.Hash.Bits), .val (.int .i64 c1.From), .val (.int .i64 c1.To), .val (.bool c1.Authority), .val (.int .i64 c1.Path), .sl 1 (encL eS c1.Names), .val (.int .i64 c1.Seal.Key), .val (.int .i64 c1.Seal.Sum)] 33] (fun d b => d = .tup [] ∧ b = [.box [.ptr 1 0] 66, .box [.sl 4 (encL api_Value.enc r.1.l), .val (.bool r.1.Failed)] 75, .box [.val (.int .i64 r.2.Serial), .val (.string r.2.Issuer), .val (.string r.2.Subject), .val (.int .i64 r.2.Key.Alg), .val (.int .i64 r.2.Key.Bits), .val (.int .i64 r.2.KeyId), .val (.int .i64 r.2.Hash.Alg), .val (.int .i64 r.2.Hash.Bits), .val (.int .i64 r.2.From), .val (.int .i64 r.2.To), .val (.bool r.2.Authority), .val (.int .i64 r.2.Path), .sl 1 (encL eS r.2.Names), .val (.int .i64 r.2.Seal.Key), .val (.int .i64 r.2.Seal.Sum)] 33]) := by
 unfold g_certificate_Parse_c7 at hg
 refine Fn.of Try.func45 rfl rfl rfl fun w0 I ρ0 => ?_
 show awp _ ⟨w0, I, ρ0, 3, 3, 5⟩ _ _ _
 refine awp_region (sys _ _ []) 3 35 mk_U rfl rfl ?_
 refine ch_s (rd := [0]) rfl rfl (.loadB1 ty66 rfl) rfl rfl ?_
 obtain ⟨y, hy, hg⟩ := bind_some hg
 refine ch_callP (rd := [1]) (ps := [1]) (gs := []) false rfl (w_certificate_Reader_names c0 _ hy) rfl rfl (.cons (.ptr rfl) .nil) ⟨_, _, _, rfl, .head _, ⟨_, rfl, (by repeat' (first | exact AgL.nil | apply AgL.cons | exact Ag.val | exact Ag.sl | exact Ag.nils | exact Ag.ptr rfl))⟩, rfl⟩ rfl (by intro h; cases h) rfl rfl rfl rfl ?_
 refine c0_ rfl rfl (.fieldP fd33_10 ty29 (by decide)) rfl rfl ?_
 refine ch_s (rd := [2]) rfl rfl (r_storeB (ds' := [.val (.int .i64 c1.Serial), .val (.string c1.Issuer), .val (.string c1.Subject), .val (.int .i64 c1.Key.Alg), .val (.int .i64 c1.Key.Bits), .val (.int .i64 c1.KeyId), .val (.int .i64 c1.Hash.Alg), .val (.int .i64 c1.Hash.Bits), .val (.int .i64 c1.From), .val (.int .i64 c1.To), .val (.bool c1.Authority), .val (.int .i64 c1.Path), .sl 1 (encL eS y.1), .val (.int .i64 c1.Seal.Key), .val (.int .i64 c1.Seal.Sum)]) ty29 rfl (Nat.le_of_ble_eq_true rfl) rfl rfl) rfl rfl ?_
 refine ch_n fun hU35_1 => ?_
 obtain rfl := Option.some.inj hg
 exact ⟨[], _, [_, _, _], [(0, 0), (1, 1), (2, 2)], .nil, ⟨rfl, rfl⟩, .tup (.nil), ⟨.inl ⟨0, _, rfl, rfl, ⟨rfl, .cons (.ptr rfl) .nil⟩⟩, .inl ⟨1, _, rfl, rfl, ⟨rfl, .cons (.sl _ _) (.cons (.val _) .nil)⟩⟩, .inl ⟨2, _, rfl, rfl, ⟨rfl, .cons (.val _) (.cons (.val _) (.cons (.val _) (.cons (.val _) (.cons (.val _) (.cons (.val _) (.cons (.val _) (.cons (.val _) (.cons (.val _) (.cons (.val _) (.cons (.val _) (.cons (.val _) (.cons (.sl _ _) (.cons (.val _) (.cons (.val _) .nil))))))))))))))⟩⟩, trivial⟩, rfl, rfl, rfl, rfl⟩
theorem w_certificate_Parse_c8 (c0 : certificate_Reader) (c1 : api_Certificate) (r : certificate_Reader × api_Certificate) (hg : g_certificate_Parse_c8 c0 c1 = some r) : Fn Try.prog 47 3 [.ptr 0 0, .ptr 2 0] [.box [.ptr 1 0] 66, .box [.sl 4 (encL api_Value.enc c0.l), .val (.bool c0.Failed)] 75, .box [.val (.int .i64 c1.Serial), .val (.string c1.Issuer), .val (.string c1.Subject), .val (.int .i64 c1.Key.Alg), .val (.int .i64 c1.Key.Bits), .val (.int .i64 c1.KeyId), .val (.int .i64 c1.Hash.Alg), .val (.int .i64 c1.Hash.Bits), .val (.int .i64 c1.From), .val (.int .i64 c1.To), .val (.bool c1.Authority), .val (.int .i64 c1.Path), .sl 1 (encL eS c1.Names), .val (.int .i64 c1.Seal.Key), .val (.int .i64 c1.Seal.Sum)] 33] (fun d b => d = .tup [] ∧ b = [.box [.ptr 1 0] 66, .box [.sl 4 (encL api_Value.enc r.1.l), .val (.bool r.1.Failed)] 75, .box [.val (.int .i64 r.2.Serial), .val (.string r.2.Issuer), .val (.string r.2.Subject), .val (.int .i64 r.2.Key.Alg), .val (.int .i64 r.2.Key.Bits), .val (.int .i64 r.2.KeyId), .val (.int .i64 r.2.Hash.Alg), .val (.int .i64 r.2.Hash.Bits), .val (.int .i64 r.2.From), .val (.int .i64 r.2.To), .val (.bool r.2.Authority), .val (.int .i64 r.2.Path), .sl 1 (encL eS r.2.Names), .val (.int .i64 r.2.Seal.Key), .val (.int .i64 r.2.Seal.Sum)] 33]) := by
 unfold g_certificate_Parse_c8 at hg
 refine Fn.of Try.func47 rfl rfl rfl fun w0 I ρ0 => ?_
 show awp _ ⟨w0, I, ρ0, 3, 3, 8⟩ _ _ _
 refine awp_draw (sys _ _ []) (by kernel_rfl) [0, 1, 0, 7, 15, 31, 63] 3 59 mk_U rfl rfl (by kernel_rfl) ?_
 refine ch_s (rd := [0]) rfl rfl (.loadB1 ty66 rfl) rfl rfl ?_
 obtain ⟨y, hy, hg⟩ := bind_some hg
 refine ch_callP (rd := [1]) (ps := [1]) (gs := []) false rfl (w_certificate_Reader_Int c0 _ hy) rfl rfl (.cons (.ptr rfl) .nil) ⟨_, _, _, rfl, .head _, ⟨_, rfl, (by repeat' (first | exact AgL.nil | apply AgL.cons | exact Ag.val | exact Ag.sl | exact Ag.nils | exact Ag.ptr rfl))⟩, rfl⟩ rfl (by intro h; cases h) rfl rfl rfl rfl ?_
 refine ch_s (rd := [0]) rfl rfl (.loadB1 ty66 rfl) rfl rfl ?_
 obtain ⟨y_2, hy_2, hg⟩ := bind_some hg
 refine ch_callP (rd := [1]) (ps := [1]) (gs := []) false rfl (w_certificate_Reader_Int y.2 _ hy_2) rfl rfl (.cons (.ptr rfl) .nil) ⟨_, _, _, rfl, .head _, ⟨_, rfl, (by repeat' (first | exact AgL.nil | apply AgL.cons | exact Ag.val | exact Ag.sl | exact Ag.nils | exact Ag.ptr rfl))⟩, rfl⟩ rfl (by intro h; cases h) rfl rfl rfl rfl ?_
 refine c0_ rfl rfl (.build (r := [.val (.int .i64 y.1), .val (.int .i64 y_2.1)]) und31 pl31 z31 (by kernel_rfl) rfl) rfl rfl ?_
 refine c0_ rfl rfl (.fieldP fd33_11 ty31 (by decide)) rfl rfl ?_
 refine ch_s (rd := [2]) rfl rfl (r_storeB (ds' := [.val (.int .i64 c1.Serial), .val (.string c1.Issuer), .val (.string c1.Subject), .val (.int .i64 c1.Key.Alg), .val (.int .i64 c1.Key.Bits), .val (.int .i64 c1.KeyId), .val (.int .i64 c1.Hash.Alg), .val (.int .i64 c1.Hash.Bits), .val (.int .i64 c1.From), .val (.int .i64 c1.To), .val (.bool c1.Authority), .val (.int .i64 c1.Path), .sl 1 (encL eS c1.Names), .val (.int .i64 y.1), .val (.int .i64 y_2.1)]) ty31 rfl (Nat.le_of_ble_eq_true rfl) rfl rfl) rfl rfl ?_
 refine ch_n fun hU59_1 => ?_
 obtain rfl := Option.some.inj hg
 exact ⟨[], _, [_, _, _], [(0, 0), (1, 1), (2, 2)], .nil, ⟨rfl, rfl⟩, .tup (.nil), ⟨.inl ⟨0, _, rfl, rfl, ⟨rfl, .cons (.ptr rfl) .nil⟩⟩, .inl ⟨1, _, rfl, rfl, ⟨rfl, .cons (.sl _ _) (.cons (.val _) .nil)⟩⟩, .inl ⟨2, _, rfl, rfl, ⟨rfl, .cons (.val _) (.cons (.val _) (.cons (.val _) (.cons (.val _) (.cons (.val _) (.cons (.val _) (.cons (.val _) (.cons (.val _) (.cons (.val _) (.cons (.val _) (.cons (.val _) (.cons (.val _) (.cons (.sl _ _) (.cons (.val _) (.cons (.val _) .nil))))))))))))))⟩⟩, trivial⟩, rfl, rfl, rfl, rfl⟩
theorem w_certificate_Parse (v : api_Value) (r : api_Certificate × Bool) (hg : g_certificate_Parse v = some r) : Fn Try.prog 20 0 [.agg [.val (.int .i64 v.Tag), .sl 1 (encL e8 v.Bytes), .val (.bool v.Nested), .sl 4 (encL api_Value.enc v.Elements)]] [] (fun d b => d = .tup [.agg [.val (.int .i64 r.1.Serial), .val (.string r.1.Issuer), .val (.string r.1.Subject), .val (.int .i64 r.1.Key.Alg), .val (.int .i64 r.1.Key.Bits), .val (.int .i64 r.1.KeyId), .val (.int .i64 r.1.Hash.Alg), .val (.int .i64 r.1.Hash.Bits), .val (.int .i64 r.1.From), .val (.int .i64 r.1.To), .val (.bool r.1.Authority), .val (.int .i64 r.1.Path), .sl 1 (encL eS r.1.Names), .val (.int .i64 r.1.Seal.Key), .val (.int .i64 r.1.Seal.Sum)], .val (.bool r.2)] ∧ b = []) := by
 unfold g_certificate_Parse at hg
 refine Fn.of Try.func20 rfl rfl rfl fun w0 I ρ0 => ?_
 show awp _ ⟨w0, I, ρ0, 0, 0, 51⟩ _ _ _
 refine sr_ 0 24 mk_U ?_
 refine c0_ rfl rfl (.box rfl) rfl rfl ?_
 refine c0_ rfl rfl (.alloc z33) rfl rfl ?_
 refine c0_ rfl rfl .assign rfl rfl ?_
 refine ch_n fun hU24_1 => ?_
 refine sr_ 24 32 hU24_1 ?_
 refine c0_ rfl rfl (.alloc z33) rfl rfl ?_
 refine ch_n fun hU32_2 => ?_
 refine sr_ 32 56 hU32_2 ?_
 refine ch_s (rd := [0]) rfl rfl (.loadBA ty49 (Nat.le_of_ble_eq_true rfl)) rfl rfl ?_
 obtain ⟨y, hy, hg⟩ := bind_some hg
 refine ch_call (rd := []) (ps := []) (gs := []) false rfl (w_certificate_Read v 2 _ hy) rfl rfl (.cons (.agg (.cons .val (.cons .sl (.cons .val (.cons .sl .nil))))) (.cons .val .nil)) rfl rfl (by intro h; cases h) rfl (by intro h; first | (cases h; done) | exact ⟨_, _, ⟨rfl, rfl⟩, by simp, by simp⟩) ?_
 rintro _ _ ⟨rfl, rfl⟩
 refine c0_ rfl rfl .assign rfl rfl ?_
 refine ch_n fun hU56_3 => ?_
 refine sr_ 56 136 hU56_3 ?_
 refine c0_ rfl rfl .move rfl rfl ?_
 obtain ⟨y_2, hy_2, hg⟩ := bind_some hg
 refine ch_callP (rd := [40]) (ps := [40]) (gs := []) false rfl (w_certificate_Reader_Next y _ hy_2) rfl rfl (.cons (.ptr rfl) .nil) ⟨_, _, _, rfl, .head _, ⟨_, rfl, (by repeat' (first | exact AgL.nil | apply AgL.cons | exact Ag.val | exact Ag.sl | exact Ag.nils | exact Ag.ptr rfl))⟩, rfl⟩ rfl (by intro h; cases h) rfl rfl rfl rfl ?_
 obtain ⟨y_3, hy_3, hg⟩ := bind_some hg
 refine ch_call (rd := []) (ps := []) (gs := []) false rfl (w_certificate_Read y_2.1 11 _ hy_3) rfl rfl (.cons (.agg (.cons .val (.cons .sl (.cons .val (.cons .sl .nil))))) (.cons .val .nil)) rfl rfl (by intro h; cases h) rfl (by intro h; first | (cases h; done) | exact ⟨_, _, ⟨rfl, rfl⟩, by simp, by simp⟩) ?_
 rintro _ _ ⟨rfl, rfl⟩
 refine c0_ rfl rfl .move rfl rfl ?_
 obtain ⟨y_4, hy_4, hg⟩ := bind_some hg
 refine ch_callP (rd := [40]) (ps := [40]) (gs := []) false rfl (w_certificate_Reader_Next y_2.2 _ hy_4) rfl rfl (.cons (.ptr rfl) .nil) ⟨_, _, _, rfl, .head _, ⟨_, rfl, (by repeat' (first | exact AgL.nil | apply AgL.cons | exact Ag.val | exact Ag.sl | exact Ag.nils | exact Ag.ptr rfl))⟩, rfl⟩ rfl (by intro h; cases h) rfl rfl rfl rfl ?_
 obtain ⟨y_5, hy_5, hg⟩ := bind_some hg
 refine ch_call (rd := []) (ps := []) (gs := []) false rfl (w_certificate_Read y_4.1 2 _ hy_5) rfl rfl (.cons (.agg (.cons .val (.cons .sl (.cons .val (.cons .sl .nil))))) (.cons .val .nil)) rfl rfl (by intro h; cases h) rfl (by intro h; first | (cases h; done) | exact ⟨_, _, ⟨rfl, rfl⟩, by simp, by simp⟩) ?_
 rintro _ _ ⟨rfl, rfl⟩
 refine c0_ rfl rfl (.alloc z66) rfl rfl ?_
 refine c0_ rfl rfl (.alloc z66) rfl rfl ?_
 refine ch_s (rd := [104, 72]) rfl rfl (r_storeB (ds' := [.ptr 72 0]) ty66 rfl (Nat.le_of_ble_eq_true rfl) rfl rfl) rfl rfl ?_
 refine ch_s (rd := [112, 96]) rfl rfl (r_storeB (ds' := [.ptr 96 0]) ty66 rfl (Nat.le_of_ble_eq_true rfl) rfl rfl) rfl rfl ?_
 refine ch_n fun hU136_4 => ?_
 refine awp_seq ?_
 refine sr_ 136 216 hU136_4 ?_
 iterate 8 refine c0_ rfl rfl .makeFunc rfl rfl ?_
 refine c0_ rfl rfl (.buildArr (sz := 1) (r := [.clo 35 0 [.ptr 104 0, .ptr 24 0], .clo 37 0 [.ptr 104 0, .ptr 24 0], .clo 39 0 [.ptr 104 0, .ptr 24 0], .clo 41 0 [.ptr 104 0, .ptr 24 0], .clo 42 0 [.ptr 104 0, .ptr 24 0], .clo 43 0 [.ptr 104 0, .ptr 24 0], .clo 45 0 [.ptr 104 0, .ptr 24 0], .clo 47 0 [.ptr 112 0, .ptr 24 0]]) und73 (by kernel_rfl) z73 (by kernel_rfl) rfl) rfl rfl ?_
 refine c0_ rfl rfl .move rfl rfl ?_
 refine ch_n fun hU216_5 => ?_
 refine awp_block ?_
 refine awp_rounds 10 ?_
 refine rnd_ ?_
 refine sr_ 216 224 hU216_5 ?_
 refine c0_ rfl rfl r_lss rfl rfl ?_
 refine ch_n fun hU224_6 => ?_
 refine awp_seq ?_
 refine awp_cond rfl (fun h => ?_) (fun h => ?_)
 ·refine awp_skip ?_
  repeat first | refine st_ ?_ | refine sn_ ?_
  refine awp_seq ?_
  refine awp_block ?_
  refine sr_ 224 240 hU224_6 ?_
  refine c0_ rfl rfl (.indexA (j := 0) und73 ty1 rfl rfl rfl) rfl rfl ?_
  refine c0_ rfl rfl .assign rfl rfl ?_
  refine ch_n fun hU240_7 => ?_
  refine awp_region (sys _ _ []) 240 256 hU240_7 rfl rfl ?_
  refine c0_ rfl rfl .move rfl rfl ?_
  obtain ⟨y_6, hy_6, hg⟩ := bind_some hg
  refine ch_callC (rd := [104, 24, 72]) (ps := [104, 72, 24]) (gs := []) false rfl rfl (w_certificate_Parse_c1 y_3 (api_Certificate.mk 0 (⟨#[]⟩ : ByteArray) (⟨#[]⟩ : ByteArray) (api_Use.mk 0 0) 0 (api_Use.mk 0 0) 0 0 false 0 ([] : (List ByteArray)) (api_Seal.mk 0 0)) _ hy_6) rfl rfl (.cons (.ptr rfl) (.cons (.ptr rfl) .nil)) ⟨_, _, _, rfl, .head _, ⟨_, rfl, (by repeat' (first | exact AgL.nil | apply AgL.cons | exact Ag.val | exact Ag.sl | exact Ag.nils | exact Ag.ptr rfl))⟩, ⟨_, _, _, rfl, .tail _ (.tail _ (.head _)), ⟨_, rfl, (by repeat' (first | exact AgL.nil | apply AgL.cons | exact Ag.val | exact Ag.sl | exact Ag.nils | exact Ag.ptr rfl))⟩, ⟨_, _, _, rfl, .tail _ (.head _), ⟨_, rfl, (by repeat' (first | exact AgL.nil | apply AgL.cons | exact Ag.val | exact Ag.sl | exact Ag.nils | exact Ag.ptr rfl))⟩, rfl⟩⟩⟩ rfl (by intro h; cases h) rfl (by intro h; first | (cases h; done) | exact ⟨_, _, ⟨rfl, rfl⟩, by simp, by simp⟩) ?_
  rintro _ _ ⟨rfl, rfl⟩
  refine ch_n fun hU256_8 => ?_
  refine awp_region (sys _ _ []) 256 272 hU256_8 rfl rfl ?_
  refine c0_ rfl rfl (r_addL (z := 1) (by decide)) rfl rfl ?_
  refine c0_ rfl rfl .move rfl rfl ?_
  refine ch_n fun hU272_9 => ?_
  refine rnd_ ?_
  refine sr_ 272 280 hU272_9 ?_
  refine c0_ rfl rfl r_lss rfl rfl ?_
  refine ch_n fun hU280_10 => ?_
  refine awp_seq ?_
  refine awp_cond rfl (fun h => ?_) (fun h => ?_)
  ·refine awp_skip ?_
   repeat first | refine st_ ?_ | refine sn_ ?_
   refine awp_seq ?_
   refine awp_block ?_
   refine sr_ 280 296 hU280_10 ?_
   refine c0_ rfl rfl (.indexA (j := 1) und73 ty1 rfl rfl rfl) rfl rfl ?_
   refine c0_ rfl rfl .assign rfl rfl ?_
   refine ch_n fun hU296_11 => ?_
   refine awp_region (sys _ _ []) 296 312 hU296_11 rfl rfl ?_
   refine c0_ rfl rfl .move rfl rfl ?_
   obtain ⟨y_7, hy_7, hg⟩ := bind_some hg
   refine ch_callC (rd := [104, 24, 72]) (ps := [104, 72, 24]) (gs := []) false rfl rfl (w_certificate_Parse_c2 y_6.1 y_6.2 _ hy_7) rfl rfl (.cons (.ptr rfl) (.cons (.ptr rfl) .nil)) ⟨_, _, _, rfl, .head _, ⟨_, rfl, (by repeat' (first | exact AgL.nil | apply AgL.cons | exact Ag.val | exact Ag.sl | exact Ag.nils | exact Ag.ptr rfl))⟩, ⟨_, _, _, rfl, .tail _ (.tail _ (.head _)), ⟨_, rfl, (by repeat' (first | exact AgL.nil | apply AgL.cons | exact Ag.val | exact Ag.sl | exact Ag.nils | exact Ag.ptr rfl))⟩, ⟨_, _, _, rfl, .tail _ (.head _), ⟨_, rfl, (by repeat' (first | exact AgL.nil | apply AgL.cons | exact Ag.val | exact Ag.sl | exact Ag.nils | exact Ag.ptr rfl))⟩, rfl⟩⟩⟩ rfl (by intro h; cases h) rfl (by intro h; first | (cases h; done) | exact ⟨_, _, ⟨rfl, rfl⟩, by simp, by simp⟩) ?_
   rintro _ _ ⟨rfl, rfl⟩
   refine ch_n fun hU312_12 => ?_
   refine awp_region (sys _ _ []) 312 328 hU312_12 rfl rfl ?_
   refine c0_ rfl rfl (r_addL (z := 2) (by decide)) rfl rfl ?_
   refine c0_ rfl rfl .move rfl rfl ?_
   refine ch_n fun hU328_13 => ?_
   refine rnd_ ?_
   refine sr_ 328 336 hU328_13 ?_
   refine c0_ rfl rfl r_lss rfl rfl ?_
   refine ch_n fun hU336_14 => ?_
   refine awp_seq ?_
   refine awp_cond rfl (fun h => ?_) (fun h => ?_)
   ·refine awp_skip ?_
    repeat first | refine st_ ?_ | refine sn_ ?_
    refine awp_seq ?_
    refine awp_block ?_
    refine sr_ 336 352 hU336_14 ?_
    refine c0_ rfl rfl (.indexA (j := 2) und73 ty1 rfl rfl rfl) rfl rfl ?_
    refine c0_ rfl rfl .assign rfl rfl ?_
    refine ch_n fun hU352_15 => ?_
    refine awp_region (sys _ _ []) 352 368 hU352_15 rfl rfl ?_
    refine c0_ rfl rfl .move rfl rfl ?_
    obtain ⟨y_8, hy_8, hg⟩ := bind_some hg
    refine ch_callC (rd := [104, 24, 72]) (ps := [104, 72, 24]) (gs := []) false rfl rfl (w_certificate_Parse_c3 y_7.1 y_7.2 _ hy_8) rfl rfl (.cons (.ptr rfl) (.cons (.ptr rfl) .nil)) ⟨_, _, _, rfl, .head _, ⟨_, rfl, (by repeat' (first | exact AgL.nil | apply AgL.cons | exact Ag.val | exact Ag.sl | exact Ag.nils | exact Ag.ptr rfl))⟩, ⟨_, _, _, rfl, .tail _ (.tail _ (.head _)), ⟨_, rfl, (by repeat' (first | exact AgL.nil | apply AgL.cons | exact Ag.val | exact Ag.sl | exact Ag.nils | exact Ag.ptr rfl))⟩, ⟨_, _, _, rfl, .tail _ (.head _), ⟨_, rfl, (by repeat' (first | exact AgL.nil | apply AgL.cons | exact Ag.val | exact Ag.sl | exact Ag.nils | exact Ag.ptr rfl))⟩, rfl⟩⟩⟩ rfl (by intro h; cases h) rfl (by intro h; first | (cases h; done) | exact ⟨_, _, ⟨rfl, rfl⟩, by simp, by simp⟩) ?_
    rintro _ _ ⟨rfl, rfl⟩
    refine ch_n fun hU368_16 => ?_
    refine awp_region (sys _ _ []) 368 384 hU368_16 rfl rfl ?_
    refine c0_ rfl rfl (r_addL (z := 3) (by decide)) rfl rfl ?_
    refine c0_ rfl rfl .move rfl rfl ?_
    refine ch_n fun hU384_17 => ?_
    refine rnd_ ?_
    refine sr_ 384 392 hU384_17 ?_
    refine c0_ rfl rfl r_lss rfl rfl ?_
    refine ch_n fun hU392_18 => ?_
    refine awp_seq ?_
    refine awp_cond rfl (fun h => ?_) (fun h => ?_)
    ·refine awp_skip ?_
     repeat first | refine st_ ?_ | refine sn_ ?_
     refine awp_seq ?_
     refine awp_block ?_
     refine sr_ 392 408 hU392_18 ?_
     refine c0_ rfl rfl (.indexA (j := 3) und73 ty1 rfl rfl rfl) rfl rfl ?_
     refine c0_ rfl rfl .assign rfl rfl ?_
     refine ch_n fun hU408_19 => ?_
     refine awp_region (sys _ _ []) 408 424 hU408_19 rfl rfl ?_
     refine c0_ rfl rfl .move rfl rfl ?_
     obtain ⟨y_9, hy_9, hg⟩ := bind_some hg
     refine ch_callC (rd := [104, 24, 72]) (ps := [104, 72, 24]) (gs := []) false rfl rfl (w_certificate_Parse_c4 y_8.1 y_8.2 _ hy_9) rfl rfl (.cons (.ptr rfl) (.cons (.ptr rfl) .nil)) ⟨_, _, _, rfl, .head _, ⟨_, rfl, (by repeat' (first | exact AgL.nil | apply AgL.cons | exact Ag.val | exact Ag.sl | exact Ag.nils | exact Ag.ptr rfl))⟩, ⟨_, _, _, rfl, .tail _ (.tail _ (.head _)), ⟨_, rfl, (by repeat' (first | exact AgL.nil | apply AgL.cons | exact Ag.val | exact Ag.sl | exact Ag.nils | exact Ag.ptr rfl))⟩, ⟨_, _, _, rfl, .tail _ (.head _), ⟨_, rfl, (by repeat' (first | exact AgL.nil | apply AgL.cons | exact Ag.val | exact Ag.sl | exact Ag.nils | exact Ag.ptr rfl))⟩, rfl⟩⟩⟩ rfl (by intro h; cases h) rfl (by intro h; first | (cases h; done) | exact ⟨_, _, ⟨rfl, rfl⟩, by simp, by simp⟩) ?_
     rintro _ _ ⟨rfl, rfl⟩
     refine ch_n fun hU424_20 => ?_
     refine awp_region (sys _ _ []) 424 440 hU424_20 rfl rfl ?_
     refine c0_ rfl rfl (r_addL (z := 4) (by decide)) rfl rfl ?_
     refine c0_ rfl rfl .move rfl rfl ?_
     refine ch_n fun hU440_21 => ?_
     refine rnd_ ?_
     refine sr_ 440 448 hU440_21 ?_
     refine c0_ rfl rfl r_lss rfl rfl ?_
     refine ch_n fun hU448_22 => ?_
     refine awp_seq ?_
     refine awp_cond rfl (fun h => ?_) (fun h => ?_)
     ·refine awp_skip ?_
      repeat first | refine st_ ?_ | refine sn_ ?_
      refine awp_seq ?_
      refine awp_block ?_
      refine sr_ 448 464 hU448_22 ?_
      refine c0_ rfl rfl (.indexA (j := 4) und73 ty1 rfl rfl rfl) rfl rfl ?_
      refine c0_ rfl rfl .assign rfl rfl ?_
      refine ch_n fun hU464_23 => ?_
      refine awp_region (sys _ _ []) 464 480 hU464_23 rfl rfl ?_
      refine c0_ rfl rfl .move rfl rfl ?_
      obtain ⟨y_10, hy_10, hg⟩ := bind_some hg
      refine ch_callC (rd := [104, 24, 72]) (ps := [104, 72, 24]) (gs := []) false rfl rfl (w_certificate_Parse_c5 y_9.1 y_9.2 _ hy_10) rfl rfl (.cons (.ptr rfl) (.cons (.ptr rfl) .nil)) ⟨_, _, _, rfl, .head _, ⟨_, rfl, (by repeat' (first | exact AgL.nil | apply AgL.cons | exact Ag.val | exact Ag.sl | exact Ag.nils | exact Ag.ptr rfl))⟩, ⟨_, _, _, rfl, .tail _ (.tail _ (.head _)), ⟨_, rfl, (by repeat' (first | exact AgL.nil | apply AgL.cons | exact Ag.val | exact Ag.sl | exact Ag.nils | exact Ag.ptr rfl))⟩, ⟨_, _, _, rfl, .tail _ (.head _), ⟨_, rfl, (by repeat' (first | exact AgL.nil | apply AgL.cons | exact Ag.val | exact Ag.sl | exact Ag.nils | exact Ag.ptr rfl))⟩, rfl⟩⟩⟩ rfl (by intro h; cases h) rfl (by intro h; first | (cases h; done) | exact ⟨_, _, ⟨rfl, rfl⟩, by simp, by simp⟩) ?_
      rintro _ _ ⟨rfl, rfl⟩
      refine ch_n fun hU480_24 => ?_
      refine awp_region (sys _ _ []) 480 496 hU480_24 rfl rfl ?_
      refine c0_ rfl rfl (r_addL (z := 5) (by decide)) rfl rfl ?_
      refine c0_ rfl rfl .move rfl rfl ?_
      refine ch_n fun hU496_25 => ?_
      refine rnd_ ?_
      refine sr_ 496 504 hU496_25 ?_
      refine c0_ rfl rfl r_lss rfl rfl ?_
      refine ch_n fun hU504_26 => ?_
      refine awp_seq ?_
      refine awp_cond rfl (fun h => ?_) (fun h => ?_)
      ·refine awp_skip ?_
       repeat first | refine st_ ?_ | refine sn_ ?_
       refine awp_seq ?_
       refine awp_block ?_
       refine sr_ 504 520 hU504_26 ?_
       refine c0_ rfl rfl (.indexA (j := 5) und73 ty1 rfl rfl rfl) rfl rfl ?_
       refine c0_ rfl rfl .assign rfl rfl ?_
       refine ch_n fun hU520_27 => ?_
       refine awp_region (sys _ _ []) 520 536 hU520_27 rfl rfl ?_
       refine c0_ rfl rfl .move rfl rfl ?_
       obtain ⟨y_11, hy_11, hg⟩ := bind_some hg
       refine ch_callC (rd := [104, 24, 72]) (ps := [104, 72, 24]) (gs := []) false rfl rfl (w_certificate_Parse_c6 y_10.1 y_10.2 _ hy_11) rfl rfl (.cons (.ptr rfl) (.cons (.ptr rfl) .nil)) ⟨_, _, _, rfl, .head _, ⟨_, rfl, (by repeat' (first | exact AgL.nil | apply AgL.cons | exact Ag.val | exact Ag.sl | exact Ag.nils | exact Ag.ptr rfl))⟩, ⟨_, _, _, rfl, .tail _ (.tail _ (.head _)), ⟨_, rfl, (by repeat' (first | exact AgL.nil | apply AgL.cons | exact Ag.val | exact Ag.sl | exact Ag.nils | exact Ag.ptr rfl))⟩, ⟨_, _, _, rfl, .tail _ (.head _), ⟨_, rfl, (by repeat' (first | exact AgL.nil | apply AgL.cons | exact Ag.val | exact Ag.sl | exact Ag.nils | exact Ag.ptr rfl))⟩, rfl⟩⟩⟩ rfl (by intro h; cases h) rfl (by intro h; first | (cases h; done) | exact ⟨_, _, ⟨rfl, rfl⟩, by simp, by simp⟩) ?_
       rintro _ _ ⟨rfl, rfl⟩
       refine ch_n fun hU536_28 => ?_
       refine awp_region (sys _ _ []) 536 552 hU536_28 rfl rfl ?_
       refine c0_ rfl rfl (r_addL (z := 6) (by decide)) rfl rfl ?_
       refine c0_ rfl rfl .move rfl rfl ?_
       refine ch_n fun hU552_29 => ?_
       refine rnd_ ?_
       refine sr_ 552 560 hU552_29 ?_
       refine c0_ rfl rfl r_lss rfl rfl ?_
       refine ch_n fun hU560_30 => ?_
       refine awp_seq ?_
       refine awp_cond rfl (fun h => ?_) (fun h => ?_)
       ·refine awp_skip ?_
        repeat first | refine st_ ?_ | refine sn_ ?_
        refine awp_seq ?_
        refine awp_block ?_
        refine sr_ 560 576 hU560_30 ?_
        refine c0_ rfl rfl (.indexA (j := 6) und73 ty1 rfl rfl rfl) rfl rfl ?_
        refine c0_ rfl rfl .assign rfl rfl ?_
        refine ch_n fun hU576_31 => ?_
        refine awp_region (sys _ _ []) 576 592 hU576_31 rfl rfl ?_
        refine c0_ rfl rfl .move rfl rfl ?_
        obtain ⟨y_12, hy_12, hg⟩ := bind_some hg
        refine ch_callC (rd := [104, 24, 72]) (ps := [104, 72, 24]) (gs := []) false rfl rfl (w_certificate_Parse_c7 y_11.1 y_11.2 _ hy_12) rfl rfl (.cons (.ptr rfl) (.cons (.ptr rfl) .nil)) ⟨_, _, _, rfl, .head _, ⟨_, rfl, (by repeat' (first | exact AgL.nil | apply AgL.cons | exact Ag.val | exact Ag.sl | exact Ag.nils | exact Ag.ptr rfl))⟩, ⟨_, _, _, rfl, .tail _ (.tail _ (.head _)), ⟨_, rfl, (by repeat' (first | exact AgL.nil | apply AgL.cons | exact Ag.val | exact Ag.sl | exact Ag.nils | exact Ag.ptr rfl))⟩, ⟨_, _, _, rfl, .tail _ (.head _), ⟨_, rfl, (by repeat' (first | exact AgL.nil | apply AgL.cons | exact Ag.val | exact Ag.sl | exact Ag.nils | exact Ag.ptr rfl))⟩, rfl⟩⟩⟩ rfl (by intro h; cases h) rfl (by intro h; first | (cases h; done) | exact ⟨_, _, ⟨rfl, rfl⟩, by simp, by simp⟩) ?_
        rintro _ _ ⟨rfl, rfl⟩
        refine ch_n fun hU592_32 => ?_
        refine awp_region (sys _ _ []) 592 608 hU592_32 rfl rfl ?_
        refine c0_ rfl rfl (r_addL (z := 7) (by decide)) rfl rfl ?_
        refine c0_ rfl rfl .move rfl rfl ?_
        refine ch_n fun hU608_33 => ?_
        refine rnd_ ?_
        refine sr_ 608 616 hU608_33 ?_
        refine c0_ rfl rfl r_lss rfl rfl ?_
        refine ch_n fun hU616_34 => ?_
        refine awp_seq ?_
        refine awp_cond rfl (fun h => ?_) (fun h => ?_)
        ·refine awp_skip ?_
         repeat first | refine st_ ?_ | refine sn_ ?_
         refine awp_seq ?_
         refine awp_block ?_
         refine sr_ 616 632 hU616_34 ?_
         refine c0_ rfl rfl (.indexA (j := 7) und73 ty1 rfl rfl rfl) rfl rfl ?_
         refine c0_ rfl rfl .assign rfl rfl ?_
         refine ch_n fun hU632_35 => ?_
         refine awp_region (sys _ _ []) 632 648 hU632_35 rfl rfl ?_
         refine c0_ rfl rfl .move rfl rfl ?_
         obtain ⟨y_13, hy_13, hg⟩ := bind_some hg
         refine ch_callC (rd := [112, 24, 96]) (ps := [112, 96, 24]) (gs := []) false rfl rfl (w_certificate_Parse_c8 y_5 y_12.2 _ hy_13) rfl rfl (.cons (.ptr rfl) (.cons (.ptr rfl) .nil)) ⟨_, _, _, rfl, .head _, ⟨_, rfl, (by repeat' (first | exact AgL.nil | apply AgL.cons | exact Ag.val | exact Ag.sl | exact Ag.nils | exact Ag.ptr rfl))⟩, ⟨_, _, _, rfl, .tail _ (.tail _ (.head _)), ⟨_, rfl, (by repeat' (first | exact AgL.nil | apply AgL.cons | exact Ag.val | exact Ag.sl | exact Ag.nils | exact Ag.ptr rfl))⟩, ⟨_, _, _, rfl, .tail _ (.head _), ⟨_, rfl, (by repeat' (first | exact AgL.nil | apply AgL.cons | exact Ag.val | exact Ag.sl | exact Ag.nils | exact Ag.ptr rfl))⟩, rfl⟩⟩⟩ rfl (by intro h; cases h) rfl (by intro h; first | (cases h; done) | exact ⟨_, _, ⟨rfl, rfl⟩, by simp, by simp⟩) ?_
         rintro _ _ ⟨rfl, rfl⟩
         refine ch_n fun hU648_36 => ?_
         refine awp_region (sys _ _ []) 648 664 hU648_36 rfl rfl ?_
         refine c0_ rfl rfl (r_addL (z := 8) (by decide)) rfl rfl ?_
         refine c0_ rfl rfl .move rfl rfl ?_
         refine ch_n fun hU664_37 => ?_
         refine rnd_ ?_
         refine sr_ 664 672 hU664_37 ?_
         refine c0_ rfl rfl r_lss rfl rfl ?_
         refine ch_n fun hU672_38 => ?_
         refine awp_seq ?_
         refine awp_cond rfl (fun h => ?_) (fun h => ?_)
         ·exact absurd h (by decide)
         ·refine awp_exit ?_
          repeat first | refine st_ ?_ | refine sn_ ?_
          refine awp_seq ?_
          refine awp_cut (ι := Bool) (fun (x48_1 : Bool) => mk [(2, .ptr 0 0), (4, .ptr 1 0), (48, .val (.bool x48_1))] [(0, .box [.val (.int .i64 0), .val (.string (⟨#[]⟩ : ByteArray)), .val (.string (⟨#[]⟩ : ByteArray)), .val (.int .i64 0), .val (.int .i64 0), .val (.int .i64 0), .val (.int .i64 0), .val (.int .i64 0), .val (.int .i64 0), .val (.int .i64 0), .val (.bool false), .val (.int .i64 0), .val (.slice none 0 0), .val (.int .i64 0), .val (.int .i64 0)] 33), (1, .box [.val (.int .i64 y_13.2.Serial), .val (.string y_13.2.Issuer), .val (.string y_13.2.Subject), .val (.int .i64 y_13.2.Key.Alg), .val (.int .i64 y_13.2.Key.Bits), .val (.int .i64 y_13.2.KeyId), .val (.int .i64 y_13.2.Hash.Alg), .val (.int .i64 y_13.2.Hash.Bits), .val (.int .i64 y_13.2.From), .val (.int .i64 y_13.2.To), .val (.bool y_13.2.Authority), .val (.int .i64 y_13.2.Path), .sl 1 (encL eS y_13.2.Names), .val (.int .i64 y_13.2.Seal.Key), .val (.int .i64 y_13.2.Seal.Sum)] 33)] 2) (fun (x48_1 : Bool) => g_certificate_Parse.j1 y_13 x48_1 = some r) ?_ ?_
          ·refine awp_region (sys _ _ []) 672 800 hU672_38 rfl rfl ?_
           refine c0_ rfl rfl .move rfl rfl ?_
           refine c0_ rfl rfl .nilP rfl rfl ?_
           refine c0_ rfl rfl (.fieldP fd75_1 ty4 (by decide)) rfl rfl ?_
           refine ch_s (rd := [40]) rfl rfl (.loadB1 ty4 rfl) rfl rfl ?_
           refine c0_ rfl rfl .move rfl rfl ?_
           rcases Bool.eq_false_or_eq_true (y_4.2.Failed) with h39 | h39
           ·replace hg := cond_t h39 hg
            iterate 4 refine ch_skip (gdv_f rfl rfl h39) rfl ?_
            refine c0_ rfl rfl (r_pickT h39) rfl rfl ?_
            refine c0_ rfl rfl .move rfl rfl ?_
            iterate 4 refine ch_skip (gdv_f rfl rfl rfl) rfl ?_
            refine c0_ rfl rfl (r_pickT rfl) rfl rfl ?_
            refine ch_n fun hU800_40 => ?_
            exact ⟨true, hg, Sub.lists [(0, 8), (1, 24)] rfl rfl ⟨⟨_, rfl, .ptr rfl⟩, ⟨_, rfl, .ptr rfl⟩, ⟨_, rfl, .val _⟩, trivial⟩ ⟨.inl ⟨8, _, rfl, rfl, ⟨rfl, .cons (.val _) (.cons (.val _) (.cons (.val _) (.cons (.val _) (.cons (.val _) (.cons (.val _) (.cons (.val _) (.cons (.val _) (.cons (.val _) (.cons (.val _) (.cons (.val _) (.cons (.val _) (.cons (.val _) (.cons (.val _) (.cons (.val _) .nil))))))))))))))⟩⟩, .inl ⟨24, _, rfl, rfl, ⟨rfl, .cons (.val _) (.cons (.val _) (.cons (.val _) (.cons (.val _) (.cons (.val _) (.cons (.val _) (.cons (.val _) (.cons (.val _) (.cons (.val _) (.cons (.val _) (.cons (.val _) (.cons (.val _) (.cons (.sl _ _) (.cons (.val _) (.cons (.val _) .nil))))))))))))))⟩⟩, trivial⟩⟩
           ·replace hg := cond_f h39 hg
            refine ch_s (rd := [104]) (gdv_t rfl rfl h39) rfl (.loadB1 ty66 rfl) rfl rfl ?_
            refine c0_ (gdv_t rfl rfl h39) rfl .nilP rfl rfl ?_
            refine c0_ (gdv_t rfl rfl h39) rfl (.fieldP fd75_1 ty4 (by decide)) rfl rfl ?_
            refine ch_s (rd := [72]) (gdv_t rfl rfl h39) rfl (.loadB1 ty4 rfl) rfl rfl ?_
            refine c0_ rfl rfl (r_pickF h39) rfl rfl ?_
            refine c0_ rfl rfl .move rfl rfl ?_
            rcases Bool.eq_false_or_eq_true (y_12.1.Failed) with h41 | h41
            ·replace hg := cond_t h41 hg
             iterate 4 refine ch_skip (gdv_f rfl rfl h41) rfl ?_
             refine c0_ rfl rfl (r_pickT h41) rfl rfl ?_
             refine ch_n fun hU800_42 => ?_
             exact ⟨true, hg, Sub.lists [(0, 8), (1, 24)] rfl rfl ⟨⟨_, rfl, .ptr rfl⟩, ⟨_, rfl, .ptr rfl⟩, ⟨_, rfl, .val _⟩, trivial⟩ ⟨.inl ⟨8, _, rfl, rfl, ⟨rfl, .cons (.val _) (.cons (.val _) (.cons (.val _) (.cons (.val _) (.cons (.val _) (.cons (.val _) (.cons (.val _) (.cons (.val _) (.cons (.val _) (.cons (.val _) (.cons (.val _) (.cons (.val _) (.cons (.val _) (.cons (.val _) (.cons (.val _) .nil))))))))))))))⟩⟩, .inl ⟨24, _, rfl, rfl, ⟨rfl, .cons (.val _) (.cons (.val _) (.cons (.val _) (.cons (.val _) (.cons (.val _) (.cons (.val _) (.cons (.val _) (.cons (.val _) (.cons (.val _) (.cons (.val _) (.cons (.val _) (.cons (.val _) (.cons (.sl _ _) (.cons (.val _) (.cons (.val _) .nil))))))))))))))⟩⟩, trivial⟩⟩
            ·replace hg := cond_f h41 hg
             refine ch_s (rd := [112]) (gdv_t rfl rfl h41) rfl (.loadB1 ty66 rfl) rfl rfl ?_
             refine c0_ (gdv_t rfl rfl h41) rfl .nilP rfl rfl ?_
             refine c0_ (gdv_t rfl rfl h41) rfl (.fieldP fd75_1 ty4 (by decide)) rfl rfl ?_
             refine ch_s (rd := [96]) (gdv_t rfl rfl h41) rfl (.loadB1 ty4 rfl) rfl rfl ?_
             refine c0_ rfl rfl (r_pickF h41) rfl rfl ?_
             refine ch_n fun hU800_43 => ?_
             exact ⟨y_13.1.Failed, hg, Sub.lists [(0, 8), (1, 24)] rfl rfl ⟨⟨_, rfl, .ptr rfl⟩, ⟨_, rfl, .ptr rfl⟩, ⟨_, rfl, .val _⟩, trivial⟩ ⟨.inl ⟨8, _, rfl, rfl, ⟨rfl, .cons (.val _) (.cons (.val _) (.cons (.val _) (.cons (.val _) (.cons (.val _) (.cons (.val _) (.cons (.val _) (.cons (.val _) (.cons (.val _) (.cons (.val _) (.cons (.val _) (.cons (.val _) (.cons (.val _) (.cons (.val _) (.cons (.val _) .nil))))))))))))))⟩⟩, .inl ⟨24, _, rfl, rfl, ⟨rfl, .cons (.val _) (.cons (.val _) (.cons (.val _) (.cons (.val _) (.cons (.val _) (.cons (.val _) (.cons (.val _) (.cons (.val _) (.cons (.val _) (.cons (.val _) (.cons (.val _) (.cons (.val _) (.cons (.sl _ _) (.cons (.val _) (.cons (.val _) .nil))))))))))))))⟩⟩, trivial⟩⟩
          ·rintro x48_1 hg
           replace hg : g_certificate_Parse.j1 y_13 x48_1 = some r := hg
           show awp _ _ _ _ (mk _ _ _)
           unfold g_certificate_Parse.j1 at hg
           refine awp_cond rfl (fun h44 => ?_) (fun h44 => ?_)
           ·replace hg := cond_t h44 hg
            refine sr_ 2 26 mk_U ?_
            refine c0_ rfl rfl (.build (r := [.val (.int .i64 0), .val (.string (⟨#[]⟩ : ByteArray)), .val (.string (⟨#[]⟩ : ByteArray)), .val (.int .i64 0), .val (.int .i64 0), .val (.int .i64 0), .val (.int .i64 0), .val (.int .i64 0), .val (.int .i64 0), .val (.int .i64 0), .val (.bool false), .val (.int .i64 0), .val (.slice none 0 0), .val (.int .i64 0), .val (.int .i64 0)]) und33 pl33 z33 (by kernel_rfl) rfl) rfl rfl ?_
            refine ch_s (rd := [0]) rfl rfl (r_storeB (ds' := [.val (.int .i64 0), .val (.string (⟨#[]⟩ : ByteArray)), .val (.string (⟨#[]⟩ : ByteArray)), .val (.int .i64 0), .val (.int .i64 0), .val (.int .i64 0), .val (.int .i64 0), .val (.int .i64 0), .val (.int .i64 0), .val (.int .i64 0), .val (.bool false), .val (.int .i64 0), .val (.slice none 0 0), .val (.int .i64 0), .val (.int .i64 0)]) ty33 rfl (Nat.le_of_ble_eq_true rfl) rfl rfl) rfl rfl ?_
            refine c0_ rfl rfl .assign rfl rfl ?_
            refine ch_n fun hU26_45 => ?_
            refine aw_r ?_
            obtain rfl := Option.some.inj hg
            exact ⟨[_, _], _, [], [], .cons (.cellA rfl rfl ty33 rfl) (.cons (.tmp rfl) .nil), ⟨rfl, rfl⟩, .tup (.cons (.agg (.cons (.val _) (.cons (.val _) (.cons (.val _) (.cons (.val _) (.cons (.val _) (.cons (.val _) (.cons (.val _) (.cons (.val _) (.cons (.val _) (.cons (.val _) (.cons (.val _) (.cons (.val _) (.cons (.nils _) (.cons (.val _) (.cons (.val _) .nil)))))))))))))))) (.cons (.val _) .nil)), trivial, rfl, rfl, rfl, rfl⟩
           ·replace hg := cond_f h44 hg
            refine aw_s ?_
            refine sr_ 2 26 mk_U ?_
            refine ch_s (rd := [1]) rfl rfl (.loadBA ty33 (Nat.le_of_ble_eq_true rfl)) rfl rfl ?_
            refine ch_s (rd := [0]) rfl rfl (r_storeB (ds' := [.val (.int .i64 y_13.2.Serial), .val (.string y_13.2.Issuer), .val (.string y_13.2.Subject), .val (.int .i64 y_13.2.Key.Alg), .val (.int .i64 y_13.2.Key.Bits), .val (.int .i64 y_13.2.KeyId), .val (.int .i64 y_13.2.Hash.Alg), .val (.int .i64 y_13.2.Hash.Bits), .val (.int .i64 y_13.2.From), .val (.int .i64 y_13.2.To), .val (.bool y_13.2.Authority), .val (.int .i64 y_13.2.Path), .sl 1 (encL eS y_13.2.Names), .val (.int .i64 y_13.2.Seal.Key), .val (.int .i64 y_13.2.Seal.Sum)]) ty33 rfl (Nat.le_of_ble_eq_true rfl) rfl rfl) rfl rfl ?_
            refine c0_ rfl rfl .assign rfl rfl ?_
            refine ch_n fun hU26_46 => ?_
            refine aw_r ?_
            obtain rfl := Option.some.inj hg
            exact ⟨[_, _], _, [], [], .cons (.cellA rfl rfl ty33 rfl) (.cons (.tmp rfl) .nil), ⟨rfl, rfl⟩, .tup (.cons (.agg (.cons (.val _) (.cons (.val _) (.cons (.val _) (.cons (.val _) (.cons (.val _) (.cons (.val _) (.cons (.val _) (.cons (.val _) (.cons (.val _) (.cons (.val _) (.cons (.val _) (.cons (.val _) (.cons (.sl _ _) (.cons (.val _) (.cons (.val _) .nil)))))))))))))))) (.cons (.val _) .nil)), trivial, rfl, rfl, rfl, rfl⟩
        ·exact absurd h (by decide)
       ·exact absurd h (by decide)
      ·exact absurd h (by decide)
     ·exact absurd h (by decide)
    ·exact absurd h (by decide)
   ·exact absurd h (by decide)
  ·exact absurd h (by decide)
 ·exact absurd h (by decide)
end Go.Proofs.Ytlcfdnjokgbccaa
