/- The program computes the plain functions. -/
import Derived.Test.YtlcfdnjokgbccaaT1
import Derived.Test.YtlcfdnjokgbccaaA1
import Derived.Test.YtlcfdnjokgbccaaA2
set_option linter.unusedVariables false
set_option linter.unusedSimpArgs false
set_option maxRecDepth 100000
set_option maxHeartbeats 1600000
namespace Go.Proofs.Ytlcfdnjokgbccaa
open Go.RowKit
theorem w_der_Encode (v : api_Value) (r : (List UInt8) × Int) (hg : g_der_Encode v = some r) : Fn Try.prog 17 0 [.agg [.val (.int .i64 v.Tag), .sl 1 (encL e8 v.Bytes), .val (.bool v.Nested), .sl 4 (encL api_Value.enc v.Elements)]] [] (fun d b => d = .tup [.sl 1 (encL e8 r.1), .val (.int .i64 r.2)] ∧ b = []) := by
 unfold g_der_Encode at hg
 refine Fn.of Try.func17 rfl rfl rfl fun w0 I ρ0 => ?_
 show awp _ ⟨w0, I, ρ0, 0, 0, 17⟩ _ _ _
 refine sr_ 0 24 mk_U ?_
 refine c0_ rfl rfl (.box rfl) rfl rfl ?_
 refine c0_ rfl rfl .assign rfl rfl ?_
 refine c0_ rfl rfl .assign rfl rfl ?_
 refine ch_n fun hU24_1 => ?_
 refine awp_seq ?_
 refine sr_ 24 48 hU24_1 ?_
 refine ch_s (rd := [0]) rfl rfl (.loadBA ty49 (Nat.le_of_ble_eq_true rfl)) rfl rfl ?_
 obtain ⟨y, hy, hg⟩ := bind_some hg
 refine ch_callP (rd := []) (ps := []) (gs := []) false rfl (w_der_formed v _ hy) rfl rfl (.cons (.agg (.cons .val (.cons .sl (.cons .val (.cons .sl .nil))))) .nil) rfl rfl (by intro h; cases h) rfl rfl rfl rfl ?_
 refine c0_ rfl rfl r_not rfl rfl ?_
 refine ch_n fun hU48_2 => ?_
 refine awp_cond rfl (fun h3 => ?_) (fun h3 => ?_)
 ·replace hg := cond_t h3 hg
  refine sr_ 48 64 hU48_2 ?_
  refine c0_ rfl rfl .assign rfl rfl ?_
  refine c0_ rfl rfl .assign rfl rfl ?_
  refine ch_n fun hU64_4 => ?_
  refine aw_r ?_
  obtain rfl := Option.some.inj hg
  exact ⟨[_, _], _, [], [], .cons (.tmp rfl) (.cons (.tmp rfl) .nil), ⟨rfl, rfl⟩, .tup (.cons (.nils _) (.cons (.val _) .nil)), trivial, rfl, rfl, rfl, rfl⟩
 ·replace hg := cond_f h3 hg
  refine aw_s ?_
  refine awp_seq ?_
  refine sr_ 48 72 hU48_2 ?_
  refine ch_s (rd := [0]) rfl rfl (.loadBA ty49 (Nat.le_of_ble_eq_true rfl)) rfl rfl ?_
  obtain ⟨y_2, hy_2, hg⟩ := bind_some hg
  refine ch_callP (rd := []) (ps := []) (gs := []) false rfl (w_der_depth v _ hy_2) rfl rfl (.cons (.agg (.cons .val (.cons .sl (.cons .val (.cons .sl .nil))))) .nil) rfl rfl (by intro h; cases h) rfl rfl rfl rfl ?_
  refine c0_ rfl rfl r_gtr rfl rfl ?_
  refine ch_n fun hU72_5 => ?_
  refine awp_cond rfl (fun h6 => ?_) (fun h6 => ?_)
  ·replace hg := cond_t h6 hg
   refine sr_ 72 88 hU72_5 ?_
   refine c0_ rfl rfl .assign rfl rfl ?_
   refine c0_ rfl rfl .assign rfl rfl ?_
   refine ch_n fun hU88_7 => ?_
   refine aw_r ?_
   obtain rfl := Option.some.inj hg
   exact ⟨[_, _], _, [], [], .cons (.tmp rfl) (.cons (.tmp rfl) .nil), ⟨rfl, rfl⟩, .tup (.cons (.nils _) (.cons (.val _) .nil)), trivial, rfl, rfl, rfl, rfl⟩
  ·replace hg := cond_f h6 hg
   refine aw_s ?_
   refine sr_ 72 96 hU72_5 ?_
   refine ch_s (rd := [0]) rfl rfl (.loadBA ty49 (Nat.le_of_ble_eq_true rfl)) rfl rfl ?_
   obtain ⟨y_3, hy_3, hg⟩ := bind_some hg
   refine ch_call (rd := []) (ps := []) (gs := []) false rfl (w_der_element_nil_own v _ hy_3) rfl rfl (.cons .val (.cons (.agg (.cons .val (.cons .sl (.cons .val (.cons .sl .nil))))) .nil)) rfl rfl (by intro h; cases h) rfl (by intro h; first | (cases h; done) | exact ⟨_, _, ⟨rfl, rfl⟩, by simp, by simp⟩) ?_
   rintro _ _ ⟨rfl, rfl⟩
   refine c0_ rfl rfl .assign rfl rfl ?_
   refine ch_n fun hU96_8 => ?_
   refine awp_seq ?_
   refine sr_ 96 120 hU96_8 ?_
   refine c0_ rfl rfl .move rfl rfl ?_
   refine ch_s (rd := [80]) rfl rfl (r_lenR sl22 e8_len) rfl rfl ?_
   refine c0_ rfl rfl r_gtr rfl rfl ?_
   refine ch_n fun hU120_9 => ?_
   refine awp_cond rfl (fun h10 => ?_) (fun h10 => ?_)
   ·replace hg := cond_t h10 hg
    refine sr_ 120 136 hU120_9 ?_
    refine c0_ rfl rfl .assign rfl rfl ?_
    refine c0_ rfl rfl .assign rfl rfl ?_
    refine ch_n fun hU136_11 => ?_
    refine aw_r ?_
    obtain rfl := Option.some.inj hg
    exact ⟨[_, _], _, [], [], .cons (.tmp rfl) (.cons (.tmp rfl) .nil), ⟨rfl, rfl⟩, .tup (.cons (.nils _) (.cons (.val _) .nil)), trivial, rfl, rfl, rfl, rfl⟩
   ·replace hg := cond_f h10 hg
    refine aw_s ?_
    refine sr_ 120 144 hU120_9 ?_
    refine c0_ rfl rfl .move rfl rfl ?_
    refine c0_ rfl rfl .assign rfl rfl ?_
    refine c0_ rfl rfl .assign rfl rfl ?_
    refine ch_n fun hU144_12 => ?_
    refine aw_r ?_
    obtain rfl := Option.some.inj hg
    exact ⟨[_, _], _, [], [], .cons (.tmp rfl) (.cons (.tmp rfl) .nil), ⟨rfl, rfl⟩, .tup (.cons (.frz rfl (look_ne rfl)) (.cons (.val _) .nil)), trivial, rfl, rfl, rfl, rfl⟩
theorem w_certificate_Bytes (c : api_Certificate) (r : (List UInt8) × Int) (hg : g_certificate_Bytes c = some r) : Fn Try.prog 14 0 [.agg [.val (.int .i64 c.Serial), .val (.string c.Issuer), .val (.string c.Subject), .val (.int .i64 c.Key.Alg), .val (.int .i64 c.Key.Bits), .val (.int .i64 c.KeyId), .val (.int .i64 c.Hash.Alg), .val (.int .i64 c.Hash.Bits), .val (.int .i64 c.From), .val (.int .i64 c.To), .val (.bool c.Authority), .val (.int .i64 c.Path), .sl 1 (encL eS c.Names), .val (.int .i64 c.Seal.Key), .val (.int .i64 c.Seal.Sum)]] [] (fun d b => d = .tup [.sl 1 (encL e8 r.1), .val (.int .i64 r.2)] ∧ b = []) := by
 unfold g_certificate_Bytes at hg
 refine Fn.of Try.func14 rfl rfl rfl fun w0 I ρ0 => ?_
 show awp _ ⟨w0, I, ρ0, 0, 0, 12⟩ _ _ _
 refine sr_ 0 24 mk_U ?_
 refine c0_ rfl rfl (.box rfl) rfl rfl ?_
 refine c0_ rfl rfl .assign rfl rfl ?_
 refine c0_ rfl rfl .assign rfl rfl ?_
 refine ch_n fun hU24_1 => ?_
 refine awp_seq ?_
 refine sr_ 24 48 hU24_1 ?_
 refine ch_s (rd := [0]) rfl rfl (.loadBA ty33 (Nat.le_of_ble_eq_true rfl)) rfl rfl ?_
 obtain ⟨y, hy, hg⟩ := bind_some hg
 refine ch_callP (rd := []) (ps := []) (gs := []) false rfl (w_certificate_valid c _ hy) rfl rfl (.cons (.agg (.cons .val (.cons .val (.cons .val (.cons .val (.cons .val (.cons .val (.cons .val (.cons .val (.cons .val (.cons .val (.cons .val (.cons .val (.cons .sl (.cons .val (.cons .val .nil)))))))))))))))) .nil) rfl rfl (by intro h; cases h) rfl rfl rfl rfl ?_
 refine c0_ rfl rfl r_not rfl rfl ?_
 refine ch_n fun hU48_2 => ?_
 refine awp_cond rfl (fun h3 => ?_) (fun h3 => ?_)
 ·replace hg := cond_t h3 hg
  refine sr_ 48 64 hU48_2 ?_
  refine c0_ rfl rfl .assign rfl rfl ?_
  refine c0_ rfl rfl .assign rfl rfl ?_
  refine ch_n fun hU64_4 => ?_
  refine aw_r ?_
  obtain rfl := Option.some.inj hg
  exact ⟨[_, _], _, [], [], .cons (.tmp rfl) (.cons (.tmp rfl) .nil), ⟨rfl, rfl⟩, .tup (.cons (.nils _) (.cons (.val _) .nil)), trivial, rfl, rfl, rfl, rfl⟩
 ·replace hg := cond_f h3 hg
  refine aw_s ?_
  refine sr_ 48 104 hU48_2 ?_
  refine ch_s (rd := [0]) rfl rfl (.loadBA ty33 (Nat.le_of_ble_eq_true rfl)) rfl rfl ?_
  obtain ⟨y_2, hy_2, hg⟩ := bind_some hg
  refine ch_callP (rd := []) (ps := []) (gs := []) false rfl (w_certificate_body c _ hy_2) rfl rfl (.cons (.agg (.cons .val (.cons .val (.cons .val (.cons .val (.cons .val (.cons .val (.cons .val (.cons .val (.cons .val (.cons .val (.cons .val (.cons .val (.cons .sl (.cons .val (.cons .val .nil)))))))))))))))) .nil) rfl rfl (by intro h; cases h) rfl rfl rfl rfl ?_
  obtain ⟨y_3, hy_3, hg⟩ := bind_some hg
  refine ch_callP (rd := []) (ps := []) (gs := []) false rfl (w_der_Encode y_2 _ hy_3) rfl rfl (.cons (.agg (.cons .val (.cons .sl (.cons .val (.cons .sl .nil))))) .nil) rfl rfl (by intro h; cases h) rfl rfl rfl rfl ?_
  refine c0_ rfl rfl (.extract rfl) rfl rfl ?_
  refine c0_ rfl rfl (.extract rfl) rfl rfl ?_
  refine c0_ rfl rfl .assign rfl rfl ?_
  refine c0_ rfl rfl .assign rfl rfl ?_
  refine ch_n fun hU104_5 => ?_
  refine aw_r ?_
  obtain rfl := Option.some.inj hg
  exact ⟨[_, _], _, [], [], .cons (.tmp rfl) (.cons (.tmp rfl) .nil), ⟨rfl, rfl⟩, .tup (.cons (.sl _ _) (.cons (.val _) .nil)), trivial, rfl, rfl, rfl, rfl⟩
theorem w_certificate_Sum (b : (List UInt8)) (r : Int) (hg : g_certificate_Sum b = some r) : Fn Try.prog 5 0 [.sl 1 (encL e8 b)] [] (fun d b => d = .val (.int .i64 r) ∧ b = []) := by
 unfold g_certificate_Sum at hg
 refine Fn.of Try.func5 rfl rfl rfl fun w0 I ρ0 => ?_
 show awp _ ⟨w0, I, ρ0, 0, 0, 20⟩ _ _ _
 refine sr_ 0 8 mk_U ?_
 refine c0_ rfl rfl .assign rfl rfl ?_
 refine ch_n fun hU8_1 => ?_
 refine sr_ 8 16 hU8_1 ?_
 refine c0_ rfl rfl .assign rfl rfl ?_
 refine ch_n fun hU16_2 => ?_
 refine awp_seq ?_
 refine sr_ 16 40 hU16_2 ?_
 refine c0_ rfl rfl .move rfl rfl ?_
 refine c0_ rfl rfl (r_lenS sl22 e8_len) rfl rfl ?_
 refine c0_ rfl rfl .move rfl rfl ?_
 refine ch_n fun hU40_3 => ?_
 refine awp_block ?_
 obtain ⟨n1, hg⟩ := loop_some hg
 refine awp_loop (ι := (Int × Int) × Nat) (fun (((s_1, x8_1), _) : (Int × Int) × Nat) => mk [(3, .val (.int .u32 s_1)), (6, .sl 1 (encL e8 b)), (7, .val (.int .i64 (b.length : Int))), (8, .val (.int .i64 x8_1))] [] 0) (fun (((s_1, x8_1), nq') : (Int × Int) × Nat) => iter (fun q' => g_certificate_Sum.l1 b q'.1 q'.2) nq' (s_1, x8_1) = some r) (fun q => q.2) ((2166136261, 0), n1) (Sub.lists [] rfl rfl ⟨⟨_, rfl, .val _⟩, ⟨_, rfl, .sl _ _⟩, ⟨_, rfl, .val _⟩, ⟨_, rfl, .val _⟩, trivial⟩ trivial) hg ?_
 rintro ⟨⟨s_1, x8_1⟩, n1⟩ hg
 obtain ⟨m1, o1, rfl, hg, hn1⟩ := iter_some (show iter (fun q' => g_certificate_Sum.l1 b q'.1 q'.2) n1 (s_1, x8_1) = some r from hg)
 replace hg : g_certificate_Sum.l1 b s_1 x8_1 = some o1 := hg
 show awp _ _ _ _ (mk _ _ _)
 unfold g_certificate_Sum.l1 at hg
 refine sr_ 0 8 mk_U ?_
 refine c0_ rfl rfl r_lss rfl rfl ?_
 refine ch_n fun hU8_4 => ?_
 refine awp_seq ?_
 refine awp_cond rfl (fun h5 => ?_) (fun h5 => ?_)
 ·replace hg := cond_t h5 hg
  refine aw_s ?_
  refine awp_seq ?_
  refine awp_block ?_
  refine sr_ 8 32 hU8_4 ?_
  obtain ⟨e, he, hg⟩ := bind_some hg
  refine c0_ rfl rfl (r_idxS sl22 e8_len (getI_ix he) (getI_at he)) rfl rfl ?_
  refine c0_ rfl rfl (r_loadE1 ty5 (enc_cell e8_len (getI_at he) (o := 0) (c := .int .u8 (e.toNat : Int)) rfl rfl)) rfl rfl ?_
  refine c0_ rfl rfl .assign rfl rfl ?_
  refine ch_n fun hU32_6 => ?_
  refine awp_region (sys _ _ []) 32 80 hU32_6 rfl rfl ?_
  refine c0_ rfl rfl .move rfl rfl ?_
  refine c0_ rfl rfl .move rfl rfl ?_
  refine c0_ rfl rfl (r_convK und5 und42) rfl rfl ?_
  refine c0_ rfl rfl r_xorK rfl rfl ?_
  refine c0_ rfl rfl r_mulK rfl rfl ?_
  refine c0_ rfl rfl .assign rfl rfl ?_
  refine ch_n fun hU80_7 => ?_
  refine awp_region (sys _ _ []) 80 96 hU80_7 rfl rfl ?_
  refine c0_ rfl rfl r_add rfl rfl ?_
  refine c0_ rfl rfl .move rfl rfl ?_
  refine ch_n fun hU96_8 => ?_
  obtain rfl := Option.some.inj hg
  exact ⟨((IntKind.wrap .u32 ((xorK .u32 s_1 (IntKind.wrap .u32 (e.toNat : Int))) * 16777619), W (x8_1 + 1)), m1), Nat.lt_succ_self _, hn1, Sub.lists [] rfl rfl ⟨⟨_, rfl, .val _⟩, ⟨_, rfl, .sl _ _⟩, ⟨_, rfl, .val _⟩, ⟨_, rfl, .val _⟩, trivial⟩ trivial⟩
 ·replace hg := cond_f h5 hg
  refine awp_exit ?_
  repeat first | refine st_ ?_ | refine sn_ ?_
  replace hg := leave hg hn1
  refine sr_ 8 32 hU8_4 ?_
  refine c0_ rfl rfl .move rfl rfl ?_
  refine c0_ rfl rfl (r_conv_i64 und42 und3) rfl rfl ?_
  refine c0_ rfl rfl .assign rfl rfl ?_
  refine ch_n fun hU32_9 => ?_
  refine aw_r ?_
  obtain rfl := Option.some.inj hg
  exact ⟨[_], _, [], [], .cons (.tmp rfl) .nil, ⟨rfl, rfl⟩, .val _, trivial, rfl, rfl, rfl, rfl⟩
theorem w_certificate_Sign (c : api_Certificate) (key : Int) (r : api_Certificate × Int) (hg : g_certificate_Sign c key = some r) : Fn Try.prog 8 0 [.agg [.val (.int .i64 c.Serial), .val (.string c.Issuer), .val (.string c.Subject), .val (.int .i64 c.Key.Alg), .val (.int .i64 c.Key.Bits), .val (.int .i64 c.KeyId), .val (.int .i64 c.Hash.Alg), .val (.int .i64 c.Hash.Bits), .val (.int .i64 c.From), .val (.int .i64 c.To), .val (.bool c.Authority), .val (.int .i64 c.Path), .sl 1 (encL eS c.Names), .val (.int .i64 c.Seal.Key), .val (.int .i64 c.Seal.Sum)], .val (.int .i64 key)] [] (fun d b => d = .tup [.agg [.val (.int .i64 r.1.Serial), .val (.string r.1.Issuer), .val (.string r.1.Subject), .val (.int .i64 r.1.Key.Alg), .val (.int .i64 r.1.Key.Bits), .val (.int .i64 r.1.KeyId), .val (.int .i64 r.1.Hash.Alg), .val (.int .i64 r.1.Hash.Bits), .val (.int .i64 r.1.From), .val (.int .i64 r.1.To), .val (.bool r.1.Authority), .val (.int .i64 r.1.Path), .sl 1 (encL eS r.1.Names), .val (.int .i64 r.1.Seal.Key), .val (.int .i64 r.1.Seal.Sum)], .val (.int .i64 r.2)] ∧ b = []) := by
 unfold g_certificate_Sign at hg
 refine Fn.of Try.func8 rfl rfl rfl fun w0 I ρ0 => ?_
 show awp _ ⟨w0, I, ρ0, 0, 0, 33⟩ _ _ _
 refine sr_ 0 24 mk_U ?_
 refine c0_ rfl rfl (.box rfl) rfl rfl ?_
 refine c0_ rfl rfl (.alloc z33) rfl rfl ?_
 refine c0_ rfl rfl .assign rfl rfl ?_
 refine ch_n fun hU24_1 => ?_
 refine sr_ 24 88 hU24_1 ?_
 refine c0_ rfl rfl (.fieldP fd33_10 ty29 (by decide)) rfl rfl ?_
 refine ch_s (rd := [0]) rfl rfl (.loadB1 ty29 rfl) rfl rfl ?_
 obtain ⟨y, hy, hg⟩ := bind_some hg
 refine ch_callP (rd := []) (ps := []) (gs := []) false rfl (w_slices_Clone_string c.Names _ hy) rfl rfl (.cons .sl .nil) rfl rfl (by intro h; cases h) rfl rfl rfl rfl ?_
 refine c0_ rfl rfl (.build (r := [.val (.int .i64 0), .val (.int .i64 0)]) und31 pl31 z31 (by kernel_rfl) rfl) rfl rfl ?_
 refine c0_ rfl rfl (.fieldP fd33_10 ty29 (by decide)) rfl rfl ?_
 refine ch_s (rd := [0]) rfl rfl (r_storeB (ds' := [.val (.int .i64 c.Serial), .val (.string c.Issuer), .val (.string c.Subject), .val (.int .i64 c.Key.Alg), .val (.int .i64 c.Key.Bits), .val (.int .i64 c.KeyId), .val (.int .i64 c.Hash.Alg), .val (.int .i64 c.Hash.Bits), .val (.int .i64 c.From), .val (.int .i64 c.To), .val (.bool c.Authority), .val (.int .i64 c.Path), .sl 1 (encL eS y), .val (.int .i64 c.Seal.Key), .val (.int .i64 c.Seal.Sum)]) ty29 rfl (Nat.le_of_ble_eq_true rfl) rfl rfl) rfl rfl ?_
 refine c0_ rfl rfl (.fieldP fd33_11 ty31 (by decide)) rfl rfl ?_
 refine ch_s (rd := [0]) rfl rfl (r_storeB (ds' := [.val (.int .i64 c.Serial), .val (.string c.Issuer), .val (.string c.Subject), .val (.int .i64 c.Key.Alg), .val (.int .i64 c.Key.Bits), .val (.int .i64 c.KeyId), .val (.int .i64 c.Hash.Alg), .val (.int .i64 c.Hash.Bits), .val (.int .i64 c.From), .val (.int .i64 c.To), .val (.bool c.Authority), .val (.int .i64 c.Path), .sl 1 (encL eS y), .val (.int .i64 0), .val (.int .i64 0)]) ty31 rfl (Nat.le_of_ble_eq_true rfl) rfl rfl) rfl rfl ?_
 refine ch_n fun hU88_2 => ?_
 refine sr_ 88 144 hU88_2 ?_
 refine ch_s (rd := [0]) rfl rfl (.loadBA ty33 (Nat.le_of_ble_eq_true rfl)) rfl rfl ?_
 obtain ⟨y_2, hy_2, hg⟩ := bind_some hg
 refine ch_callP (rd := []) (ps := []) (gs := []) false rfl (w_certificate_Bytes (api_Certificate.mk c.Serial c.Issuer c.Subject c.Key c.KeyId c.Hash c.From c.To c.Authority c.Path y (api_Seal.mk 0 0)) _ hy_2) rfl rfl (.cons (.agg (.cons .val (.cons .val (.cons .val (.cons .val (.cons .val (.cons .val (.cons .val (.cons .val (.cons .val (.cons .val (.cons .val (.cons .val (.cons .sl (.cons .val (.cons .val .nil)))))))))))))))) .nil) rfl rfl (by intro h; cases h) rfl rfl rfl rfl ?_
 refine c0_ rfl rfl .move rfl rfl ?_
 refine c0_ rfl rfl (.extract rfl) rfl rfl ?_
 refine c0_ rfl rfl (.extract rfl) rfl rfl ?_
 refine c0_ rfl rfl .assign rfl rfl ?_
 refine c0_ rfl rfl .assign rfl rfl ?_
 refine ch_n fun hU144_3 => ?_
 refine awp_seq ?_
 refine awp_cut (ι := Bool) (fun (x25_1 : Bool) => mk [(1, .val (.int .i64 key)), (2, .ptr 0 0), (4, .ptr 1 0), (6, .sl 1 (encL e8 y_2.1)), (25, .val (.bool x25_1))] [(0, .box [.val (.int .i64 c.Serial), .val (.string c.Issuer), .val (.string c.Subject), .val (.int .i64 c.Key.Alg), .val (.int .i64 c.Key.Bits), .val (.int .i64 c.KeyId), .val (.int .i64 c.Hash.Alg), .val (.int .i64 c.Hash.Bits), .val (.int .i64 c.From), .val (.int .i64 c.To), .val (.bool c.Authority), .val (.int .i64 c.Path), .sl 1 (encL eS y), .val (.int .i64 0), .val (.int .i64 0)] 33), (1, .box [.val (.int .i64 0), .val (.string (⟨#[]⟩ : ByteArray)), .val (.string (⟨#[]⟩ : ByteArray)), .val (.int .i64 0), .val (.int .i64 0), .val (.int .i64 0), .val (.int .i64 0), .val (.int .i64 0), .val (.int .i64 0), .val (.int .i64 0), .val (.bool false), .val (.int .i64 0), .val (.slice none 0 0), .val (.int .i64 0), .val (.int .i64 0)] 33)] 2) (fun (x25_1 : Bool) => g_certificate_Sign.j1 c key y y_2 x25_1 = some r) ?_ ?_
 ·refine awp_region (sys _ _ []) 144 200 hU144_3 rfl rfl ?_
  refine c0_ rfl rfl .move rfl rfl ?_
  refine c0_ rfl rfl r_neq rfl rfl ?_
  refine c0_ rfl rfl .move rfl rfl ?_
  rcases Bool.eq_false_or_eq_true (!decide (y_2.2 = 0)) with h4 | h4
  ·replace hg := cond_t h4 hg
   iterate 3 refine ch_skip (gdv_f rfl rfl h4) rfl ?_
   refine c0_ rfl rfl (r_pickT h4) rfl rfl ?_
   refine ch_n fun hU200_5 => ?_
   exact ⟨true, hg, Sub.lists [(0, 0), (1, 8)] rfl rfl ⟨⟨_, rfl, .val _⟩, ⟨_, rfl, .ptr rfl⟩, ⟨_, rfl, .ptr rfl⟩, ⟨_, rfl, .sl _ _⟩, ⟨_, rfl, .val _⟩, trivial⟩ ⟨.inl ⟨0, _, rfl, rfl, ⟨rfl, .cons (.val _) (.cons (.val _) (.cons (.val _) (.cons (.val _) (.cons (.val _) (.cons (.val _) (.cons (.val _) (.cons (.val _) (.cons (.val _) (.cons (.val _) (.cons (.val _) (.cons (.val _) (.cons (.sl _ _) (.cons (.val _) (.cons (.val _) .nil))))))))))))))⟩⟩, .inl ⟨8, _, rfl, rfl, ⟨rfl, .cons (.val _) (.cons (.val _) (.cons (.val _) (.cons (.val _) (.cons (.val _) (.cons (.val _) (.cons (.val _) (.cons (.val _) (.cons (.val _) (.cons (.val _) (.cons (.val _) (.cons (.val _) (.cons (.val _) (.cons (.val _) (.cons (.val _) .nil))))))))))))))⟩⟩, trivial⟩⟩
  ·replace hg := cond_f h4 hg
   refine c0_ (gdv_t rfl rfl h4) rfl .move rfl rfl ?_
   obtain ⟨y_3, hy_3, hg⟩ := bind_some hg
   refine ch_callP (rd := []) (ps := []) (gs := []) false (gdv_t rfl rfl h4) (w_certificate_Key key _ hy_3) rfl rfl (.cons .val .nil) rfl rfl (by intro h; cases h) rfl rfl rfl rfl ?_
   refine c0_ (gdv_t rfl rfl h4) rfl r_not rfl rfl ?_
   refine c0_ rfl rfl (r_pickF h4) rfl rfl ?_
   refine ch_n fun hU200_6 => ?_
   exact ⟨!y_3, hg, Sub.lists [(0, 0), (1, 8)] rfl rfl ⟨⟨_, rfl, .val _⟩, ⟨_, rfl, .ptr rfl⟩, ⟨_, rfl, .ptr rfl⟩, ⟨_, rfl, .sl _ _⟩, ⟨_, rfl, .val _⟩, trivial⟩ ⟨.inl ⟨0, _, rfl, rfl, ⟨rfl, .cons (.val _) (.cons (.val _) (.cons (.val _) (.cons (.val _) (.cons (.val _) (.cons (.val _) (.cons (.val _) (.cons (.val _) (.cons (.val _) (.cons (.val _) (.cons (.val _) (.cons (.val _) (.cons (.sl _ _) (.cons (.val _) (.cons (.val _) .nil))))))))))))))⟩⟩, .inl ⟨8, _, rfl, rfl, ⟨rfl, .cons (.val _) (.cons (.val _) (.cons (.val _) (.cons (.val _) (.cons (.val _) (.cons (.val _) (.cons (.val _) (.cons (.val _) (.cons (.val _) (.cons (.val _) (.cons (.val _) (.cons (.val _) (.cons (.val _) (.cons (.val _) (.cons (.val _) .nil))))))))))))))⟩⟩, trivial⟩⟩
 ·rintro x25_1 hg
  replace hg : g_certificate_Sign.j1 c key y y_2 x25_1 = some r := hg
  show awp _ _ _ _ (mk _ _ _)
  unfold g_certificate_Sign.j1 at hg
  refine awp_cond rfl (fun h7 => ?_) (fun h7 => ?_)
  ·replace hg := cond_t h7 hg
   refine sr_ 2 26 mk_U ?_
   refine c0_ rfl rfl (.build (r := [.val (.int .i64 0), .val (.string (⟨#[]⟩ : ByteArray)), .val (.string (⟨#[]⟩ : ByteArray)), .val (.int .i64 0), .val (.int .i64 0), .val (.int .i64 0), .val (.int .i64 0), .val (.int .i64 0), .val (.int .i64 0), .val (.int .i64 0), .val (.bool false), .val (.int .i64 0), .val (.slice none 0 0), .val (.int .i64 0), .val (.int .i64 0)]) und33 pl33 z33 (by kernel_rfl) rfl) rfl rfl ?_
   refine ch_s (rd := [1]) rfl rfl (r_storeB (ds' := [.val (.int .i64 0), .val (.string (⟨#[]⟩ : ByteArray)), .val (.string (⟨#[]⟩ : ByteArray)), .val (.int .i64 0), .val (.int .i64 0), .val (.int .i64 0), .val (.int .i64 0), .val (.int .i64 0), .val (.int .i64 0), .val (.int .i64 0), .val (.bool false), .val (.int .i64 0), .val (.slice none 0 0), .val (.int .i64 0), .val (.int .i64 0)]) ty33 rfl (Nat.le_of_ble_eq_true rfl) rfl rfl) rfl rfl ?_
   refine c0_ rfl rfl .assign rfl rfl ?_
   refine ch_n fun hU26_8 => ?_
   refine aw_r ?_
   obtain rfl := Option.some.inj hg
   exact ⟨[_, _], _, [], [], .cons (.cellA rfl rfl ty33 rfl) (.cons (.tmp rfl) .nil), ⟨rfl, rfl⟩, .tup (.cons (.agg (.cons (.val _) (.cons (.val _) (.cons (.val _) (.cons (.val _) (.cons (.val _) (.cons (.val _) (.cons (.val _) (.cons (.val _) (.cons (.val _) (.cons (.val _) (.cons (.val _) (.cons (.val _) (.cons (.nils _) (.cons (.val _) (.cons (.val _) .nil)))))))))))))))) (.cons (.val _) .nil)), trivial, rfl, rfl, rfl, rfl⟩
  ·replace hg := cond_f h7 hg
   refine aw_s ?_
   refine sr_ 2 50 mk_U ?_
   refine c0_ rfl rfl .move rfl rfl ?_
   refine c0_ rfl rfl .move rfl rfl ?_
   obtain ⟨y_4, hy_4, hg⟩ := bind_some hg
   refine ch_callP (rd := []) (ps := []) (gs := []) false rfl (w_certificate_Sum y_2.1 _ hy_4) rfl rfl (.cons .sl .nil) rfl rfl (by intro h; cases h) rfl rfl rfl rfl ?_
   refine c0_ rfl rfl (.build (r := [.val (.int .i64 key), .val (.int .i64 y_4)]) und31 pl31 z31 (by kernel_rfl) rfl) rfl rfl ?_
   refine c0_ rfl rfl (.fieldP fd33_11 ty31 (by decide)) rfl rfl ?_
   refine ch_s (rd := [0]) rfl rfl (r_storeB (ds' := [.val (.int .i64 c.Serial), .val (.string c.Issuer), .val (.string c.Subject), .val (.int .i64 c.Key.Alg), .val (.int .i64 c.Key.Bits), .val (.int .i64 c.KeyId), .val (.int .i64 c.Hash.Alg), .val (.int .i64 c.Hash.Bits), .val (.int .i64 c.From), .val (.int .i64 c.To), .val (.bool c.Authority), .val (.int .i64 c.Path), .sl 1 (encL eS y), .val (.int .i64 key), .val (.int .i64 y_4)]) ty31 rfl (Nat.le_of_ble_eq_true rfl) rfl rfl) rfl rfl ?_
   refine ch_n fun hU50_9 => ?_
   refine sr_ 50 74 hU50_9 ?_
   refine ch_s (rd := [0]) rfl rfl (.loadBA ty33 (Nat.le_of_ble_eq_true rfl)) rfl rfl ?_
   refine ch_s (rd := [1]) rfl rfl (r_storeB (ds' := [.val (.int .i64 c.Serial), .val (.string c.Issuer), .val (.string c.Subject), .val (.int .i64 c.Key.Alg), .val (.int .i64 c.Key.Bits), .val (.int .i64 c.KeyId), .val (.int .i64 c.Hash.Alg), .val (.int .i64 c.Hash.Bits), .val (.int .i64 c.From), .val (.int .i64 c.To), .val (.bool c.Authority), .val (.int .i64 c.Path), .sl 1 (encL eS y), .val (.int .i64 key), .val (.int .i64 y_4)]) ty33 rfl (Nat.le_of_ble_eq_true rfl) rfl rfl) rfl rfl ?_
   refine c0_ rfl rfl .assign rfl rfl ?_
   refine ch_n fun hU74_10 => ?_
   refine aw_r ?_
   obtain rfl := Option.some.inj hg
   exact ⟨[_, _], _, [], [], .cons (.cellA rfl rfl ty33 rfl) (.cons (.tmp rfl) .nil), ⟨rfl, rfl⟩, .tup (.cons (.agg (.cons (.val _) (.cons (.val _) (.cons (.val _) (.cons (.val _) (.cons (.val _) (.cons (.val _) (.cons (.val _) (.cons (.val _) (.cons (.val _) (.cons (.val _) (.cons (.val _) (.cons (.val _) (.cons (.sl _ _) (.cons (.val _) (.cons (.val _) .nil)))))))))))))))) (.cons (.val _) .nil)), trivial, rfl, rfl, rfl, rfl⟩
theorem w_certificate_Element (c : api_Certificate) (r : api_Value) (hg : g_certificate_Element c = some r) : Fn Try.prog 18 0 [.agg [.val (.int .i64 c.Serial), .val (.string c.Issuer), .val (.string c.Subject), .val (.int .i64 c.Key.Alg), .val (.int .i64 c.Key.Bits), .val (.int .i64 c.KeyId), .val (.int .i64 c.Hash.Alg), .val (.int .i64 c.Hash.Bits), .val (.int .i64 c.From), .val (.int .i64 c.To), .val (.bool c.Authority), .val (.int .i64 c.Path), .sl 1 (encL eS c.Names), .val (.int .i64 c.Seal.Key), .val (.int .i64 c.Seal.Sum)]] [] (fun d b => d = .agg [.val (.int .i64 r.Tag), .sl 1 (encL e8 r.Bytes), .val (.bool r.Nested), .sl 4 (encL api_Value.enc r.Elements)] ∧ b = []) := by
 unfold g_certificate_Element at hg
 refine Fn.of Try.func18 rfl rfl rfl fun w0 I ρ0 => ?_
 show awp _ ⟨w0, I, ρ0, 0, 0, 17⟩ _ _ _
 refine sr_ 0 16 mk_U ?_
 refine c0_ rfl rfl (.box rfl) rfl rfl ?_
 refine c0_ rfl rfl (.alloc z49) rfl rfl ?_
 refine ch_n fun hU16_1 => ?_
 refine awp_seq ?_
 refine awp_draw (sys _ _ [96, 112]) (by kernel_rfl) [0, 1, 0, 4, 12, 31, 0, 64, 192, 511, 1023, 2047, 4095, 8191, 16383] 16 136 hU16_1 rfl rfl (by kernel_rfl) ?_
 refine ch_s (rd := [0]) rfl rfl (.loadBA ty33 (Nat.le_of_ble_eq_true rfl)) rfl rfl ?_
 obtain ⟨y, hy, hg⟩ := bind_some hg
 refine ch_callP (rd := []) (ps := []) (gs := []) false rfl (w_certificate_body c _ hy) rfl rfl (.cons (.agg (.cons .val (.cons .val (.cons .val (.cons .val (.cons .val (.cons .val (.cons .val (.cons .val (.cons .val (.cons .val (.cons .val (.cons .val (.cons .sl (.cons .val (.cons .val .nil)))))))))))))))) .nil) rfl rfl (by intro h; cases h) rfl rfl rfl rfl ?_
 refine c0_ rfl rfl (.fieldP fd33_11 ty31 (by decide)) rfl rfl ?_
 refine c0_ rfl rfl (.fieldP fd31_0 ty3 (by decide)) rfl rfl ?_
 refine ch_s (rd := [0]) rfl rfl (.loadB1 ty3 rfl) rfl rfl ?_
 obtain ⟨y_2, hy_2, hg⟩ := bind_some hg
 refine ch_callP (rd := []) (ps := []) (gs := []) false rfl (w_der_Int c.Seal.Key _ hy_2) rfl rfl (.cons .val .nil) rfl rfl (by intro h; cases h) rfl rfl rfl rfl ?_
 refine c0_ rfl rfl (.fieldP fd33_11 ty31 (by decide)) rfl rfl ?_
 refine c0_ rfl rfl (.fieldP fd31_1 ty3 (by decide)) rfl rfl ?_
 refine ch_s (rd := [0]) rfl rfl (.loadB1 ty3 rfl) rfl rfl ?_
 obtain ⟨y_3, hy_3, hg⟩ := bind_some hg
 refine ch_callP (rd := []) (ps := []) (gs := []) false rfl (w_der_Int c.Seal.Sum _ hy_3) rfl rfl (.cons .val .nil) rfl rfl (by intro h; cases h) rfl rfl rfl rfl ?_
 refine ch_z (rd := []) rfl rfl (r_buildFull sl47 z49 (by decide) rfl rfl rfl rfl ck49 (cs := [.int .i64 y_2.Tag, .sl 1 (encL e8 y_2.Bytes), .bool y_2.Nested, .sl 4 (encL api_Value.enc y_2.Elements), .int .i64 y_3.Tag, .sl 1 (encL e8 y_3.Bytes), .bool y_3.Nested, .sl 4 (encL api_Value.enc y_3.Elements)]) (.cons .int (.cons .sl (.cons .bool (.cons .sl (.cons .int (.cons .sl (.cons .bool (.cons .sl .nil)))))))) rfl (l := ([y_2, y_3] : List api_Value)) (f := api_Value.enc) (by simp only [encL, List.flatMap_cons, List.flatMap_nil, api_Value.enc_eq]; rfl)) rfl rfl rfl ?_
 obtain ⟨y_4, hy_4, hg⟩ := bind_some hg
 refine ch_callP (rd := []) (ps := []) (gs := []) false rfl (w_der_Of ([y_2, y_3] : List api_Value) _ hy_4) rfl rfl (.cons .sl .nil) rfl rfl (by intro h; cases h) rfl rfl rfl rfl ?_
 refine ch_z (rd := []) rfl rfl (r_buildFull sl47 z49 (by decide) rfl rfl rfl rfl ck49 (cs := [.int .i64 y.Tag, .sl 1 (encL e8 y.Bytes), .bool y.Nested, .sl 4 (encL api_Value.enc y.Elements), .int .i64 y_4.Tag, .sl 1 (encL e8 y_4.Bytes), .bool y_4.Nested, .sl 4 (encL api_Value.enc y_4.Elements)]) (.cons .int (.cons .sl (.cons .bool (.cons .sl (.cons .int (.cons .sl (.cons .bool (.cons .sl .nil)))))))) rfl (l := ([y, y_4] : List api_Value)) (f := api_Value.enc) (by simp only [encL, List.flatMap_cons, List.flatMap_nil, api_Value.enc_eq]; rfl)) rfl rfl rfl ?_
 obtain ⟨y_5, hy_5, hg⟩ := bind_some hg
 refine ch_callP (rd := []) (ps := []) (gs := []) false rfl (w_der_Of ([y, y_4] : List api_Value) _ hy_5) rfl rfl (.cons .sl .nil) rfl rfl (by intro h; cases h) rfl rfl rfl rfl ?_
 refine ch_s (rd := [8]) rfl rfl (r_storeB (ds' := [.val (.int .i64 y_5.Tag), .sl 1 (encL e8 y_5.Bytes), .val (.bool y_5.Nested), .sl 4 (encL api_Value.enc y_5.Elements)]) ty49 rfl (Nat.le_of_ble_eq_true rfl) rfl rfl) rfl rfl ?_
 refine ch_n fun hU136_2 => ?_
 refine aw_r ?_
 obtain rfl := Option.some.inj hg
 exact ⟨[_], _, [], [], .cons (.cellA rfl rfl ty49 rfl) .nil, ⟨rfl, rfl⟩, .agg (.cons (.val _) (.cons (.sl _ _) (.cons (.val _) (.cons (.sl _ _) .nil)))), trivial, rfl, rfl, rfl, rfl⟩
theorem w_certificate_Encode (c : api_Certificate) (r : (List UInt8) × Int) (hg : g_certificate_Encode c = some r) : Fn Try.prog 9 0 [.agg [.val (.int .i64 c.Serial), .val (.string c.Issuer), .val (.string c.Subject), .val (.int .i64 c.Key.Alg), .val (.int .i64 c.Key.Bits), .val (.int .i64 c.KeyId), .val (.int .i64 c.Hash.Alg), .val (.int .i64 c.Hash.Bits), .val (.int .i64 c.From), .val (.int .i64 c.To), .val (.bool c.Authority), .val (.int .i64 c.Path), .sl 1 (encL eS c.Names), .val (.int .i64 c.Seal.Key), .val (.int .i64 c.Seal.Sum)]] [] (fun d b => d = .tup [.sl 1 (encL e8 r.1), .val (.int .i64 r.2)] ∧ b = []) := by
 unfold g_certificate_Encode at hg
 refine Fn.of Try.func9 rfl rfl rfl fun w0 I ρ0 => ?_
 show awp _ ⟨w0, I, ρ0, 0, 0, 12⟩ _ _ _
 refine sr_ 0 24 mk_U ?_
 refine c0_ rfl rfl (.box rfl) rfl rfl ?_
 refine c0_ rfl rfl .assign rfl rfl ?_
 refine c0_ rfl rfl .assign rfl rfl ?_
 refine ch_n fun hU24_1 => ?_
 refine awp_seq ?_
 refine sr_ 24 48 hU24_1 ?_
 refine ch_s (rd := [0]) rfl rfl (.loadBA ty33 (Nat.le_of_ble_eq_true rfl)) rfl rfl ?_
 obtain ⟨y, hy, hg⟩ := bind_some hg
 refine ch_callP (rd := []) (ps := []) (gs := []) false rfl (w_certificate_valid c _ hy) rfl rfl (.cons (.agg (.cons .val (.cons .val (.cons .val (.cons .val (.cons .val (.cons .val (.cons .val (.cons .val (.cons .val (.cons .val (.cons .val (.cons .val (.cons .sl (.cons .val (.cons .val .nil)))))))))))))))) .nil) rfl rfl (by intro h; cases h) rfl rfl rfl rfl ?_
 refine c0_ rfl rfl r_not rfl rfl ?_
 refine ch_n fun hU48_2 => ?_
 refine awp_cond rfl (fun h3 => ?_) (fun h3 => ?_)
 ·replace hg := cond_t h3 hg
  refine sr_ 48 64 hU48_2 ?_
  refine c0_ rfl rfl .assign rfl rfl ?_
  refine c0_ rfl rfl .assign rfl rfl ?_
  refine ch_n fun hU64_4 => ?_
  refine aw_r ?_
  obtain rfl := Option.some.inj hg
  exact ⟨[_, _], _, [], [], .cons (.tmp rfl) (.cons (.tmp rfl) .nil), ⟨rfl, rfl⟩, .tup (.cons (.nils _) (.cons (.val _) .nil)), trivial, rfl, rfl, rfl, rfl⟩
 ·replace hg := cond_f h3 hg
  refine aw_s ?_
  refine sr_ 48 104 hU48_2 ?_
  refine ch_s (rd := [0]) rfl rfl (.loadBA ty33 (Nat.le_of_ble_eq_true rfl)) rfl rfl ?_
  obtain ⟨y_2, hy_2, hg⟩ := bind_some hg
  refine ch_callP (rd := []) (ps := []) (gs := []) false rfl (w_certificate_Element c _ hy_2) rfl rfl (.cons (.agg (.cons .val (.cons .val (.cons .val (.cons .val (.cons .val (.cons .val (.cons .val (.cons .val (.cons .val (.cons .val (.cons .val (.cons .val (.cons .sl (.cons .val (.cons .val .nil)))))))))))))))) .nil) rfl rfl (by intro h; cases h) rfl rfl rfl rfl ?_
  obtain ⟨y_3, hy_3, hg⟩ := bind_some hg
  refine ch_callP (rd := []) (ps := []) (gs := []) false rfl (w_der_Encode y_2 _ hy_3) rfl rfl (.cons (.agg (.cons .val (.cons .sl (.cons .val (.cons .sl .nil))))) .nil) rfl rfl (by intro h; cases h) rfl rfl rfl rfl ?_
  refine c0_ rfl rfl (.extract rfl) rfl rfl ?_
  refine c0_ rfl rfl (.extract rfl) rfl rfl ?_
  refine c0_ rfl rfl .assign rfl rfl ?_
  refine c0_ rfl rfl .assign rfl rfl ?_
  refine ch_n fun hU104_5 => ?_
  refine aw_r ?_
  obtain rfl := Option.some.inj hg
  exact ⟨[_, _], _, [], [], .cons (.tmp rfl) (.cons (.tmp rfl) .nil), ⟨rfl, rfl⟩, .tup (.cons (.sl _ _) (.cons (.val _) .nil)), trivial, rfl, rfl, rfl, rfl⟩
theorem w_der_size (b : (List UInt8)) (r : Int × Int × Bool) (hg : g_der_size b = some r) : Fn Try.prog 60 0 [.sl 1 (encL e8 b)] [] (fun d b => d = .tup [.val (.int .i64 r.1), .val (.int .i64 r.2.1), .val (.bool r.2.2)] ∧ b = []) := by
 unfold g_der_size at hg
 refine Fn.of Try.func60 rfl rfl rfl fun w0 I ρ0 => ?_
 show awp _ ⟨w0, I, ρ0, 0, 0, 61⟩ _ _ _
 refine sr_ 0 24 mk_U ?_
 iterate 3 refine c0_ rfl rfl .assign rfl rfl ?_
 refine ch_n fun hU24_1 => ?_
 refine awp_seq ?_
 refine sr_ 24 48 hU24_1 ?_
 refine c0_ rfl rfl .move rfl rfl ?_
 refine c0_ rfl rfl (r_lenS sl22 e8_len) rfl rfl ?_
 refine c0_ rfl rfl r_eql rfl rfl ?_
 refine ch_n fun hU48_2 => ?_
 refine awp_cond rfl (fun h3 => ?_) (fun h3 => ?_)
 ·replace hg := cond_t h3 hg
  refine sr_ 48 72 hU48_2 ?_
  iterate 3 refine c0_ rfl rfl .assign rfl rfl ?_
  refine ch_n fun hU72_4 => ?_
  refine aw_r ?_
  obtain rfl := Option.some.inj hg
  exact ⟨[_, _, _], _, [], [], .cons (.tmp rfl) (.cons (.tmp rfl) (.cons (.tmp rfl) .nil)), ⟨rfl, rfl⟩, .tup (.cons (.val _) (.cons (.val _) (.cons (.val _) .nil))), trivial, rfl, rfl, rfl, rfl⟩
 ·replace hg := cond_f h3 hg
  refine aw_s ?_
  refine sr_ 48 96 hU48_2 ?_
  refine c0_ rfl rfl .move rfl rfl ?_
  obtain ⟨e, he, hg⟩ := bind_some hg
  refine c0_ rfl rfl (r_idxS sl22 e8_len (getI_ix he) (getI_at he)) rfl rfl ?_
  refine c0_ rfl rfl (r_loadE1 ty5 (enc_cell e8_len (getI_at he) (o := 0) (c := .int .u8 (e.toNat : Int)) rfl rfl)) rfl rfl ?_
  refine c0_ rfl rfl (r_conv_8i (u := e) und5 und3) rfl rfl ?_
  refine c0_ rfl rfl r_sub rfl rfl ?_
  refine c0_ rfl rfl .assign rfl rfl ?_
  refine ch_n fun hU96_5 => ?_
  refine awp_seq ?_
  refine sr_ 96 112 hU96_5 ?_
  refine c0_ rfl rfl .move rfl rfl ?_
  refine c0_ rfl rfl r_lss rfl rfl ?_
  refine ch_n fun hU112_6 => ?_
  refine awp_cond rfl (fun h7 => ?_) (fun h7 => ?_)
  ·replace hg := cond_t h7 hg
   refine sr_ 112 168 hU112_6 ?_
   refine c0_ rfl rfl .move rfl rfl ?_
   refine c0_ rfl rfl (r_idxS sl22 e8_len (getI_ix he) (getI_at he)) rfl rfl ?_
   refine c0_ rfl rfl (r_loadE1 ty5 (enc_cell e8_len (getI_at he) (o := 0) (c := .int .u8 (e.toNat : Int)) rfl rfl)) rfl rfl ?_
   refine c0_ rfl rfl (r_conv_8i (u := e) und5 und3) rfl rfl ?_
   iterate 3 refine c0_ rfl rfl .assign rfl rfl ?_
   refine ch_n fun hU168_8 => ?_
   refine aw_r ?_
   obtain rfl := Option.some.inj hg
   exact ⟨[_, _, _], _, [], [], .cons (.tmp rfl) (.cons (.tmp rfl) (.cons (.tmp rfl) .nil)), ⟨rfl, rfl⟩, .tup (.cons (.val _) (.cons (.val _) (.cons (.val _) .nil))), trivial, rfl, rfl, rfl, rfl⟩
  ·replace hg := cond_f h7 hg
   refine aw_s ?_
   refine awp_seq ?_
   refine awp_cut (ι := Bool) (fun (x40_1 : Bool) => mk [(0, .sl 1 (encL e8 b)), (5, .val (.int .i64 (W ((e.toNat : Int) - 128)))), (40, .val (.bool x40_1))] [] 0) (fun (x40_1 : Bool) => g_der_size.j1 b e x40_1 = some r) ?_ ?_
   ·refine awp_region (sys _ _ []) 112 256 hU112_6 rfl rfl ?_
    refine c0_ rfl rfl .move rfl rfl ?_
    refine c0_ rfl rfl r_lss rfl rfl ?_
    refine c0_ rfl rfl .move rfl rfl ?_
    rcases Bool.eq_false_or_eq_true (decide ((W ((e.toNat : Int) - 128)) < 1)) with h9 | h9
    ·replace hg := cond_t h9 hg
     refine ch_skip (gdv_f rfl rfl h9) rfl ?_
     refine ch_skip (gdv_f rfl rfl h9) rfl ?_
     refine c0_ rfl rfl (r_pickT h9) rfl rfl ?_
     refine c0_ rfl rfl .move rfl rfl ?_
     iterate 4 refine ch_skip (gdv_f rfl rfl rfl) rfl ?_
     refine c0_ rfl rfl (r_pickT rfl) rfl rfl ?_
     refine c0_ rfl rfl .move rfl rfl ?_
     iterate 4 refine ch_skip (gdv_f rfl rfl rfl) rfl ?_
     refine c0_ rfl rfl (r_pickT rfl) rfl rfl ?_
     refine ch_n fun hU256_10 => ?_
     exact ⟨true, hg, Sub.lists [] rfl rfl ⟨⟨_, rfl, .sl _ _⟩, ⟨_, rfl, .val _⟩, ⟨_, rfl, .val _⟩, trivial⟩ trivial⟩
    ·replace hg := cond_f h9 hg
     refine c0_ (gdv_t rfl rfl h9) rfl .move rfl rfl ?_
     refine c0_ (gdv_t rfl rfl h9) rfl r_gtr rfl rfl ?_
     refine c0_ rfl rfl (r_pickF h9) rfl rfl ?_
     refine c0_ rfl rfl .move rfl rfl ?_
     rcases Bool.eq_false_or_eq_true (decide (2 < (W ((e.toNat : Int) - 128)))) with h11 | h11
     ·replace hg := cond_t h11 hg
      iterate 4 refine ch_skip (gdv_f rfl rfl h11) rfl ?_
      refine c0_ rfl rfl (r_pickT h11) rfl rfl ?_
      refine c0_ rfl rfl .move rfl rfl ?_
      iterate 4 refine ch_skip (gdv_f rfl rfl rfl) rfl ?_
      refine c0_ rfl rfl (r_pickT rfl) rfl rfl ?_
      refine ch_n fun hU256_12 => ?_
      exact ⟨true, hg, Sub.lists [] rfl rfl ⟨⟨_, rfl, .sl _ _⟩, ⟨_, rfl, .val _⟩, ⟨_, rfl, .val _⟩, trivial⟩ trivial⟩
     ·replace hg := cond_f h11 hg
      refine c0_ (gdv_t rfl rfl h11) rfl .move rfl rfl ?_
      refine c0_ (gdv_t rfl rfl h11) rfl (r_lenS sl22 e8_len) rfl rfl ?_
      refine c0_ (gdv_t rfl rfl h11) rfl .move rfl rfl ?_
      refine c0_ (gdv_t rfl rfl h11) rfl r_leq rfl rfl ?_
      refine c0_ rfl rfl (r_pickF h11) rfl rfl ?_
      refine c0_ rfl rfl .move rfl rfl ?_
      rcases Bool.eq_false_or_eq_true (decide ((b.length : Int) ≤ (W ((e.toNat : Int) - 128)))) with h13 | h13
      ·replace hg := cond_t h13 hg
       iterate 4 refine ch_skip (gdv_f rfl rfl h13) rfl ?_
       refine c0_ rfl rfl (r_pickT h13) rfl rfl ?_
       refine ch_n fun hU256_14 => ?_
       exact ⟨true, hg, Sub.lists [] rfl rfl ⟨⟨_, rfl, .sl _ _⟩, ⟨_, rfl, .val _⟩, ⟨_, rfl, .val _⟩, trivial⟩ trivial⟩
      ·replace hg := cond_f h13 hg
       refine c0_ (gdv_t rfl rfl h13) rfl .move rfl rfl ?_
       obtain ⟨e_2, he_2, hg⟩ := bind_some hg
       refine c0_ (gdv_t rfl rfl h13) rfl (r_idxS sl22 e8_len (getI_ix he_2) (getI_at he_2)) rfl rfl ?_
       refine c0_ (gdv_t rfl rfl h13) rfl (r_loadE1 ty5 (enc_cell e8_len (getI_at he_2) (o := 0) (c := .int .u8 (e_2.toNat : Int)) rfl rfl)) rfl rfl ?_
       refine c0_ (gdv_t rfl rfl h13) rfl r_eql rfl rfl ?_
       refine c0_ rfl rfl (r_pickF h13) rfl rfl ?_
       refine ch_n fun hU256_15 => ?_
       exact ⟨decide ((e_2.toNat : Int) = 0), hg, Sub.lists [] rfl rfl ⟨⟨_, rfl, .sl _ _⟩, ⟨_, rfl, .val _⟩, ⟨_, rfl, .val _⟩, trivial⟩ trivial⟩
   ·rintro x40_1 hg
    replace hg : g_der_size.j1 b e x40_1 = some r := hg
    show awp _ _ _ _ (mk _ _ _)
    unfold g_der_size.j1 at hg
    refine awp_cond rfl (fun h16 => ?_) (fun h16 => ?_)
    ·replace hg := cond_t h16 hg
     refine sr_ 0 24 mk_U ?_
     iterate 3 refine c0_ rfl rfl .assign rfl rfl ?_
     refine ch_n fun hU24_17 => ?_
     refine aw_r ?_
     obtain rfl := Option.some.inj hg
     exact ⟨[_, _, _], _, [], [], .cons (.tmp rfl) (.cons (.tmp rfl) (.cons (.tmp rfl) .nil)), ⟨rfl, rfl⟩, .tup (.cons (.val _) (.cons (.val _) (.cons (.val _) .nil))), trivial, rfl, rfl, rfl, rfl⟩
    ·replace hg := cond_f h16 hg
     refine aw_s ?_
     refine sr_ 0 8 mk_U ?_
     refine c0_ rfl rfl .assign rfl rfl ?_
     refine ch_n fun hU8_18 => ?_
     refine awp_seq ?_
     refine sr_ 8 56 hU8_18 ?_
     refine c0_ rfl rfl .move rfl rfl ?_
     refine c0_ rfl rfl .move rfl rfl ?_
     refine c0_ rfl rfl r_add rfl rfl ?_
     obtain ⟨l, hl, hg⟩ := bind_some hg
     refine c0_ rfl rfl (r_sliS sl22 e8_len hl) rfl rfl ?_
     refine c0_ rfl rfl (r_lenS sl22 e8_len) rfl rfl ?_
     refine c0_ rfl rfl .move rfl rfl ?_
     refine ch_n fun hU56_19 => ?_
     refine awp_block ?_
     obtain ⟨n2, hg⟩ := loop_some hg
     refine awp_loop (ι := (Int × Int) × Nat) (fun (((n_2, x46_2), _) : (Int × Int) × Nat) => mk [(5, .val (.int .i64 (W ((e.toNat : Int) - 128)))), (6, .val (.int .i64 n_2)), (44, .sl 1 (encL e8 l)), (45, .val (.int .i64 (l.length : Int))), (46, .val (.int .i64 x46_2))] [] 0) (fun (((n_2, x46_2), nq') : (Int × Int) × Nat) => iter (fun q' => g_der_size.l2 e l q'.1 q'.2) nq' (n_2, x46_2) = some r) (fun q => q.2) ((0, 0), n2) (Sub.lists [] rfl rfl ⟨⟨_, rfl, .val _⟩, ⟨_, rfl, .val _⟩, ⟨_, rfl, .sl _ _⟩, ⟨_, rfl, .val _⟩, ⟨_, rfl, .val _⟩, trivial⟩ trivial) hg ?_
     rintro ⟨⟨n_2, x46_2⟩, n2⟩ hg
     obtain ⟨m2, o2, rfl, hg, hn2⟩ := iter_some (show iter (fun q' => g_der_size.l2 e l q'.1 q'.2) n2 (n_2, x46_2) = some r from hg)
     replace hg : g_der_size.l2 e l n_2 x46_2 = some o2 := hg
     show awp _ _ _ _ (mk _ _ _)
     unfold g_der_size.l2 at hg
     refine sr_ 0 8 mk_U ?_
     refine c0_ rfl rfl r_lss rfl rfl ?_
     refine ch_n fun hU8_20 => ?_
     refine awp_seq ?_
     refine awp_cond rfl (fun h21 => ?_) (fun h21 => ?_)
     ·replace hg := cond_t h21 hg
      refine aw_s ?_
      refine awp_seq ?_
      refine awp_block ?_
      refine sr_ 8 32 hU8_20 ?_
      obtain ⟨e_3, he_3, hg⟩ := bind_some hg
      refine c0_ rfl rfl (r_idxS sl22 e8_len (getI_ix he_3) (getI_at he_3)) rfl rfl ?_
      refine c0_ rfl rfl (r_loadE1 ty5 (enc_cell e8_len (getI_at he_3) (o := 0) (c := .int .u8 (e_3.toNat : Int)) rfl rfl)) rfl rfl ?_
      refine c0_ rfl rfl .assign rfl rfl ?_
      refine ch_n fun hU32_22 => ?_
      refine awp_region (sys _ _ []) 32 80 hU32_22 rfl rfl ?_
      refine c0_ rfl rfl .move rfl rfl ?_
      obtain ⟨q, hq, hg⟩ := bind_some hg
      refine c0_ rfl rfl (r_shlK hq) rfl rfl ?_
      refine c0_ rfl rfl .move rfl rfl ?_
      refine c0_ rfl rfl (r_conv_8i (u := e_3) und5 und3) rfl rfl ?_
      refine c0_ rfl rfl r_orK rfl rfl ?_
      refine c0_ rfl rfl .assign rfl rfl ?_
      refine ch_n fun hU80_23 => ?_
      refine awp_region (sys _ _ []) 80 96 hU80_23 rfl rfl ?_
      refine c0_ rfl rfl r_add rfl rfl ?_
      refine c0_ rfl rfl .move rfl rfl ?_
      refine ch_n fun hU96_24 => ?_
      obtain rfl := Option.some.inj hg
      exact ⟨((orK .i64 q (e_3.toNat : Int), W (x46_2 + 1)), m2), Nat.lt_succ_self _, hn2, Sub.lists [] rfl rfl ⟨⟨_, rfl, .val _⟩, ⟨_, rfl, .val _⟩, ⟨_, rfl, .sl _ _⟩, ⟨_, rfl, .val _⟩, ⟨_, rfl, .val _⟩, trivial⟩ trivial⟩
     ·replace hg := cond_f h21 hg
      refine awp_exit ?_
      repeat first | refine st_ ?_ | refine sn_ ?_
      replace hg := leave hg hn2
      refine sr_ 8 72 hU8_20 ?_
      refine c0_ rfl rfl .move rfl rfl ?_
      refine c0_ rfl rfl .move rfl rfl ?_
      refine c0_ rfl rfl r_add rfl rfl ?_
      refine c0_ rfl rfl .move rfl rfl ?_
      refine c0_ rfl rfl r_geq rfl rfl ?_
      iterate 3 refine c0_ rfl rfl .assign rfl rfl ?_
      refine ch_n fun hU72_25 => ?_
      refine aw_r ?_
      obtain rfl := Option.some.inj hg
      exact ⟨[_, _, _], _, [], [], .cons (.tmp rfl) (.cons (.tmp rfl) (.cons (.tmp rfl) .nil)), ⟨rfl, rfl⟩, .tup (.cons (.val _) (.cons (.val _) (.cons (.val _) .nil))), trivial, rfl, rfl, rfl, rfl⟩
theorem w_der_all (rec : (List UInt8) → Option (api_Value × Int × Bool)) (hrec : ∀ (b : (List UInt8)) (r : api_Value × Int × Bool), rec b = some r → Fn Try.prog 32 0 [.sl 1 (encL e8 b)] [] (fun d b => d = .tup [.agg [.val (.int .i64 r.1.Tag), .sl 1 (encL e8 r.1.Bytes), .val (.bool r.1.Nested), .sl 4 (encL api_Value.enc r.1.Elements)], .val (.int .i64 r.2.1), .val (.bool r.2.2)] ∧ b = [])) (b : (List UInt8)) (r : (List api_Value) × Bool) (hg : g_der_all rec b = some r) : Fn Try.prog 61 0 [.sl 1 (encL e8 b)] [] (fun d b => d = .tup [.sl 4 (encL api_Value.enc r.1), .val (.bool r.2)] ∧ b = []) := by
 unfold g_der_all at hg
 refine Fn.of Try.func61 rfl rfl rfl fun w0 I ρ0 => ?_
 show awp _ ⟨w0, I, ρ0, 0, 0, 31⟩ _ _ _
 refine sr_ 0 16 mk_U ?_
 refine c0_ rfl rfl .assign rfl rfl ?_
 refine c0_ rfl rfl .assign rfl rfl ?_
 refine ch_n fun hU16_1 => ?_
 refine sr_ 16 24 hU16_1 ?_
 refine c0_ rfl rfl .assign rfl rfl ?_
 refine ch_n fun hU24_2 => ?_
 refine awp_seq ?_
 refine sr_ 24 32 hU24_2 ?_
 refine c0_ rfl rfl .assign rfl rfl ?_
 refine ch_n fun hU32_3 => ?_
 refine awp_block ?_
 obtain ⟨n1, hg⟩ := loop_some hg
 refine awp_loop (ι := (Int × List api_Value) × Nat) (fun (((at_1, out_1), _) : (Int × List api_Value) × Nat) => mk [(0, .sl 1 (encL e8 b)), (4, .row 0), (5, .val (.int .i64 at_1))] [(0, .row 49 4 (encL api_Value.enc out_1))] 1) (fun (((at_1, out_1), nq') : (Int × List api_Value) × Nat) => iter (fun q' => g_der_all.l1 rec b q'.1 q'.2) nq' (at_1, out_1) = some r) (fun q => q.2) ((0, ([] : List api_Value)), n1) (Sub.lists [] rfl rfl ⟨⟨_, rfl, .sl _ _⟩, ⟨_, rfl, .nil rfl⟩, ⟨_, rfl, .val _⟩, trivial⟩ ⟨.inr ⟨rfl, _, _, rfl⟩, trivial⟩) hg ?_
 rintro ⟨⟨at_1, out_1⟩, n1⟩ hg
 obtain ⟨m1, o1, rfl, hg, hn1⟩ := iter_some (show iter (fun q' => g_der_all.l1 rec b q'.1 q'.2) n1 (at_1, out_1) = some r from hg)
 replace hg : g_der_all.l1 rec b at_1 out_1 = some o1 := hg
 show awp _ _ _ _ (mk _ _ _)
 unfold g_der_all.l1 at hg
 refine awp_seq ?_
 refine sr_ 1 33 mk_U ?_
 refine c0_ rfl rfl .move rfl rfl ?_
 refine c0_ rfl rfl .move rfl rfl ?_
 refine c0_ rfl rfl (r_lenS sl22 e8_len) rfl rfl ?_
 refine c0_ rfl rfl r_lss rfl rfl ?_
 refine ch_n fun hU33_4 => ?_
 refine awp_cond rfl (fun h5 => ?_) (fun h5 => ?_)
 ·replace hg := cond_t h5 hg
  refine aw_s ?_
  refine awp_block ?_
  refine sr_ 33 129 hU33_4 ?_
  refine c0_ rfl rfl .move rfl rfl ?_
  refine c0_ rfl rfl .move rfl rfl ?_
  obtain ⟨l, hl, hg⟩ := bind_some hg
  refine c0_ rfl rfl (r_sliS_lo sl22 e8_len hl) rfl rfl ?_
  obtain ⟨y, hy, hg⟩ := bind_some hg
  refine ch_callP (rd := []) (ps := []) (gs := []) false rfl (hrec l _ hy) rfl rfl (.cons .sl .nil) rfl rfl (by intro h; cases h) rfl rfl rfl rfl ?_
  refine c0_ rfl rfl .move rfl rfl ?_
  iterate 3 refine c0_ rfl rfl (.extract rfl) rfl rfl ?_
  refine c0_ rfl rfl (.alloc z49) rfl rfl ?_
  refine ch_s (rd := [97]) rfl rfl (r_storeB (ds' := [.val (.int .i64 y.1.Tag), .sl 1 (encL e8 y.1.Bytes), .val (.bool y.1.Nested), .sl 4 (encL api_Value.enc y.1.Elements)]) ty49 rfl (Nat.le_of_ble_eq_true rfl) rfl rfl) rfl rfl ?_
  refine c0_ rfl rfl .assign rfl rfl ?_
  refine c0_ rfl rfl .assign rfl rfl ?_
  refine ch_n fun hU129_6 => ?_
  refine awp_seq ?_
  refine sr_ 129 145 hU129_6 ?_
  refine c0_ rfl rfl .move rfl rfl ?_
  refine c0_ rfl rfl r_not rfl rfl ?_
  refine ch_n fun hU145_7 => ?_
  refine awp_cond rfl (fun h8 => ?_) (fun h8 => ?_)
  ·replace hg := cond_t h8 hg
   refine sr_ 145 161 hU145_7 ?_
   refine c0_ rfl rfl .assign rfl rfl ?_
   refine c0_ rfl rfl .assign rfl rfl ?_
   refine ch_n fun hU161_9 => ?_
   refine aw_r ?_
   replace hg := leave hg hn1
   obtain rfl := Option.some.inj hg
   exact ⟨[_, _], _, [], [], .cons (.tmp rfl) (.cons (.tmp rfl) .nil), ⟨rfl, rfl⟩, .tup (.cons (.nils _) (.cons (.val _) .nil)), trivial, rfl, rfl, rfl, rfl⟩
  ·replace hg := cond_f h8 hg
   refine aw_s ?_
   refine awp_region (sys _ _ []) 145 217 hU145_7 rfl rfl ?_
   refine c0_ rfl rfl .move rfl rfl ?_
   refine ch_s (rd := [97]) rfl rfl (.loadBA ty49 (Nat.le_of_ble_eq_true rfl)) rfl rfl ?_
   refine c0_ rfl rfl (r_buildFull sl47 z49 (by decide) rfl rfl rfl rfl ck49 (cs := [.int .i64 y.1.Tag, .sl 1 (encL e8 y.1.Bytes), .bool y.1.Nested, .sl 4 (encL api_Value.enc y.1.Elements)]) (.cons .int (.cons .sl (.cons .bool (.cons .sl .nil)))) rfl (l := ([y.1] : List api_Value)) (f := api_Value.enc) (by simp only [encL, List.flatMap_cons, List.flatMap_nil, api_Value.enc_eq]; rfl)) rfl rfl ?_
   obtain ⟨l_2, hl_2, hg⟩ := bind_some hg
   refine ch_s (rd := [0, 161]) rfl rfl (r_append sl47 api_Value.enc_len .row rfl .row rfl hl_2 rfl) rfl rfl ?_
   refine c0_ rfl rfl .move rfl rfl ?_
   refine c0_ rfl rfl .move rfl rfl ?_
   refine c0_ rfl rfl r_add rfl rfl ?_
   refine c0_ rfl rfl .assign rfl rfl ?_
   refine c0_ rfl rfl .assign rfl rfl ?_
   refine ch_n fun hU217_10 => ?_
   obtain rfl := Option.some.inj hg
   exact ⟨((W (at_1 + y.2.1), l_2), m1), Nat.lt_succ_self _, hn1, Sub.lists [(0, 169)] rfl rfl ⟨⟨_, rfl, .sl _ _⟩, ⟨_, rfl, .row rfl⟩, ⟨_, rfl, .val _⟩, trivial⟩ ⟨.inl ⟨169, _, rfl, rfl, ⟨rfl, rfl, rfl⟩⟩, trivial⟩⟩
 ·replace hg := cond_f h5 hg
  refine awp_exit ?_
  repeat first | refine st_ ?_ | refine sn_ ?_
  replace hg := leave hg hn1
  refine sr_ 33 57 hU33_4 ?_
  refine c0_ rfl rfl .move rfl rfl ?_
  refine c0_ rfl rfl .assign rfl rfl ?_
  refine c0_ rfl rfl .assign rfl rfl ?_
  refine ch_n fun hU57_11 => ?_
  refine aw_r ?_
  obtain rfl := Option.some.inj hg
  exact ⟨[_, _], _, [], [], .cons (.tmp rfl) (.cons (.tmp rfl) .nil), ⟨rfl, rfl⟩, .tup (.cons (.frz rfl (look_ne rfl)) (.cons (.val _) .nil)), trivial, rfl, rfl, rfl, rfl⟩
theorem w_der_next.F (rec : (List UInt8) → Option (api_Value × Int × Bool)) (hrec : ∀ (b : (List UInt8)) (r : api_Value × Int × Bool), rec b = some r → Fn Try.prog 32 0 [.sl 1 (encL e8 b)] [] (fun d b => d = .tup [.agg [.val (.int .i64 r.1.Tag), .sl 1 (encL e8 r.1.Bytes), .val (.bool r.1.Nested), .sl 4 (encL api_Value.enc r.1.Elements)], .val (.int .i64 r.2.1), .val (.bool r.2.2)] ∧ b = [])) (b : (List UInt8)) (r : api_Value × Int × Bool) (hg : g_der_next.F rec b = some r) : Fn Try.prog 32 0 [.sl 1 (encL e8 b)] [] (fun d b => d = .tup [.agg [.val (.int .i64 r.1.Tag), .sl 1 (encL e8 r.1.Bytes), .val (.bool r.1.Nested), .sl 4 (encL api_Value.enc r.1.Elements)], .val (.int .i64 r.2.1), .val (.bool r.2.2)] ∧ b = []) := by
 unfold g_der_next.F at hg
 refine Fn.of Try.func32 rfl rfl rfl fun w0 I ρ0 => ?_
 show awp _ ⟨w0, I, ρ0, 0, 0, 83⟩ _ _ _
 refine sr_ 0 24 mk_U ?_
 refine c0_ rfl rfl (.alloc z49) rfl rfl ?_
 refine c0_ rfl rfl .assign rfl rfl ?_
 refine c0_ rfl rfl .assign rfl rfl ?_
 refine ch_n fun hU24_1 => ?_
 refine awp_seq ?_
 refine awp_cut (ι := Bool) (fun (x20_1 : Bool) => mk [(0, .sl 1 (encL e8 b)), (2, .ptr 0 0), (20, .val (.bool x20_1))] [(0, .box [.val (.int .i64 0), .val (.slice none 0 0), .val (.bool false), .val (.slice none 0 0)] 49)] 1) (fun (x20_1 : Bool) => g_der_next.j1 rec b x20_1 = some r) ?_ ?_
 ·refine awp_region (sys _ _ []) 24 112 hU24_1 rfl rfl ?_
  refine c0_ rfl rfl .move rfl rfl ?_
  refine c0_ rfl rfl (r_lenS sl22 e8_len) rfl rfl ?_
  refine c0_ rfl rfl r_eql rfl rfl ?_
  refine c0_ rfl rfl .move rfl rfl ?_
  rcases Bool.eq_false_or_eq_true (decide ((b.length : Int) = 0)) with h2 | h2
  ·replace hg := cond_t h2 hg
   iterate 6 refine ch_skip (gdv_f rfl rfl h2) rfl ?_
   refine c0_ rfl rfl (r_pickT h2) rfl rfl ?_
   refine ch_n fun hU112_3 => ?_
   exact ⟨true, hg, Sub.lists [(0, 0)] rfl rfl ⟨⟨_, rfl, .sl _ _⟩, ⟨_, rfl, .ptr rfl⟩, ⟨_, rfl, .val _⟩, trivial⟩ ⟨.inl ⟨0, _, rfl, rfl, ⟨rfl, .cons (.val _) (.cons (.val _) (.cons (.val _) (.cons (.val _) .nil)))⟩⟩, trivial⟩⟩
  ·replace hg := cond_f h2 hg
   refine c0_ (gdv_t rfl rfl h2) rfl .move rfl rfl ?_
   obtain ⟨e, he, hg⟩ := bind_some hg
   refine c0_ (gdv_t rfl rfl h2) rfl (r_idxS sl22 e8_len (getI_ix he) (getI_at he)) rfl rfl ?_
   refine c0_ (gdv_t rfl rfl h2) rfl (r_loadE1 ty5 (enc_cell e8_len (getI_at he) (o := 0) (c := .int .u8 (e.toNat : Int)) rfl rfl)) rfl rfl ?_
   refine c0_ (gdv_t rfl rfl h2) rfl (r_conv_8i (u := e) und5 und3) rfl rfl ?_
   obtain ⟨y, hy, hg⟩ := bind_some hg
   refine ch_callP (rd := []) (ps := []) (gs := []) false (gdv_t rfl rfl h2) (w_der_tag (e.toNat : Int) _ hy) rfl rfl (.cons .val .nil) rfl rfl (by intro h; cases h) rfl rfl rfl rfl ?_
   refine c0_ (gdv_t rfl rfl h2) rfl r_not rfl rfl ?_
   refine c0_ rfl rfl (r_pickF h2) rfl rfl ?_
   refine ch_n fun hU112_4 => ?_
   exact ⟨!y, hg, Sub.lists [(0, 0)] rfl rfl ⟨⟨_, rfl, .sl _ _⟩, ⟨_, rfl, .ptr rfl⟩, ⟨_, rfl, .val _⟩, trivial⟩ ⟨.inl ⟨0, _, rfl, rfl, ⟨rfl, .cons (.val _) (.cons (.val _) (.cons (.val _) (.cons (.val _) .nil)))⟩⟩, trivial⟩⟩
 ·rintro x20_1 hg
  replace hg : g_der_next.j1 rec b x20_1 = some r := hg
  show awp _ _ _ _ (mk _ _ _)
  unfold g_der_next.j1 at hg
  refine awp_cond rfl (fun h5 => ?_) (fun h5 => ?_)
  ·replace hg := cond_t h5 hg
   refine sr_ 1 33 mk_U ?_
   refine c0_ rfl rfl (.build (r := [.val (.int .i64 0), .val (.slice none 0 0), .val (.bool false), .val (.slice none 0 0)]) und49 pl49 z49 (by kernel_rfl) rfl) rfl rfl ?_
   refine ch_s (rd := [0]) rfl rfl (r_storeB (ds' := [.val (.int .i64 0), .val (.slice none 0 0), .val (.bool false), .val (.slice none 0 0)]) ty49 rfl (Nat.le_of_ble_eq_true rfl) rfl rfl) rfl rfl ?_
   refine c0_ rfl rfl .assign rfl rfl ?_
   refine c0_ rfl rfl .assign rfl rfl ?_
   refine ch_n fun hU33_6 => ?_
   refine aw_r ?_
   obtain rfl := Option.some.inj hg
   exact ⟨[_, _, _], _, [], [], .cons (.cellA rfl rfl ty49 rfl) (.cons (.tmp rfl) (.cons (.tmp rfl) .nil)), ⟨rfl, rfl⟩, .tup (.cons (.agg (.cons (.val _) (.cons (.nils _) (.cons (.val _) (.cons (.nils _) .nil))))) (.cons (.val _) (.cons (.val _) .nil))), trivial, rfl, rfl, rfl, rfl⟩
  ·replace hg := cond_f h5 hg
   refine aw_s ?_
   refine sr_ 1 81 mk_U ?_
   refine c0_ rfl rfl .move rfl rfl ?_
   obtain ⟨l, hl, hg⟩ := bind_some hg
   refine c0_ rfl rfl (r_sliS_lo sl22 e8_len hl) rfl rfl ?_
   obtain ⟨y_2, hy_2, hg⟩ := bind_some hg
   refine ch_callP (rd := []) (ps := []) (gs := []) false rfl (w_der_size l _ hy_2) rfl rfl (.cons .sl .nil) rfl rfl (by intro h; cases h) rfl rfl rfl rfl ?_
   refine c0_ rfl rfl .move rfl rfl ?_
   iterate 3 refine c0_ rfl rfl (.extract rfl) rfl rfl ?_
   iterate 3 refine c0_ rfl rfl .assign rfl rfl ?_
   refine ch_n fun hU81_7 => ?_
   refine sr_ 81 105 hU81_7 ?_
   refine c0_ rfl rfl .move rfl rfl ?_
   refine c0_ rfl rfl r_add rfl rfl ?_
   refine c0_ rfl rfl .assign rfl rfl ?_
   refine ch_n fun hU105_8 => ?_
   refine awp_cut (ι := Bool) (fun (x40_2 : Bool) => mk [(0, .sl 1 (encL e8 b)), (2, .ptr 0 0), (5, .val (.int .i64 y_2.1)), (8, .val (.int .i64 (W (1 + y_2.2.1)))), (40, .val (.bool x40_2))] [(0, .box [.val (.int .i64 0), .val (.slice none 0 0), .val (.bool false), .val (.slice none 0 0)] 49)] 1) (fun (x40_2 : Bool) => g_der_next.j2 rec b y_2 x40_2 = some r) ?_ ?_
   ·refine awp_region (sys _ _ []) 105 185 hU105_8 rfl rfl ?_
    refine c0_ rfl rfl .move rfl rfl ?_
    refine c0_ rfl rfl r_not rfl rfl ?_
    refine c0_ rfl rfl .move rfl rfl ?_
    rcases Bool.eq_false_or_eq_true (!y_2.2.2) with h9 | h9
    ·replace hg := cond_t h9 hg
     iterate 6 refine ch_skip (gdv_f rfl rfl h9) rfl ?_
     refine c0_ rfl rfl (r_pickT h9) rfl rfl ?_
     refine ch_n fun hU185_10 => ?_
     exact ⟨true, hg, Sub.lists [(0, 0)] rfl rfl ⟨⟨_, rfl, .sl _ _⟩, ⟨_, rfl, .ptr rfl⟩, ⟨_, rfl, .val _⟩, ⟨_, rfl, .val _⟩, ⟨_, rfl, .val _⟩, trivial⟩ ⟨.inl ⟨0, _, rfl, rfl, ⟨rfl, .cons (.val _) (.cons (.val _) (.cons (.val _) (.cons (.val _) .nil)))⟩⟩, trivial⟩⟩
    ·replace hg := cond_f h9 hg
     refine c0_ (gdv_t rfl rfl h9) rfl .move rfl rfl ?_
     refine c0_ (gdv_t rfl rfl h9) rfl .move rfl rfl ?_
     refine c0_ (gdv_t rfl rfl h9) rfl (r_lenS sl22 e8_len) rfl rfl ?_
     refine c0_ (gdv_t rfl rfl h9) rfl .move rfl rfl ?_
     refine c0_ (gdv_t rfl rfl h9) rfl r_sub rfl rfl ?_
     refine c0_ (gdv_t rfl rfl h9) rfl r_gtr rfl rfl ?_
     refine c0_ rfl rfl (r_pickF h9) rfl rfl ?_
     refine ch_n fun hU185_11 => ?_
     exact ⟨decide ((W ((b.length : Int) - (W (1 + y_2.2.1)))) < y_2.1), hg, Sub.lists [(0, 0)] rfl rfl ⟨⟨_, rfl, .sl _ _⟩, ⟨_, rfl, .ptr rfl⟩, ⟨_, rfl, .val _⟩, ⟨_, rfl, .val _⟩, ⟨_, rfl, .val _⟩, trivial⟩ ⟨.inl ⟨0, _, rfl, rfl, ⟨rfl, .cons (.val _) (.cons (.val _) (.cons (.val _) (.cons (.val _) .nil)))⟩⟩, trivial⟩⟩
   ·rintro x40_2 hg
    replace hg : g_der_next.j2 rec b y_2 x40_2 = some r := hg
    show awp _ _ _ _ (mk _ _ _)
    unfold g_der_next.j2 at hg
    refine awp_cond rfl (fun h12 => ?_) (fun h12 => ?_)
    ·replace hg := cond_t h12 hg
     refine sr_ 1 33 mk_U ?_
     refine c0_ rfl rfl (.build (r := [.val (.int .i64 0), .val (.slice none 0 0), .val (.bool false), .val (.slice none 0 0)]) und49 pl49 z49 (by kernel_rfl) rfl) rfl rfl ?_
     refine ch_s (rd := [0]) rfl rfl (r_storeB (ds' := [.val (.int .i64 0), .val (.slice none 0 0), .val (.bool false), .val (.slice none 0 0)]) ty49 rfl (Nat.le_of_ble_eq_true rfl) rfl rfl) rfl rfl ?_
     refine c0_ rfl rfl .assign rfl rfl ?_
     refine c0_ rfl rfl .assign rfl rfl ?_
     refine ch_n fun hU33_13 => ?_
     refine aw_r ?_
     obtain rfl := Option.some.inj hg
     exact ⟨[_, _, _], _, [], [], .cons (.cellA rfl rfl ty49 rfl) (.cons (.tmp rfl) (.cons (.tmp rfl) .nil)), ⟨rfl, rfl⟩, .tup (.cons (.agg (.cons (.val _) (.cons (.nils _) (.cons (.val _) (.cons (.nils _) .nil))))) (.cons (.val _) (.cons (.val _) .nil))), trivial, rfl, rfl, rfl, rfl⟩
    ·replace hg := cond_f h12 hg
     refine awp_seq ?_
     refine awp_draw (sys _ _ []) (by kernel_rfl) [0, 1, 3, 7, 0, 16, 48, 112, 240, 496, 1023, 0, 4095] 1 105 mk_U rfl rfl (by kernel_rfl) ?_
     refine c0_ rfl rfl .move rfl rfl ?_
     obtain ⟨e_2, he_2, hg⟩ := bind_some hg
     refine c0_ rfl rfl (r_idxS sl22 e8_len (getI_ix he_2) (getI_at he_2)) rfl rfl ?_
     refine c0_ rfl rfl (r_loadE1 ty5 (enc_cell e8_len (getI_at he_2) (o := 0) (c := .int .u8 (e_2.toNat : Int)) rfl rfl)) rfl rfl ?_
     refine c0_ rfl rfl (r_conv_8i (u := e_2) und5 und3) rfl rfl ?_
     refine c0_ rfl rfl .move rfl rfl ?_
     refine c0_ rfl rfl (r_idxS sl22 e8_len (getI_ix he_2) (getI_at he_2)) rfl rfl ?_
     refine c0_ rfl rfl (r_loadE1 ty5 (enc_cell e8_len (getI_at he_2) (o := 0) (c := .int .u8 (e_2.toNat : Int)) rfl rfl)) rfl rfl ?_
     refine c0_ rfl rfl (r_conv_8i (u := e_2) und5 und3) rfl rfl ?_
     refine c0_ rfl rfl r_andK rfl rfl ?_
     refine c0_ rfl rfl r_neq rfl rfl ?_
     refine c0_ rfl rfl (.build (r := [.val (.int .i64 (e_2.toNat : Int)), .val (.slice none 0 0), .val (.bool (!decide ((andK .i64 (e_2.toNat : Int) 32) = 0))), .val (.slice none 0 0)]) und49 pl49 z49 (by kernel_rfl) rfl) rfl rfl ?_
     refine c0_ rfl rfl (.alloc z49) rfl rfl ?_
     refine ch_s (rd := [89]) rfl rfl (r_storeB (ds' := [.val (.int .i64 (e_2.toNat : Int)), .val (.slice none 0 0), .val (.bool (!decide ((andK .i64 (e_2.toNat : Int) 32) = 0))), .val (.slice none 0 0)]) ty49 rfl (Nat.le_of_ble_eq_true rfl) rfl rfl) rfl rfl ?_
     refine ch_n fun hU105_14 => ?_
     refine sr_ 105 121 hU105_14 ?_
     refine c0_ rfl rfl (.fieldP fd49_2 ty4 (by decide)) rfl rfl ?_
     refine ch_s (rd := [89]) rfl rfl (.loadB1 ty4 rfl) rfl rfl ?_
     refine ch_n fun hU121_15 => ?_
     refine awp_cond rfl (fun h16 => ?_) (fun h16 => ?_)
     ·replace hg := cond_t h16 hg
      refine sr_ 121 225 hU121_15 ?_
      iterate 4 refine c0_ rfl rfl .move rfl rfl ?_
      refine c0_ rfl rfl r_add rfl rfl ?_
      obtain ⟨l_2, hl_2, hg⟩ := bind_some hg
      refine c0_ rfl rfl (r_sliS sl22 e8_len hl_2) rfl rfl ?_
      obtain ⟨y_3, hy_3, hg⟩ := bind_some hg
      refine ch_callP (rd := []) (ps := []) (gs := []) false rfl (w_der_all rec hrec l_2 _ hy_3) rfl rfl (.cons .sl .nil) rfl rfl (by intro h; cases h) rfl rfl rfl rfl ?_
      refine c0_ rfl rfl .move rfl rfl ?_
      refine c0_ rfl rfl (.extract rfl) rfl rfl ?_
      refine c0_ rfl rfl (.extract rfl) rfl rfl ?_
      refine c0_ rfl rfl (.fieldP fd49_3 ty47 (by decide)) rfl rfl ?_
      refine ch_s (rd := [89]) rfl rfl (r_storeB (ds' := [.val (.int .i64 (e_2.toNat : Int)), .val (.slice none 0 0), .val (.bool (!decide ((andK .i64 (e_2.toNat : Int) 32) = 0))), .sl 4 (encL api_Value.enc y_3.1)]) ty47 rfl (Nat.le_of_ble_eq_true rfl) rfl rfl) rfl rfl ?_
      refine c0_ rfl rfl .assign rfl rfl ?_
      refine ch_n fun hU225_17 => ?_
      refine sr_ 225 289 hU225_17 ?_
      refine ch_s (rd := [89]) rfl rfl (.loadBA ty49 (Nat.le_of_ble_eq_true rfl)) rfl rfl ?_
      refine c0_ rfl rfl .move rfl rfl ?_
      refine c0_ rfl rfl .move rfl rfl ?_
      refine c0_ rfl rfl r_add rfl rfl ?_
      refine c0_ rfl rfl .move rfl rfl ?_
      refine ch_s (rd := [0]) rfl rfl (r_storeB (ds' := [.val (.int .i64 (e_2.toNat : Int)), .val (.slice none 0 0), .val (.bool (!decide ((andK .i64 (e_2.toNat : Int) 32) = 0))), .sl 4 (encL api_Value.enc y_3.1)]) ty49 rfl (Nat.le_of_ble_eq_true rfl) rfl rfl) rfl rfl ?_
      refine c0_ rfl rfl .assign rfl rfl ?_
      refine c0_ rfl rfl .assign rfl rfl ?_
      refine ch_n fun hU289_18 => ?_
      refine aw_r ?_
      obtain rfl := Option.some.inj hg
      exact ⟨[_, _, _], _, [], [], .cons (.cellA rfl rfl ty49 rfl) (.cons (.tmp rfl) (.cons (.tmp rfl) .nil)), ⟨rfl, rfl⟩, .tup (.cons (.agg (.cons (.val _) (.cons (.nils _) (.cons (.val _) (.cons (.sl _ _) .nil))))) (.cons (.val _) (.cons (.val _) .nil))), trivial, rfl, rfl, rfl, rfl⟩
     ·replace hg := cond_f h16 hg
      refine sr_ 121 193 hU121_15 ?_
      iterate 4 refine c0_ rfl rfl .move rfl rfl ?_
      refine c0_ rfl rfl r_add rfl rfl ?_
      obtain ⟨l_3, hl_3, hg⟩ := bind_some hg
      refine c0_ rfl rfl (r_sliS sl22 e8_len hl_3) rfl rfl ?_
      obtain ⟨y_4, hy_4, hg⟩ := bind_some hg
      refine ch_callP (rd := []) (ps := []) (gs := []) false rfl (w_bytes_Clone l_3 _ hy_4) rfl rfl (.cons .sl .nil) rfl rfl (by intro h; cases h) rfl rfl rfl rfl ?_
      refine c0_ rfl rfl (.fieldP fd49_1 ty22 (by decide)) rfl rfl ?_
      refine ch_s (rd := [89]) rfl rfl (r_storeB (ds' := [.val (.int .i64 (e_2.toNat : Int)), .sl 1 (encL e8 y_4), .val (.bool (!decide ((andK .i64 (e_2.toNat : Int) 32) = 0))), .val (.slice none 0 0)]) ty22 rfl (Nat.le_of_ble_eq_true rfl) rfl rfl) rfl rfl ?_
      refine ch_n fun hU193_19 => ?_
      refine sr_ 193 249 hU193_19 ?_
      refine ch_s (rd := [89]) rfl rfl (.loadBA ty49 (Nat.le_of_ble_eq_true rfl)) rfl rfl ?_
      refine c0_ rfl rfl .move rfl rfl ?_
      refine c0_ rfl rfl .move rfl rfl ?_
      refine c0_ rfl rfl r_add rfl rfl ?_
      refine ch_s (rd := [0]) rfl rfl (r_storeB (ds' := [.val (.int .i64 (e_2.toNat : Int)), .sl 1 (encL e8 y_4), .val (.bool (!decide ((andK .i64 (e_2.toNat : Int) 32) = 0))), .val (.slice none 0 0)]) ty49 rfl (Nat.le_of_ble_eq_true rfl) rfl rfl) rfl rfl ?_
      refine c0_ rfl rfl .assign rfl rfl ?_
      refine c0_ rfl rfl .assign rfl rfl ?_
      refine ch_n fun hU249_20 => ?_
      refine aw_r ?_
      obtain rfl := Option.some.inj hg
      exact ⟨[_, _, _], _, [], [], .cons (.cellA rfl rfl ty49 rfl) (.cons (.tmp rfl) (.cons (.tmp rfl) .nil)), ⟨rfl, rfl⟩, .tup (.cons (.agg (.cons (.val _) (.cons (.sl _ _) (.cons (.val _) (.cons (.nils _) .nil))))) (.cons (.val _) (.cons (.val _) .nil))), trivial, rfl, rfl, rfl, rfl⟩
theorem w_der_next (b : (List UInt8)) (r : api_Value × Int × Bool) (hg : g_der_next b = some r) : Fn Try.prog 32 0 [.sl 1 (encL e8 b)] [] (fun d b => d = .tup [.agg [.val (.int .i64 r.1.Tag), .sl 1 (encL e8 r.1.Bytes), .val (.bool r.1.Nested), .sl 4 (encL api_Value.enc r.1.Elements)], .val (.int .i64 r.2.1), .val (.bool r.2.2)] ∧ b = []) :=
 fixT_ind (motive := fun (x : (List UInt8)) (r : api_Value × Int × Bool) => Fn Try.prog 32 0 [.sl 1 (encL e8 x)] [] (fun d x => d = .tup [.agg [.val (.int .i64 r.1.Tag), .sl 1 (encL e8 r.1.Bytes), .val (.bool r.1.Nested), .sl 4 (encL api_Value.enc r.1.Elements)], .val (.int .i64 r.2.1), .val (.bool r.2.2)] ∧ x = [])) (fun rec hrec x r h => w_der_next.F _ (fun b r h => hrec b r h) x r h) b r hg
theorem w_der_Decode (b : (List UInt8)) (r : api_Value × Int) (hg : g_der_Decode b = some r) : Fn Try.prog 19 0 [.sl 1 (encL e8 b)] [] (fun d b => d = .tup [.agg [.val (.int .i64 r.1.Tag), .sl 1 (encL e8 r.1.Bytes), .val (.bool r.1.Nested), .sl 4 (encL api_Value.enc r.1.Elements)], .val (.int .i64 r.2)] ∧ b = []) := by
 unfold g_der_Decode at hg
 refine Fn.of Try.func19 rfl rfl rfl fun w0 I ρ0 => ?_
 show awp _ ⟨w0, I, ρ0, 0, 0, 31⟩ _ _ _
 refine sr_ 0 16 mk_U ?_
 refine c0_ rfl rfl (.alloc z49) rfl rfl ?_
 refine c0_ rfl rfl .assign rfl rfl ?_
 refine ch_n fun hU16_1 => ?_
 refine awp_seq ?_
 refine sr_ 16 40 hU16_1 ?_
 refine c0_ rfl rfl .move rfl rfl ?_
 refine c0_ rfl rfl (r_lenS sl22 e8_len) rfl rfl ?_
 refine c0_ rfl rfl r_gtr rfl rfl ?_
 refine ch_n fun hU40_2 => ?_
 refine awp_cond rfl (fun h3 => ?_) (fun h3 => ?_)
 ·replace hg := cond_t h3 hg
  refine sr_ 40 64 hU40_2 ?_
  refine c0_ rfl rfl (.build (r := [.val (.int .i64 0), .val (.slice none 0 0), .val (.bool false), .val (.slice none 0 0)]) und49 pl49 z49 (by kernel_rfl) rfl) rfl rfl ?_
  refine ch_s (rd := [0]) rfl rfl (r_storeB (ds' := [.val (.int .i64 0), .val (.slice none 0 0), .val (.bool false), .val (.slice none 0 0)]) ty49 rfl (Nat.le_of_ble_eq_true rfl) rfl rfl) rfl rfl ?_
  refine c0_ rfl rfl .assign rfl rfl ?_
  refine ch_n fun hU64_4 => ?_
  refine aw_r ?_
  obtain rfl := Option.some.inj hg
  exact ⟨[_, _], _, [], [], .cons (.cellA rfl rfl ty49 rfl) (.cons (.tmp rfl) .nil), ⟨rfl, rfl⟩, .tup (.cons (.agg (.cons (.val _) (.cons (.nils _) (.cons (.val _) (.cons (.nils _) .nil))))) (.cons (.val _) .nil)), trivial, rfl, rfl, rfl, rfl⟩
 ·replace hg := cond_f h3 hg
  refine aw_s ?_
  refine sr_ 40 120 hU40_2 ?_
  refine c0_ rfl rfl .move rfl rfl ?_
  obtain ⟨y, hy, hg⟩ := bind_some hg
  refine ch_callP (rd := []) (ps := []) (gs := []) false rfl (w_der_next b _ hy) rfl rfl (.cons .sl .nil) rfl rfl (by intro h; cases h) rfl rfl rfl rfl ?_
  refine c0_ rfl rfl .move rfl rfl ?_
  iterate 3 refine c0_ rfl rfl (.extract rfl) rfl rfl ?_
  refine c0_ rfl rfl (.alloc z49) rfl rfl ?_
  refine ch_s (rd := [88]) rfl rfl (r_storeB (ds' := [.val (.int .i64 y.1.Tag), .sl 1 (encL e8 y.1.Bytes), .val (.bool y.1.Nested), .sl 4 (encL api_Value.enc y.1.Elements)]) ty49 rfl (Nat.le_of_ble_eq_true rfl) rfl rfl) rfl rfl ?_
  refine c0_ rfl rfl .assign rfl rfl ?_
  refine c0_ rfl rfl .assign rfl rfl ?_
  refine ch_n fun hU120_5 => ?_
  refine awp_seq ?_
  refine awp_cut (ι := Bool) (fun (x24_1 : Bool) => mk [(2, .ptr 0 0), (4, .ptr 1 0), (24, .val (.bool x24_1))] [(0, .box [.val (.int .i64 0), .val (.slice none 0 0), .val (.bool false), .val (.slice none 0 0)] 49), (1, .box [.val (.int .i64 y.1.Tag), .sl 1 (encL e8 y.1.Bytes), .val (.bool y.1.Nested), .sl 4 (encL api_Value.enc y.1.Elements)] 49)] 2) (fun (x24_1 : Bool) => g_der_Decode.j1 y x24_1 = some r) ?_ ?_
  ·refine awp_region (sys _ _ []) 120 184 hU120_5 rfl rfl ?_
   refine c0_ rfl rfl .move rfl rfl ?_
   refine c0_ rfl rfl r_not rfl rfl ?_
   refine c0_ rfl rfl .move rfl rfl ?_
   rcases Bool.eq_false_or_eq_true (!y.2.2) with h6 | h6
   ·replace hg := cond_t h6 hg
    iterate 4 refine ch_skip (gdv_f rfl rfl h6) rfl ?_
    refine c0_ rfl rfl (r_pickT h6) rfl rfl ?_
    refine ch_n fun hU184_7 => ?_
    exact ⟨true, hg, Sub.lists [(0, 0), (1, 88)] rfl rfl ⟨⟨_, rfl, .ptr rfl⟩, ⟨_, rfl, .ptr rfl⟩, ⟨_, rfl, .val _⟩, trivial⟩ ⟨.inl ⟨0, _, rfl, rfl, ⟨rfl, .cons (.val _) (.cons (.val _) (.cons (.val _) (.cons (.val _) .nil)))⟩⟩, .inl ⟨88, _, rfl, rfl, ⟨rfl, .cons (.val _) (.cons (.sl _ _) (.cons (.val _) (.cons (.sl _ _) .nil)))⟩⟩, trivial⟩⟩
   ·replace hg := cond_f h6 hg
    refine c0_ (gdv_t rfl rfl h6) rfl .move rfl rfl ?_
    refine c0_ (gdv_t rfl rfl h6) rfl .move rfl rfl ?_
    refine c0_ (gdv_t rfl rfl h6) rfl (r_lenS sl22 e8_len) rfl rfl ?_
    refine c0_ (gdv_t rfl rfl h6) rfl r_neq rfl rfl ?_
    refine c0_ rfl rfl (r_pickF h6) rfl rfl ?_
    refine ch_n fun hU184_8 => ?_
    exact ⟨!decide (y.2.1 = (b.length : Int)), hg, Sub.lists [(0, 0), (1, 88)] rfl rfl ⟨⟨_, rfl, .ptr rfl⟩, ⟨_, rfl, .ptr rfl⟩, ⟨_, rfl, .val _⟩, trivial⟩ ⟨.inl ⟨0, _, rfl, rfl, ⟨rfl, .cons (.val _) (.cons (.val _) (.cons (.val _) (.cons (.val _) .nil)))⟩⟩, .inl ⟨88, _, rfl, rfl, ⟨rfl, .cons (.val _) (.cons (.sl _ _) (.cons (.val _) (.cons (.sl _ _) .nil)))⟩⟩, trivial⟩⟩
  ·rintro x24_1 hg
   replace hg : g_der_Decode.j1 y x24_1 = some r := hg
   show awp _ _ _ _ (mk _ _ _)
   unfold g_der_Decode.j1 at hg
   refine awp_cond rfl (fun h9 => ?_) (fun h9 => ?_)
   ·replace hg := cond_t h9 hg
    refine sr_ 2 26 mk_U ?_
    refine c0_ rfl rfl (.build (r := [.val (.int .i64 0), .val (.slice none 0 0), .val (.bool false), .val (.slice none 0 0)]) und49 pl49 z49 (by kernel_rfl) rfl) rfl rfl ?_
    refine ch_s (rd := [0]) rfl rfl (r_storeB (ds' := [.val (.int .i64 0), .val (.slice none 0 0), .val (.bool false), .val (.slice none 0 0)]) ty49 rfl (Nat.le_of_ble_eq_true rfl) rfl rfl) rfl rfl ?_
    refine c0_ rfl rfl .assign rfl rfl ?_
    refine ch_n fun hU26_10 => ?_
    refine aw_r ?_
    obtain rfl := Option.some.inj hg
    exact ⟨[_, _], _, [], [], .cons (.cellA rfl rfl ty49 rfl) (.cons (.tmp rfl) .nil), ⟨rfl, rfl⟩, .tup (.cons (.agg (.cons (.val _) (.cons (.nils _) (.cons (.val _) (.cons (.nils _) .nil))))) (.cons (.val _) .nil)), trivial, rfl, rfl, rfl, rfl⟩
   ·replace hg := cond_f h9 hg
    refine aw_s ?_
    refine awp_seq ?_
    refine sr_ 2 26 mk_U ?_
    refine ch_s (rd := [1]) rfl rfl (.loadBA ty49 (Nat.le_of_ble_eq_true rfl)) rfl rfl ?_
    obtain ⟨y_2, hy_2, hg⟩ := bind_some hg
    refine ch_callP (rd := []) (ps := []) (gs := []) false rfl (w_der_depth y.1 _ hy_2) rfl rfl (.cons (.agg (.cons .val (.cons .sl (.cons .val (.cons .sl .nil))))) .nil) rfl rfl (by intro h; cases h) rfl rfl rfl rfl ?_
    refine c0_ rfl rfl r_gtr rfl rfl ?_
    refine ch_n fun hU26_11 => ?_
    refine awp_cond rfl (fun h12 => ?_) (fun h12 => ?_)
    ·replace hg := cond_t h12 hg
     refine sr_ 26 50 hU26_11 ?_
     refine c0_ rfl rfl (.build (r := [.val (.int .i64 0), .val (.slice none 0 0), .val (.bool false), .val (.slice none 0 0)]) und49 pl49 z49 (by kernel_rfl) rfl) rfl rfl ?_
     refine ch_s (rd := [0]) rfl rfl (r_storeB (ds' := [.val (.int .i64 0), .val (.slice none 0 0), .val (.bool false), .val (.slice none 0 0)]) ty49 rfl (Nat.le_of_ble_eq_true rfl) rfl rfl) rfl rfl ?_
     refine c0_ rfl rfl .assign rfl rfl ?_
     refine ch_n fun hU50_13 => ?_
     refine aw_r ?_
     obtain rfl := Option.some.inj hg
     exact ⟨[_, _], _, [], [], .cons (.cellA rfl rfl ty49 rfl) (.cons (.tmp rfl) .nil), ⟨rfl, rfl⟩, .tup (.cons (.agg (.cons (.val _) (.cons (.nils _) (.cons (.val _) (.cons (.nils _) .nil))))) (.cons (.val _) .nil)), trivial, rfl, rfl, rfl, rfl⟩
    ·replace hg := cond_f h12 hg
     refine aw_s ?_
     refine sr_ 26 50 hU26_11 ?_
     refine ch_s (rd := [1]) rfl rfl (.loadBA ty49 (Nat.le_of_ble_eq_true rfl)) rfl rfl ?_
     refine ch_s (rd := [0]) rfl rfl (r_storeB (ds' := [.val (.int .i64 y.1.Tag), .sl 1 (encL e8 y.1.Bytes), .val (.bool y.1.Nested), .sl 4 (encL api_Value.enc y.1.Elements)]) ty49 rfl (Nat.le_of_ble_eq_true rfl) rfl rfl) rfl rfl ?_
     refine c0_ rfl rfl .assign rfl rfl ?_
     refine ch_n fun hU50_14 => ?_
     refine aw_r ?_
     obtain rfl := Option.some.inj hg
     exact ⟨[_, _], _, [], [], .cons (.cellA rfl rfl ty49 rfl) (.cons (.tmp rfl) .nil), ⟨rfl, rfl⟩, .tup (.cons (.agg (.cons (.val _) (.cons (.sl _ _) (.cons (.val _) (.cons (.sl _ _) .nil))))) (.cons (.val _) .nil)), trivial, rfl, rfl, rfl, rfl⟩
theorem w_der_AsList (v : api_Value) (r : (List api_Value) × Int) (hg : g_der_AsList v = some r) : Fn Try.prog 63 0 [.agg [.val (.int .i64 v.Tag), .sl 1 (encL e8 v.Bytes), .val (.bool v.Nested), .sl 4 (encL api_Value.enc v.Elements)]] [] (fun d b => d = .tup [.sl 4 (encL api_Value.enc r.1), .val (.int .i64 r.2)] ∧ b = []) := by
 unfold g_der_AsList at hg
 refine Fn.of Try.func63 rfl rfl rfl fun w0 I ρ0 => ?_
 show awp _ ⟨w0, I, ρ0, 0, 0, 15⟩ _ _ _
 refine sr_ 0 24 mk_U ?_
 refine c0_ rfl rfl (.box rfl) rfl rfl ?_
 refine c0_ rfl rfl .assign rfl rfl ?_
 refine c0_ rfl rfl .assign rfl rfl ?_
 refine ch_n fun hU24_1 => ?_
 refine awp_seq ?_
 refine awp_cut (ι := Bool) (fun (x11_1 : Bool) => mk [(1, .ptr 0 0), (11, .val (.bool x11_1))] [(0, .box [.val (.int .i64 v.Tag), .sl 1 (encL e8 v.Bytes), .val (.bool v.Nested), .sl 4 (encL api_Value.enc v.Elements)] 49)] 1) (fun (x11_1 : Bool) => g_der_AsList.j1 v x11_1 = some r) ?_ ?_
 ·refine awp_region (sys _ _ []) 24 88 hU24_1 rfl rfl ?_
  refine c0_ rfl rfl (.fieldP fd49_0 ty3 (by decide)) rfl rfl ?_
  refine ch_s (rd := [0]) rfl rfl (.loadB1 ty3 rfl) rfl rfl ?_
  refine c0_ rfl rfl r_neq rfl rfl ?_
  refine c0_ rfl rfl .move rfl rfl ?_
  rcases Bool.eq_false_or_eq_true (!decide (v.Tag = 48)) with h2 | h2
  ·replace hg := cond_t h2 hg
   iterate 3 refine ch_skip (gdv_f rfl rfl h2) rfl ?_
   refine c0_ rfl rfl (r_pickT h2) rfl rfl ?_
   refine ch_n fun hU88_3 => ?_
   exact ⟨true, hg, Sub.lists [(0, 0)] rfl rfl ⟨⟨_, rfl, .ptr rfl⟩, ⟨_, rfl, .val _⟩, trivial⟩ ⟨.inl ⟨0, _, rfl, rfl, ⟨rfl, .cons (.val _) (.cons (.sl _ _) (.cons (.val _) (.cons (.sl _ _) .nil)))⟩⟩, trivial⟩⟩
  ·replace hg := cond_f h2 hg
   refine ch_s (rd := [0]) (gdv_t rfl rfl h2) rfl (.loadBA ty49 (Nat.le_of_ble_eq_true rfl)) rfl rfl ?_
   obtain ⟨y, hy, hg⟩ := bind_some hg
   refine ch_callP (rd := []) (ps := []) (gs := []) false (gdv_t rfl rfl h2) (w_der_formed v _ hy) rfl rfl (.cons (.agg (.cons .val (.cons .sl (.cons .val (.cons .sl .nil))))) .nil) rfl rfl (by intro h; cases h) rfl rfl rfl rfl ?_
   refine c0_ (gdv_t rfl rfl h2) rfl r_not rfl rfl ?_
   refine c0_ rfl rfl (r_pickF h2) rfl rfl ?_
   refine ch_n fun hU88_4 => ?_
   exact ⟨!y, hg, Sub.lists [(0, 0)] rfl rfl ⟨⟨_, rfl, .ptr rfl⟩, ⟨_, rfl, .val _⟩, trivial⟩ ⟨.inl ⟨0, _, rfl, rfl, ⟨rfl, .cons (.val _) (.cons (.sl _ _) (.cons (.val _) (.cons (.sl _ _) .nil)))⟩⟩, trivial⟩⟩
 ·rintro x11_1 hg
  replace hg : g_der_AsList.j1 v x11_1 = some r := hg
  show awp _ _ _ _ (mk _ _ _)
  unfold g_der_AsList.j1 at hg
  refine awp_cond rfl (fun h5 => ?_) (fun h5 => ?_)
  ·replace hg := cond_t h5 hg
   refine sr_ 1 17 mk_U ?_
   refine c0_ rfl rfl .assign rfl rfl ?_
   refine c0_ rfl rfl .assign rfl rfl ?_
   refine ch_n fun hU17_6 => ?_
   refine aw_r ?_
   obtain rfl := Option.some.inj hg
   exact ⟨[_, _], _, [], [], .cons (.tmp rfl) (.cons (.tmp rfl) .nil), ⟨rfl, rfl⟩, .tup (.cons (.nils _) (.cons (.val _) .nil)), trivial, rfl, rfl, rfl, rfl⟩
  ·replace hg := cond_f h5 hg
   refine aw_s ?_
   refine sr_ 1 41 mk_U ?_
   refine c0_ rfl rfl (.fieldP fd49_3 ty47 (by decide)) rfl rfl ?_
   refine ch_s (rd := [0]) rfl rfl (.loadB1 ty47 rfl) rfl rfl ?_
   obtain ⟨y_2, hy_2, hg⟩ := bind_some hg
   refine ch_callP (rd := []) (ps := []) (gs := []) false rfl (w_der_copied v.Elements _ hy_2) rfl rfl (.cons .sl .nil) rfl rfl (by intro h; cases h) rfl rfl rfl rfl ?_
   refine c0_ rfl rfl .assign rfl rfl ?_
   refine c0_ rfl rfl .assign rfl rfl ?_
   refine ch_n fun hU41_7 => ?_
   refine aw_r ?_
   obtain rfl := Option.some.inj hg
   exact ⟨[_, _], _, [], [], .cons (.tmp rfl) (.cons (.tmp rfl) .nil), ⟨rfl, rfl⟩, .tup (.cons (.sl _ _) (.cons (.val _) .nil)), trivial, rfl, rfl, rfl, rfl⟩
theorem w_certificate_Read (v : api_Value) (count : Int) (r : certificate_Reader) (hg : g_certificate_Read v count = some r) : Fn Try.prog 33 0 [.agg [.val (.int .i64 v.Tag), .sl 1 (encL e8 v.Bytes), .val (.bool v.Nested), .sl 4 (encL api_Value.enc v.Elements)], .val (.int .i64 count)] [] (fun d b => d = .ptr 0 0 ∧ b = [.box [.sl 4 (encL api_Value.enc r.l), .val (.bool r.Failed)] 75]) := by
 unfold g_certificate_Read at hg
 refine Fn.of Try.func33 rfl rfl rfl fun w0 I ρ0 => ?_
 show awp _ ⟨w0, I, ρ0, 0, 0, 23⟩ _ _ _
 refine sr_ 0 16 mk_U ?_
 refine c0_ rfl rfl (.box rfl) rfl rfl ?_
 refine c0_ rfl rfl .assign rfl rfl ?_
 refine ch_n fun hU16_1 => ?_
 refine sr_ 16 72 hU16_1 ?_
 refine ch_s (rd := [0]) rfl rfl (.loadBA ty49 (Nat.le_of_ble_eq_true rfl)) rfl rfl ?_
 obtain ⟨y, hy, hg⟩ := bind_some hg
 refine ch_callP (rd := []) (ps := []) (gs := []) false rfl (w_der_AsList v _ hy) rfl rfl (.cons (.agg (.cons .val (.cons .sl (.cons .val (.cons .sl .nil))))) .nil) rfl rfl (by intro h; cases h) rfl rfl rfl rfl ?_
 refine c0_ rfl rfl .move rfl rfl ?_
 refine c0_ rfl rfl (.extract rfl) rfl rfl ?_
 refine c0_ rfl rfl (.extract rfl) rfl rfl ?_
 refine c0_ rfl rfl .assign rfl rfl ?_
 refine c0_ rfl rfl .assign rfl rfl ?_
 refine ch_n fun hU72_2 => ?_
 refine sr_ 72 168 hU72_2 ?_
 refine c0_ rfl rfl .move rfl rfl ?_
 refine c0_ rfl rfl .move rfl rfl ?_
 refine c0_ rfl rfl r_neq rfl rfl ?_
 refine c0_ rfl rfl .move rfl rfl ?_
 rcases Bool.eq_false_or_eq_true (!decide (y.2 = 0)) with h3 | h3
 ·replace hg := cond_t h3 hg
  iterate 4 refine ch_skip (gdv_f rfl rfl h3) rfl ?_
  refine c0_ rfl rfl (r_pickT h3) rfl rfl ?_
  refine c0_ rfl rfl (.build (r := [.sl 4 (encL api_Value.enc y.1), .val (.bool true)]) und75 pl75 z75 (by kernel_rfl) rfl) rfl rfl ?_
  refine c0_ rfl rfl (.box rfl) rfl rfl ?_
  refine c0_ rfl rfl .assign rfl rfl ?_
  refine ch_n fun hU168_4 => ?_
  refine aw_r ?_
  obtain rfl := Option.some.inj hg
  exact ⟨[_], _, [_], [(0, 152)], .cons (.tmp rfl) .nil, ⟨rfl, rfl⟩, .ptr rfl, ⟨.inl ⟨152, _, rfl, rfl, ⟨rfl, .cons (.sl _ _) (.cons (.val _) .nil)⟩⟩, trivial⟩, rfl, rfl, rfl, rfl⟩
 ·replace hg := cond_f h3 hg
  refine c0_ (gdv_t rfl rfl h3) rfl .move rfl rfl ?_
  refine c0_ (gdv_t rfl rfl h3) rfl (r_lenS sl47 api_Value.enc_len) rfl rfl ?_
  refine c0_ (gdv_t rfl rfl h3) rfl .move rfl rfl ?_
  refine c0_ (gdv_t rfl rfl h3) rfl r_neq rfl rfl ?_
  refine c0_ rfl rfl (r_pickF h3) rfl rfl ?_
  refine c0_ rfl rfl (.build (r := [.sl 4 (encL api_Value.enc y.1), .val (.bool (!decide ((y.1.length : Int) = count)))]) und75 pl75 z75 (by kernel_rfl) rfl) rfl rfl ?_
  refine c0_ rfl rfl (.box rfl) rfl rfl ?_
  refine c0_ rfl rfl .assign rfl rfl ?_
  refine ch_n fun hU168_5 => ?_
  refine aw_r ?_
  obtain rfl := Option.some.inj hg
  exact ⟨[_], _, [_], [(0, 152)], .cons (.tmp rfl) .nil, ⟨rfl, rfl⟩, .ptr rfl, ⟨.inl ⟨152, _, rfl, rfl, ⟨rfl, .cons (.sl _ _) (.cons (.val _) .nil)⟩⟩, trivial⟩, rfl, rfl, rfl, rfl⟩
theorem w_certificate_Reader_Next (r' : certificate_Reader) (r : api_Value × certificate_Reader) (hg : g_certificate_Reader_Next r' = some r) : Fn Try.prog 34 1 [.ptr 0 0] [.box [.sl 4 (encL api_Value.enc r'.l), .val (.bool r'.Failed)] 75] (fun d b => d = .agg [.val (.int .i64 r.1.Tag), .sl 1 (encL e8 r.1.Bytes), .val (.bool r.1.Nested), .sl 4 (encL api_Value.enc r.1.Elements)] ∧ b = [.box [.sl 4 (encL api_Value.enc r.2.l), .val (.bool r.2.Failed)] 75]) := by
 unfold g_certificate_Reader_Next at hg
 refine Fn.of Try.func34 rfl rfl rfl fun w0 I ρ0 => ?_
 show awp _ ⟨w0, I, ρ0, 1, 1, 35⟩ _ _ _
 refine sr_ 1 9 mk_U ?_
 refine c0_ rfl rfl (.alloc z49) rfl rfl ?_
 refine ch_n fun hU9_1 => ?_
 refine awp_seq ?_
 refine awp_cut (ι := Bool) (fun (x15_1 : Bool) => mk [(0, .ptr 0 0), (2, .ptr 1 0), (15, .val (.bool x15_1))] [(0, .box [.sl 4 (encL api_Value.enc r'.l), .val (.bool r'.Failed)] 75), (1, .box [.val (.int .i64 0), .val (.slice none 0 0), .val (.bool false), .val (.slice none 0 0)] 49)] 2) (fun (x15_1 : Bool) => g_certificate_Reader_Next.j1 r' x15_1 = some r) ?_ ?_
 ·refine awp_region (sys _ _ []) 9 105 hU9_1 rfl rfl ?_
  refine c0_ rfl rfl .move rfl rfl ?_
  refine c0_ rfl rfl .nilP rfl rfl ?_
  refine c0_ rfl rfl (.fieldP fd75_1 ty4 (by decide)) rfl rfl ?_
  refine ch_s (rd := [0]) rfl rfl (.loadB1 ty4 rfl) rfl rfl ?_
  refine c0_ rfl rfl .move rfl rfl ?_
  rcases Bool.eq_false_or_eq_true (r'.Failed) with h2 | h2
  ·replace hg := cond_t h2 hg
   iterate 6 refine ch_skip (gdv_f rfl rfl h2) rfl ?_
   refine c0_ rfl rfl (r_pickT h2) rfl rfl ?_
   refine ch_n fun hU105_3 => ?_
   exact ⟨true, hg, Sub.lists [(0, 0), (1, 1)] rfl rfl ⟨⟨_, rfl, .ptr rfl⟩, ⟨_, rfl, .ptr rfl⟩, ⟨_, rfl, .val _⟩, trivial⟩ ⟨.inl ⟨0, _, rfl, rfl, ⟨rfl, .cons (.sl _ _) (.cons (.val _) .nil)⟩⟩, .inl ⟨1, _, rfl, rfl, ⟨rfl, .cons (.val _) (.cons (.val _) (.cons (.val _) (.cons (.val _) .nil)))⟩⟩, trivial⟩⟩
  ·replace hg := cond_f h2 hg
   refine c0_ (gdv_t rfl rfl h2) rfl .move rfl rfl ?_
   refine c0_ (gdv_t rfl rfl h2) rfl .nilP rfl rfl ?_
   refine c0_ (gdv_t rfl rfl h2) rfl (.fieldP fd75_0 ty47 (by decide)) rfl rfl ?_
   refine ch_s (rd := [0]) (gdv_t rfl rfl h2) rfl (.loadB1 ty47 rfl) rfl rfl ?_
   refine c0_ (gdv_t rfl rfl h2) rfl (r_lenS sl47 api_Value.enc_len) rfl rfl ?_
   refine c0_ (gdv_t rfl rfl h2) rfl r_eql rfl rfl ?_
   refine c0_ rfl rfl (r_pickF h2) rfl rfl ?_
   refine ch_n fun hU105_4 => ?_
   exact ⟨decide ((r'.l.length : Int) = 0), hg, Sub.lists [(0, 0), (1, 1)] rfl rfl ⟨⟨_, rfl, .ptr rfl⟩, ⟨_, rfl, .ptr rfl⟩, ⟨_, rfl, .val _⟩, trivial⟩ ⟨.inl ⟨0, _, rfl, rfl, ⟨rfl, .cons (.sl _ _) (.cons (.val _) .nil)⟩⟩, .inl ⟨1, _, rfl, rfl, ⟨rfl, .cons (.val _) (.cons (.val _) (.cons (.val _) (.cons (.val _) .nil)))⟩⟩, trivial⟩⟩
 ·rintro x15_1 hg
  replace hg : g_certificate_Reader_Next.j1 r' x15_1 = some r := hg
  show awp _ _ _ _ (mk _ _ _)
  unfold g_certificate_Reader_Next.j1 at hg
  refine awp_cond rfl (fun h5 => ?_) (fun h5 => ?_)
  ·replace hg := cond_t h5 hg
   refine sr_ 2 34 mk_U ?_
   refine c0_ rfl rfl .move rfl rfl ?_
   refine c0_ rfl rfl .nilP rfl rfl ?_
   refine c0_ rfl rfl (.fieldP fd75_1 ty4 (by decide)) rfl rfl ?_
   refine ch_s (rd := [0]) rfl rfl (r_storeB (ds' := [.sl 4 (encL api_Value.enc r'.l), .val (.bool true)]) ty4 rfl (Nat.le_of_ble_eq_true rfl) rfl rfl) rfl rfl ?_
   refine ch_n fun hU34_6 => ?_
   refine sr_ 34 50 hU34_6 ?_
   refine c0_ rfl rfl (.build (r := [.val (.int .i64 0), .val (.slice none 0 0), .val (.bool false), .val (.slice none 0 0)]) und49 pl49 z49 (by kernel_rfl) rfl) rfl rfl ?_
   refine ch_s (rd := [1]) rfl rfl (r_storeB (ds' := [.val (.int .i64 0), .val (.slice none 0 0), .val (.bool false), .val (.slice none 0 0)]) ty49 rfl (Nat.le_of_ble_eq_true rfl) rfl rfl) rfl rfl ?_
   refine ch_n fun hU50_7 => ?_
   refine aw_r ?_
   obtain rfl := Option.some.inj hg
   exact ⟨[_], _, [_], [(0, 0)], .cons (.cellA rfl rfl ty49 rfl) .nil, ⟨rfl, rfl⟩, .agg (.cons (.val _) (.cons (.nils _) (.cons (.val _) (.cons (.nils _) .nil)))), ⟨.inl ⟨0, _, rfl, rfl, ⟨rfl, .cons (.sl _ _) (.cons (.val _) .nil)⟩⟩, trivial⟩, rfl, rfl, rfl, rfl⟩
  ·replace hg := cond_f h5 hg
   refine aw_s ?_
   refine sr_ 2 66 mk_U ?_
   refine c0_ rfl rfl .move rfl rfl ?_
   refine c0_ rfl rfl .nilP rfl rfl ?_
   refine c0_ rfl rfl (.fieldP fd75_0 ty47 (by decide)) rfl rfl ?_
   refine ch_s (rd := [0]) rfl rfl (.loadB1 ty47 rfl) rfl rfl ?_
   obtain ⟨e, he, hg⟩ := bind_some hg
   refine c0_ rfl rfl (r_idxS sl47 api_Value.enc_len (getI_ix he) (getI_at he)) rfl rfl ?_
   refine c0_ rfl rfl (r_loadEA ty49 (enc_cells api_Value.enc_len (getI_at he) (o := 0) (m := 4) (cs := [.int .i64 e.Tag, .sl 1 (encL e8 e.Bytes), .bool e.Nested, .sl 4 (encL api_Value.enc e.Elements)]) (by simp only [api_Value.enc_eq]; rfl) (by decide) rfl) (enc_cells_le api_Value.enc_len (getI_at he) (o := 0) (m := 4) (by decide) rfl)) rfl rfl ?_
   refine c0_ rfl rfl (.alloc z49) rfl rfl ?_
   refine ch_s (rd := [50]) rfl rfl (r_storeB (ds' := [.val (.int .i64 e.Tag), .sl 1 (encL e8 e.Bytes), .val (.bool e.Nested), .sl 4 (encL api_Value.enc e.Elements)]) ty49 rfl (Nat.le_of_ble_eq_true rfl) rfl rfl) rfl rfl ?_
   refine ch_n fun hU66_8 => ?_
   refine sr_ 66 138 hU66_8 ?_
   refine c0_ rfl rfl .move rfl rfl ?_
   refine c0_ rfl rfl .move rfl rfl ?_
   refine c0_ rfl rfl .nilP rfl rfl ?_
   refine c0_ rfl rfl (.fieldP fd75_0 ty47 (by decide)) rfl rfl ?_
   refine ch_s (rd := [0]) rfl rfl (.loadB1 ty47 rfl) rfl rfl ?_
   obtain ⟨l, hl, hg⟩ := bind_some hg
   refine c0_ rfl rfl (r_sliS_lo sl47 api_Value.enc_len hl) rfl rfl ?_
   refine c0_ rfl rfl .nilP rfl rfl ?_
   refine c0_ rfl rfl (.fieldP fd75_0 ty47 (by decide)) rfl rfl ?_
   refine ch_s (rd := [0]) rfl rfl (r_storeB (ds' := [.sl 4 (encL api_Value.enc l), .val (.bool r'.Failed)]) ty47 rfl (Nat.le_of_ble_eq_true rfl) rfl rfl) rfl rfl ?_
   refine ch_n fun hU138_9 => ?_
   refine sr_ 138 154 hU138_9 ?_
   refine ch_s (rd := [50]) rfl rfl (.loadBA ty49 (Nat.le_of_ble_eq_true rfl)) rfl rfl ?_
   refine ch_s (rd := [1]) rfl rfl (r_storeB (ds' := [.val (.int .i64 e.Tag), .sl 1 (encL e8 e.Bytes), .val (.bool e.Nested), .sl 4 (encL api_Value.enc e.Elements)]) ty49 rfl (Nat.le_of_ble_eq_true rfl) rfl rfl) rfl rfl ?_
   refine ch_n fun hU154_10 => ?_
   refine aw_r ?_
   obtain rfl := Option.some.inj hg
   exact ⟨[_], _, [_], [(0, 0)], .cons (.cellA rfl rfl ty49 rfl) .nil, ⟨rfl, rfl⟩, .agg (.cons (.val _) (.cons (.sl _ _) (.cons (.val _) (.cons (.sl _ _) .nil)))), ⟨.inl ⟨0, _, rfl, rfl, ⟨rfl, .cons (.sl _ _) (.cons (.val _) .nil)⟩⟩, trivial⟩, rfl, rfl, rfl, rfl⟩
theorem w_der_plain (v : api_Value) (tag : Int) (r : Bool) (hg : g_der_plain v tag = some r) : Fn Try.prog 71 0 [.agg [.val (.int .i64 v.Tag), .sl 1 (encL e8 v.Bytes), .val (.bool v.Nested), .sl 4 (encL api_Value.enc v.Elements)], .val (.int .i64 tag)] [] (fun d b => d = .val (.bool r) ∧ b = []) := by
 unfold g_der_plain at hg
 refine Fn.of Try.func71 rfl rfl rfl fun w0 I ρ0 => ?_
 show awp _ ⟨w0, I, ρ0, 0, 0, 20⟩ _ _ _
 refine sr_ 0 16 mk_U ?_
 refine c0_ rfl rfl (.box rfl) rfl rfl ?_
 refine c0_ rfl rfl .assign rfl rfl ?_
 refine ch_n fun hU16_1 => ?_
 refine sr_ 16 144 hU16_1 ?_
 refine c0_ rfl rfl (.fieldP fd49_0 ty3 (by decide)) rfl rfl ?_
 refine ch_s (rd := [0]) rfl rfl (.loadB1 ty3 rfl) rfl rfl ?_
 refine c0_ rfl rfl .move rfl rfl ?_
 refine c0_ rfl rfl r_eql rfl rfl ?_
 refine c0_ rfl rfl .move rfl rfl ?_
 rcases Bool.eq_false_or_eq_true (decide (v.Tag = tag)) with h2 | h2
 ·replace hg := cond_t h2 hg
  refine c0_ (gdv_t rfl rfl h2) rfl (.fieldP fd49_2 ty4 (by decide)) rfl rfl ?_
  refine ch_s (rd := [0]) (gdv_t rfl rfl h2) rfl (.loadB1 ty4 rfl) rfl rfl ?_
  refine c0_ (gdv_t rfl rfl h2) rfl r_not rfl rfl ?_
  refine c0_ rfl rfl (r_pickT h2) rfl rfl ?_
  refine c0_ rfl rfl .move rfl rfl ?_
  rcases Bool.eq_false_or_eq_true (!v.Nested) with h3 | h3
  ·replace hg := cond_t h3 hg
   refine c0_ (gdv_t rfl rfl h3) rfl (.fieldP fd49_3 ty47 (by decide)) rfl rfl ?_
   refine ch_s (rd := [0]) (gdv_t rfl rfl h3) rfl (.loadB1 ty47 rfl) rfl rfl ?_
   refine c0_ (gdv_t rfl rfl h3) rfl (r_lenS sl47 api_Value.enc_len) rfl rfl ?_
   refine c0_ (gdv_t rfl rfl h3) rfl r_eql rfl rfl ?_
   refine c0_ rfl rfl (r_pickT h3) rfl rfl ?_
   refine c0_ rfl rfl .assign rfl rfl ?_
   refine ch_n fun hU144_4 => ?_
   refine aw_r ?_
   obtain rfl := Option.some.inj hg
   exact ⟨[_], _, [], [], .cons (.tmp rfl) .nil, ⟨rfl, rfl⟩, .val _, trivial, rfl, rfl, rfl, rfl⟩
  ·replace hg := cond_f h3 hg
   iterate 4 refine ch_skip (gdv_f rfl rfl h3) rfl ?_
   refine c0_ rfl rfl (r_pickF h3) rfl rfl ?_
   refine c0_ rfl rfl .assign rfl rfl ?_
   refine ch_n fun hU144_5 => ?_
   refine aw_r ?_
   obtain rfl := Option.some.inj hg
   exact ⟨[_], _, [], [], .cons (.tmp rfl) .nil, ⟨rfl, rfl⟩, .val _, trivial, rfl, rfl, rfl, rfl⟩
 ·replace hg := cond_f h2 hg
  iterate 3 refine ch_skip (gdv_f rfl rfl h2) rfl ?_
  refine c0_ rfl rfl (r_pickF h2) rfl rfl ?_
  refine c0_ rfl rfl .move rfl rfl ?_
  iterate 4 refine ch_skip (gdv_f rfl rfl rfl) rfl ?_
  refine c0_ rfl rfl (r_pickF rfl) rfl rfl ?_
  refine c0_ rfl rfl .assign rfl rfl ?_
  refine ch_n fun hU144_6 => ?_
  refine aw_r ?_
  obtain rfl := Option.some.inj hg
  exact ⟨[_], _, [], [], .cons (.tmp rfl) .nil, ⟨rfl, rfl⟩, .val _, trivial, rfl, rfl, rfl, rfl⟩
theorem w_bytes_Equal (a : (List UInt8)) (b : (List UInt8)) (r : Bool) (hg : g_bytes_Equal a b = some r) : Fn Try.prog 72 0 [.sl 1 (encL e8 a), .sl 1 (encL e8 b)] [] (fun d b => d = .val (.bool r) ∧ b = []) := by
 unfold g_bytes_Equal at hg
 refine Fn.of Try.func72 rfl rfl rfl fun w0 I ρ0 => ?_
 show awp _ ⟨w0, I, ρ0, 0, 0, 10⟩ _ _ _
 refine sr_ 0 8 mk_U ?_
 refine c0_ rfl rfl .assign rfl rfl ?_
 refine ch_n fun hU8_1 => ?_
 refine sr_ 8 56 hU8_1 ?_
 refine c0_ rfl rfl .move rfl rfl ?_
 refine c0_ rfl rfl (r_convS und22 und5 und9 .sl rfl) rfl rfl ?_
 refine c0_ rfl rfl .move rfl rfl ?_
 refine c0_ rfl rfl (r_convS und22 und5 und9 .sl rfl) rfl rfl ?_
 refine c0_ rfl rfl r_seql rfl rfl ?_
 refine c0_ rfl rfl .assign rfl rfl ?_
 refine ch_n fun hU56_2 => ?_
 refine aw_r ?_
 obtain rfl := Option.some.inj hg
 exact ⟨[_], _, [], [], .cons (.tmp rfl) .nil, ⟨rfl, rfl⟩, .val _, trivial, rfl, rfl, rfl, rfl⟩
end Go.Proofs.Ytlcfdnjokgbccaa
