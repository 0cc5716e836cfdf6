/- The program computes the plain functions. -/
import Derived.Test.YtlcfdnjokgbccaaT1
import Derived.Test.YtlcfdnjokgbccaaA1
import Derived.Test.YtlcfdnjokgbccaaA3
import Derived.Test.YtlcfdnjokgbccaaA4
set_option linter.unusedVariables false
set_option linter.unusedSimpArgs false
set_option maxRecDepth 100000
set_option maxHeartbeats 1600000
namespace Go.Proofs.Ytlcfdnjokgbccaa
open Go.RowKit
theorem w_certificate_Decode (b : (List UInt8)) (r : api_Certificate × Int) (hg : g_certificate_Decode b = some r) : Fn Try.prog 10 0 [.sl 1 (encL e8 b)] [] (fun d b => d = .tup [.agg [.val (.int .i64 r.1.Serial), .val (.string r.1.Issuer), .val (.string r.1.Subject), .val (.int .i64 r.1.Key.Alg), .val (.int .i64 r.1.Key.Bits), .val (.int .i64 r.1.KeyId), .val (.int .i64 r.1.Hash.Alg), .val (.int .i64 r.1.Hash.Bits), .val (.int .i64 r.1.From), .val (.int .i64 r.1.To), .val (.bool r.1.Authority), .val (.int .i64 r.1.Path), .sl 1 (encL eS r.1.Names), .val (.int .i64 r.1.Seal.Key), .val (.int .i64 r.1.Seal.Sum)], .val (.int .i64 r.2)] ∧ b = []) := by
 unfold g_certificate_Decode at hg
 refine Fn.of Try.func10 rfl rfl rfl fun w0 I ρ0 => ?_
 show awp _ ⟨w0, I, ρ0, 0, 0, 32⟩ _ _ _
 refine sr_ 0 16 mk_U ?_
 refine c0_ rfl rfl (.alloc z33) rfl rfl ?_
 refine c0_ rfl rfl .assign rfl rfl ?_
 refine ch_n fun hU16_1 => ?_
 refine sr_ 16 80 hU16_1 ?_
 refine c0_ rfl rfl .move rfl rfl ?_
 obtain ⟨y, hy, hg⟩ := bind_some hg
 refine ch_callP (rd := []) (ps := []) (gs := []) false rfl (w_der_Decode b _ hy) rfl rfl (.cons .sl .nil) rfl rfl (by intro h; cases h) rfl rfl rfl rfl ?_
 refine c0_ rfl rfl .move rfl rfl ?_
 refine c0_ rfl rfl (.extract rfl) rfl rfl ?_
 refine c0_ rfl rfl (.extract rfl) rfl rfl ?_
 refine c0_ rfl rfl (.alloc z49) rfl rfl ?_
 refine ch_s (rd := [56]) rfl rfl (r_storeB (ds' := [.val (.int .i64 y.1.Tag), .sl 1 (encL e8 y.1.Bytes), .val (.bool y.1.Nested), .sl 4 (encL api_Value.enc y.1.Elements)]) ty49 rfl (Nat.le_of_ble_eq_true rfl) rfl rfl) rfl rfl ?_
 refine c0_ rfl rfl .assign rfl rfl ?_
 refine ch_n fun hU80_2 => ?_
 refine awp_seq ?_
 refine sr_ 80 96 hU80_2 ?_
 refine c0_ rfl rfl .move rfl rfl ?_
 refine c0_ rfl rfl r_neq rfl rfl ?_
 refine ch_n fun hU96_3 => ?_
 refine awp_cond rfl (fun h4 => ?_) (fun h4 => ?_)
 ·replace hg := cond_t h4 hg
  refine sr_ 96 128 hU96_3 ?_
  refine c0_ rfl rfl (.build (r := [.val (.int .i64 0), .val (.string (⟨#[]⟩ : ByteArray)), .val (.string (⟨#[]⟩ : ByteArray)), .val (.int .i64 0), .val (.int .i64 0), .val (.int .i64 0), .val (.int .i64 0), .val (.int .i64 0), .val (.int .i64 0), .val (.int .i64 0), .val (.bool false), .val (.int .i64 0), .val (.slice none 0 0), .val (.int .i64 0), .val (.int .i64 0)]) und33 pl33 z33 (by kernel_rfl) rfl) rfl rfl ?_
  refine c0_ rfl rfl .move rfl rfl ?_
  refine ch_s (rd := [0]) rfl rfl (r_storeB (ds' := [.val (.int .i64 0), .val (.string (⟨#[]⟩ : ByteArray)), .val (.string (⟨#[]⟩ : ByteArray)), .val (.int .i64 0), .val (.int .i64 0), .val (.int .i64 0), .val (.int .i64 0), .val (.int .i64 0), .val (.int .i64 0), .val (.int .i64 0), .val (.bool false), .val (.int .i64 0), .val (.slice none 0 0), .val (.int .i64 0), .val (.int .i64 0)]) ty33 rfl (Nat.le_of_ble_eq_true rfl) rfl rfl) rfl rfl ?_
  refine c0_ rfl rfl .assign rfl rfl ?_
  refine ch_n fun hU128_5 => ?_
  refine aw_r ?_
  obtain rfl := Option.some.inj hg
  exact ⟨[_, _], _, [], [], .cons (.cellA rfl rfl ty33 rfl) (.cons (.tmp rfl) .nil), ⟨rfl, rfl⟩, .tup (.cons (.agg (.cons (.val _) (.cons (.val _) (.cons (.val _) (.cons (.val _) (.cons (.val _) (.cons (.val _) (.cons (.val _) (.cons (.val _) (.cons (.val _) (.cons (.val _) (.cons (.val _) (.cons (.val _) (.cons (.nils _) (.cons (.val _) (.cons (.val _) .nil)))))))))))))))) (.cons (.val _) .nil)), trivial, rfl, rfl, rfl, rfl⟩
 ·replace hg := cond_f h4 hg
  refine aw_s ?_
  refine sr_ 96 160 hU96_3 ?_
  refine ch_s (rd := [56]) rfl rfl (.loadBA ty49 (Nat.le_of_ble_eq_true rfl)) rfl rfl ?_
  obtain ⟨y_2, hy_2, hg⟩ := bind_some hg
  refine ch_callP (rd := []) (ps := []) (gs := []) false rfl (w_certificate_Parse y.1 _ hy_2) rfl rfl (.cons (.agg (.cons .val (.cons .sl (.cons .val (.cons .sl .nil))))) .nil) rfl rfl (by intro h; cases h) rfl rfl rfl rfl ?_
  refine c0_ rfl rfl .move rfl rfl ?_
  refine c0_ rfl rfl (.extract rfl) rfl rfl ?_
  refine c0_ rfl rfl (.extract rfl) rfl rfl ?_
  refine c0_ rfl rfl (.alloc z33) rfl rfl ?_
  refine ch_s (rd := [136]) rfl rfl (r_storeB (ds' := [.val (.int .i64 y_2.1.Serial), .val (.string y_2.1.Issuer), .val (.string y_2.1.Subject), .val (.int .i64 y_2.1.Key.Alg), .val (.int .i64 y_2.1.Key.Bits), .val (.int .i64 y_2.1.KeyId), .val (.int .i64 y_2.1.Hash.Alg), .val (.int .i64 y_2.1.Hash.Bits), .val (.int .i64 y_2.1.From), .val (.int .i64 y_2.1.To), .val (.bool y_2.1.Authority), .val (.int .i64 y_2.1.Path), .sl 1 (encL eS y_2.1.Names), .val (.int .i64 y_2.1.Seal.Key), .val (.int .i64 y_2.1.Seal.Sum)]) ty33 rfl (Nat.le_of_ble_eq_true rfl) rfl rfl) rfl rfl ?_
  refine c0_ rfl rfl .assign rfl rfl ?_
  refine ch_n fun hU160_6 => ?_
  refine awp_seq ?_
  refine awp_block ?_
  refine sr_ 160 184 hU160_6 ?_
  refine c0_ rfl rfl .move rfl rfl ?_
  refine c0_ rfl rfl r_not rfl rfl ?_
  refine c0_ rfl rfl .assign rfl rfl ?_
  refine ch_n fun hU184_7 => ?_
  refine awp_cond rfl (fun h8 => ?_) (fun h8 => ?_)
  ·replace hg := cond_t h8 hg
   refine sr_ 184 208 hU184_7 ?_
   refine c0_ rfl rfl (.build (r := [.val (.int .i64 0), .val (.string (⟨#[]⟩ : ByteArray)), .val (.string (⟨#[]⟩ : ByteArray)), .val (.int .i64 0), .val (.int .i64 0), .val (.int .i64 0), .val (.int .i64 0), .val (.int .i64 0), .val (.int .i64 0), .val (.int .i64 0), .val (.bool false), .val (.int .i64 0), .val (.slice none 0 0), .val (.int .i64 0), .val (.int .i64 0)]) und33 pl33 z33 (by kernel_rfl) rfl) rfl rfl ?_
   refine ch_s (rd := [0]) rfl rfl (r_storeB (ds' := [.val (.int .i64 0), .val (.string (⟨#[]⟩ : ByteArray)), .val (.string (⟨#[]⟩ : ByteArray)), .val (.int .i64 0), .val (.int .i64 0), .val (.int .i64 0), .val (.int .i64 0), .val (.int .i64 0), .val (.int .i64 0), .val (.int .i64 0), .val (.bool false), .val (.int .i64 0), .val (.slice none 0 0), .val (.int .i64 0), .val (.int .i64 0)]) ty33 rfl (Nat.le_of_ble_eq_true rfl) rfl rfl) rfl rfl ?_
   refine c0_ rfl rfl .assign rfl rfl ?_
   refine ch_n fun hU208_9 => ?_
   refine aw_r ?_
   obtain rfl := Option.some.inj hg
   exact ⟨[_, _], _, [], [], .cons (.cellA rfl rfl ty33 rfl) (.cons (.tmp rfl) .nil), ⟨rfl, rfl⟩, .tup (.cons (.agg (.cons (.val _) (.cons (.val _) (.cons (.val _) (.cons (.val _) (.cons (.val _) (.cons (.val _) (.cons (.val _) (.cons (.val _) (.cons (.val _) (.cons (.val _) (.cons (.val _) (.cons (.val _) (.cons (.nils _) (.cons (.val _) (.cons (.val _) .nil)))))))))))))))) (.cons (.val _) .nil)), trivial, rfl, rfl, rfl, rfl⟩
  ·replace hg := cond_f h8 hg
   refine sr_ 184 216 hU184_7 ?_
   refine ch_s (rd := [136]) rfl rfl (.loadBA ty33 (Nat.le_of_ble_eq_true rfl)) rfl rfl ?_
   obtain ⟨y_3, hy_3, hg⟩ := bind_some hg
   refine ch_callP (rd := []) (ps := []) (gs := []) false rfl (w_certificate_valid y_2.1 _ hy_3) rfl rfl (.cons (.agg (.cons .val (.cons .val (.cons .val (.cons .val (.cons .val (.cons .val (.cons .val (.cons .val (.cons .val (.cons .val (.cons .val (.cons .val (.cons .sl (.cons .val (.cons .val .nil)))))))))))))))) .nil) rfl rfl (by intro h; cases h) rfl rfl rfl rfl ?_
   refine c0_ rfl rfl r_not rfl rfl ?_
   refine c0_ rfl rfl .assign rfl rfl ?_
   refine ch_n fun hU216_10 => ?_
   refine awp_cond rfl (fun h11 => ?_) (fun h11 => ?_)
   ·replace hg := cond_t h11 hg
    refine sr_ 216 240 hU216_10 ?_
    refine c0_ rfl rfl (.build (r := [.val (.int .i64 0), .val (.string (⟨#[]⟩ : ByteArray)), .val (.string (⟨#[]⟩ : ByteArray)), .val (.int .i64 0), .val (.int .i64 0), .val (.int .i64 0), .val (.int .i64 0), .val (.int .i64 0), .val (.int .i64 0), .val (.int .i64 0), .val (.bool false), .val (.int .i64 0), .val (.slice none 0 0), .val (.int .i64 0), .val (.int .i64 0)]) und33 pl33 z33 (by kernel_rfl) rfl) rfl rfl ?_
    refine ch_s (rd := [0]) rfl rfl (r_storeB (ds' := [.val (.int .i64 0), .val (.string (⟨#[]⟩ : ByteArray)), .val (.string (⟨#[]⟩ : ByteArray)), .val (.int .i64 0), .val (.int .i64 0), .val (.int .i64 0), .val (.int .i64 0), .val (.int .i64 0), .val (.int .i64 0), .val (.int .i64 0), .val (.bool false), .val (.int .i64 0), .val (.slice none 0 0), .val (.int .i64 0), .val (.int .i64 0)]) ty33 rfl (Nat.le_of_ble_eq_true rfl) rfl rfl) rfl rfl ?_
    refine c0_ rfl rfl .assign rfl rfl ?_
    refine ch_n fun hU240_12 => ?_
    refine aw_r ?_
    obtain rfl := Option.some.inj hg
    exact ⟨[_, _], _, [], [], .cons (.cellA rfl rfl ty33 rfl) (.cons (.tmp rfl) .nil), ⟨rfl, rfl⟩, .tup (.cons (.agg (.cons (.val _) (.cons (.val _) (.cons (.val _) (.cons (.val _) (.cons (.val _) (.cons (.val _) (.cons (.val _) (.cons (.val _) (.cons (.val _) (.cons (.val _) (.cons (.val _) (.cons (.val _) (.cons (.nils _) (.cons (.val _) (.cons (.val _) .nil)))))))))))))))) (.cons (.val _) .nil)), trivial, rfl, rfl, rfl, rfl⟩
   ·replace hg := cond_f h11 hg
    refine aw_s ?_
    refine sr_ 216 240 hU216_10 ?_
    refine ch_s (rd := [136]) rfl rfl (.loadBA ty33 (Nat.le_of_ble_eq_true rfl)) rfl rfl ?_
    refine ch_s (rd := [0]) rfl rfl (r_storeB (ds' := [.val (.int .i64 y_2.1.Serial), .val (.string y_2.1.Issuer), .val (.string y_2.1.Subject), .val (.int .i64 y_2.1.Key.Alg), .val (.int .i64 y_2.1.Key.Bits), .val (.int .i64 y_2.1.KeyId), .val (.int .i64 y_2.1.Hash.Alg), .val (.int .i64 y_2.1.Hash.Bits), .val (.int .i64 y_2.1.From), .val (.int .i64 y_2.1.To), .val (.bool y_2.1.Authority), .val (.int .i64 y_2.1.Path), .sl 1 (encL eS y_2.1.Names), .val (.int .i64 y_2.1.Seal.Key), .val (.int .i64 y_2.1.Seal.Sum)]) ty33 rfl (Nat.le_of_ble_eq_true rfl) rfl rfl) rfl rfl ?_
    refine c0_ rfl rfl .assign rfl rfl ?_
    refine ch_n fun hU240_13 => ?_
    refine aw_r ?_
    obtain rfl := Option.some.inj hg
    exact ⟨[_, _], _, [], [], .cons (.cellA rfl rfl ty33 rfl) (.cons (.tmp rfl) .nil), ⟨rfl, rfl⟩, .tup (.cons (.agg (.cons (.val _) (.cons (.val _) (.cons (.val _) (.cons (.val _) (.cons (.val _) (.cons (.val _) (.cons (.val _) (.cons (.val _) (.cons (.val _) (.cons (.val _) (.cons (.val _) (.cons (.val _) (.cons (.sl _ _) (.cons (.val _) (.cons (.val _) .nil)))))))))))))))) (.cons (.val _) .nil)), trivial, rfl, rfl, rfl, rfl⟩
theorem w_certificate_Sealed (c : api_Certificate) (key : Int) (r : Bool) (hg : g_certificate_Sealed c key = some r) : Fn Try.prog 11 0 [.agg [.val (.int .i64 c.Serial), .val (.string c.Issuer), .val (.string c.Subject), .val (.int .i64 c.Key.Alg), .val (.int .i64 c.Key.Bits), .val (.int .i64 c.KeyId), .val (.int .i64 c.Hash.Alg), .val (.int .i64 c.Hash.Bits), .val (.int .i64 c.From), .val (.int .i64 c.To), .val (.bool c.Authority), .val (.int .i64 c.Path), .sl 1 (encL eS c.Names), .val (.int .i64 c.Seal.Key), .val (.int .i64 c.Seal.Sum)], .val (.int .i64 key)] [] (fun d b => d = .val (.bool r) ∧ b = []) := by
 unfold g_certificate_Sealed at hg
 refine Fn.of Try.func11 rfl rfl rfl fun w0 I ρ0 => ?_
 show awp _ ⟨w0, I, ρ0, 0, 0, 23⟩ _ _ _
 refine sr_ 0 16 mk_U ?_
 refine c0_ rfl rfl (.box rfl) rfl rfl ?_
 refine c0_ rfl rfl .assign rfl rfl ?_
 refine ch_n fun hU16_1 => ?_
 refine sr_ 16 72 hU16_1 ?_
 refine ch_s (rd := [0]) rfl rfl (.loadBA ty33 (Nat.le_of_ble_eq_true rfl)) rfl rfl ?_
 obtain ⟨y, hy, hg⟩ := bind_some hg
 refine ch_callP (rd := []) (ps := []) (gs := []) false rfl (w_certificate_Bytes c _ hy) rfl rfl (.cons (.agg (.cons .val (.cons .val (.cons .val (.cons .val (.cons .val (.cons .val (.cons .val (.cons .val (.cons .val (.cons .val (.cons .val (.cons .val (.cons .sl (.cons .val (.cons .val .nil)))))))))))))))) .nil) rfl rfl (by intro h; cases h) rfl rfl rfl rfl ?_
 refine c0_ rfl rfl .move rfl rfl ?_
 refine c0_ rfl rfl (.extract rfl) rfl rfl ?_
 refine c0_ rfl rfl (.extract rfl) rfl rfl ?_
 refine c0_ rfl rfl .assign rfl rfl ?_
 refine c0_ rfl rfl .assign rfl rfl ?_
 refine ch_n fun hU72_2 => ?_
 refine awp_seq ?_
 refine awp_draw (sys _ _ []) (by kernel_rfl) [0, 1, 3, 7, 15, 7, 7, 71, 231, 511, 1023, 2047] 72 168 hU72_2 rfl rfl (by kernel_rfl) ?_
 refine c0_ rfl rfl .move rfl rfl ?_
 refine c0_ rfl rfl r_eql rfl rfl ?_
 refine c0_ rfl rfl .move rfl rfl ?_
 rcases Bool.eq_false_or_eq_true (decide (y.2 = 0)) with h3 | h3
 ·replace hg := cond_t h3 hg
  refine c0_ (gdv_t rfl rfl h3) rfl (.fieldP fd33_11 ty31 (by decide)) rfl rfl ?_
  refine ch_s (rd := [0]) (gdv_t rfl rfl h3) rfl (.loadBA ty31 (Nat.le_of_ble_eq_true rfl)) rfl rfl ?_
  refine c0_ (gdv_t rfl rfl h3) rfl .move rfl rfl ?_
  refine c0_ (gdv_t rfl rfl h3) rfl .move rfl rfl ?_
  obtain ⟨y_2, hy_2, hg⟩ := bind_some hg
  refine ch_callP (rd := []) (ps := []) (gs := []) false (gdv_t rfl rfl h3) (w_certificate_Sum y.1 _ hy_2) rfl rfl (.cons .sl .nil) rfl rfl (by intro h; cases h) rfl rfl rfl rfl ?_
  refine c0_ (gdv_t rfl rfl h3) rfl (.build (r := [.val (.int .i64 key), .val (.int .i64 y_2)]) und31 pl31 z31 (by kernel_rfl) rfl) rfl rfl ?_
  refine c0_ (gdv_t rfl rfl h3) rfl (steq31_eql c.Seal (api_Seal.mk key y_2)) rfl rfl ?_
  refine c0_ rfl rfl (r_pickT h3) rfl rfl ?_
  refine c0_ rfl rfl .assign rfl rfl ?_
  refine ch_n fun hU168_4 => ?_
  refine aw_r ?_
  obtain rfl := Option.some.inj hg
  exact ⟨[_], _, [], [], .cons (.tmp rfl) .nil, ⟨rfl, rfl⟩, .val _, trivial, rfl, rfl, rfl, rfl⟩
 ·replace hg := cond_f h3 hg
  iterate 7 refine ch_skip (gdv_f rfl rfl h3) rfl ?_
  refine c0_ rfl rfl (r_pickF h3) rfl rfl ?_
  refine c0_ rfl rfl .assign rfl rfl ?_
  refine ch_n fun hU168_5 => ?_
  refine aw_r ?_
  obtain rfl := Option.some.inj hg
  exact ⟨[_], _, [], [], .cons (.tmp rfl) .nil, ⟨rfl, rfl⟩, .val _, trivial, rfl, rfl, rfl, rfl⟩
theorem w_slices_Equal_string (s1 : (List ByteArray)) (s2 : (List ByteArray)) (r : Bool) (hg : g_slices_Equal_string s1 s2 = some r) : Fn Try.prog 21 0 [.sl 1 (encL eS s1), .sl 1 (encL eS s2)] [] (fun d b => d = .val (.bool r) ∧ b = []) := by
 unfold g_slices_Equal_string at hg
 refine Fn.of Try.func21 rfl rfl rfl fun w0 I ρ0 => ?_
 show awp _ ⟨w0, I, ρ0, 0, 0, 26⟩ _ _ _
 refine sr_ 0 8 mk_U ?_
 refine c0_ rfl rfl .assign rfl rfl ?_
 refine ch_n fun hU8_1 => ?_
 refine awp_seq ?_
 refine sr_ 8 48 hU8_1 ?_
 refine c0_ rfl rfl .move rfl rfl ?_
 refine c0_ rfl rfl (r_lenS sl29 eS_len) rfl rfl ?_
 refine c0_ rfl rfl .move rfl rfl ?_
 refine c0_ rfl rfl (r_lenS sl29 eS_len) rfl rfl ?_
 refine c0_ rfl rfl r_neq rfl rfl ?_
 refine ch_n fun hU48_2 => ?_
 refine awp_cond rfl (fun h3 => ?_) (fun h3 => ?_)
 ·replace hg := cond_t h3 hg
  refine sr_ 48 56 hU48_2 ?_
  refine c0_ rfl rfl .assign rfl rfl ?_
  refine ch_n fun hU56_4 => ?_
  refine aw_r ?_
  obtain rfl := Option.some.inj hg
  exact ⟨[_], _, [], [], .cons (.tmp rfl) .nil, ⟨rfl, rfl⟩, .val _, trivial, rfl, rfl, rfl, rfl⟩
 ·replace hg := cond_f h3 hg
  refine aw_s ?_
  refine awp_seq ?_
  refine sr_ 48 72 hU48_2 ?_
  refine c0_ rfl rfl .move rfl rfl ?_
  refine c0_ rfl rfl (r_lenS sl29 eS_len) rfl rfl ?_
  refine c0_ rfl rfl .move rfl rfl ?_
  refine ch_n fun hU72_5 => ?_
  refine awp_block ?_
  obtain ⟨n1, hg⟩ := loop_some hg
  refine awp_loop (ι := (Int) × Nat) (fun ((x13_1, _) : (Int) × Nat) => mk [(0, .sl 1 (encL eS s1)), (1, .sl 1 (encL eS s2)), (12, .val (.int .i64 (s1.length : Int))), (13, .val (.int .i64 x13_1))] [] 0) (fun ((x13_1, nq') : (Int) × Nat) => iter (fun q' => g_slices_Equal_string.l1 s1 s2 q') nq' x13_1 = some r) (fun q => q.2) (0, n1) (Sub.lists [] rfl rfl ⟨⟨_, rfl, .sl _ _⟩, ⟨_, rfl, .sl _ _⟩, ⟨_, rfl, .val _⟩, ⟨_, rfl, .val _⟩, trivial⟩ trivial) hg ?_
  rintro ⟨x13_1, n1⟩ hg
  obtain ⟨m1, o1, rfl, hg, hn1⟩ := iter_some (show iter (fun q' => g_slices_Equal_string.l1 s1 s2 q') n1 x13_1 = some r from hg)
  replace hg : g_slices_Equal_string.l1 s1 s2 x13_1 = some o1 := hg
  show awp _ _ _ _ (mk _ _ _)
  unfold g_slices_Equal_string.l1 at hg
  refine sr_ 0 8 mk_U ?_
  refine c0_ rfl rfl r_lss rfl rfl ?_
  refine ch_n fun hU8_6 => ?_
  refine awp_seq ?_
  refine awp_cond rfl (fun h7 => ?_) (fun h7 => ?_)
  ·replace hg := cond_t h7 hg
   refine aw_s ?_
   refine awp_seq ?_
   refine awp_block ?_
   refine sr_ 8 24 hU8_6 ?_
   refine c0_ rfl rfl .move rfl rfl ?_
   refine c0_ rfl rfl .assign rfl rfl ?_
   refine ch_n fun hU24_8 => ?_
   refine awp_seq ?_
   refine awp_draw (sys _ _ []) (by kernel_rfl) [0, 0, 3, 7, 0, 0, 48, 112, 255] 24 96 hU24_8 rfl rfl (by kernel_rfl) ?_
   refine c0_ rfl rfl .move rfl rfl ?_
   refine c0_ rfl rfl .move rfl rfl ?_
   obtain ⟨e, he, hg⟩ := bind_some hg
   refine c0_ rfl rfl (r_idxS sl29 eS_len (getI_ix he) (getI_at he)) rfl rfl ?_
   refine c0_ rfl rfl (r_loadE1 ty9 (enc_cell eS_len (getI_at he) (o := 0) (c := .str e) rfl rfl)) rfl rfl ?_
   refine c0_ rfl rfl .move rfl rfl ?_
   refine c0_ rfl rfl .move rfl rfl ?_
   obtain ⟨e_2, he_2, hg⟩ := bind_some hg
   refine c0_ rfl rfl (r_idxS sl29 eS_len (getI_ix he_2) (getI_at he_2)) rfl rfl ?_
   refine c0_ rfl rfl (r_loadE1 ty9 (enc_cell eS_len (getI_at he_2) (o := 0) (c := .str e_2) rfl rfl)) rfl rfl ?_
   refine c0_ rfl rfl r_sneq rfl rfl ?_
   refine ch_n fun hU96_9 => ?_
   refine awp_cond rfl (fun h10 => ?_) (fun h10 => ?_)
   ·replace hg := cond_t h10 hg
    refine sr_ 96 104 hU96_9 ?_
    refine c0_ rfl rfl .assign rfl rfl ?_
    refine ch_n fun hU104_11 => ?_
    refine aw_r ?_
    replace hg := leave hg hn1
    obtain rfl := Option.some.inj hg
    exact ⟨[_], _, [], [], .cons (.tmp rfl) .nil, ⟨rfl, rfl⟩, .val _, trivial, rfl, rfl, rfl, rfl⟩
   ·replace hg := cond_f h10 hg
    refine aw_s ?_
    refine awp_region (sys _ _ []) 96 112 hU96_9 rfl rfl ?_
    refine c0_ rfl rfl r_add rfl rfl ?_
    refine c0_ rfl rfl .move rfl rfl ?_
    refine ch_n fun hU112_12 => ?_
    obtain rfl := Option.some.inj hg
    exact ⟨(W (x13_1 + 1), m1), Nat.lt_succ_self _, hn1, Sub.lists [] rfl rfl ⟨⟨_, rfl, .sl _ _⟩, ⟨_, rfl, .sl _ _⟩, ⟨_, rfl, .val _⟩, ⟨_, rfl, .val _⟩, trivial⟩ trivial⟩
  ·replace hg := cond_f h7 hg
   refine awp_exit ?_
   repeat first | refine st_ ?_ | refine sn_ ?_
   replace hg := leave hg hn1
   refine sr_ 8 16 hU8_6 ?_
   refine c0_ rfl rfl .assign rfl rfl ?_
   refine ch_n fun hU16_13 => ?_
   refine aw_r ?_
   obtain rfl := Option.some.inj hg
   exact ⟨[_], _, [], [], .cons (.tmp rfl) .nil, ⟨rfl, rfl⟩, .val _, trivial, rfl, rfl, rfl, rfl⟩
theorem w_certificate_Same (a : api_Certificate) (b : api_Certificate) (r : Bool) (hg : g_certificate_Same a b = some r) : Fn Try.prog 12 0 [.agg [.val (.int .i64 a.Serial), .val (.string a.Issuer), .val (.string a.Subject), .val (.int .i64 a.Key.Alg), .val (.int .i64 a.Key.Bits), .val (.int .i64 a.KeyId), .val (.int .i64 a.Hash.Alg), .val (.int .i64 a.Hash.Bits), .val (.int .i64 a.From), .val (.int .i64 a.To), .val (.bool a.Authority), .val (.int .i64 a.Path), .sl 1 (encL eS a.Names), .val (.int .i64 a.Seal.Key), .val (.int .i64 a.Seal.Sum)], .agg [.val (.int .i64 b.Serial), .val (.string b.Issuer), .val (.string b.Subject), .val (.int .i64 b.Key.Alg), .val (.int .i64 b.Key.Bits), .val (.int .i64 b.KeyId), .val (.int .i64 b.Hash.Alg), .val (.int .i64 b.Hash.Bits), .val (.int .i64 b.From), .val (.int .i64 b.To), .val (.bool b.Authority), .val (.int .i64 b.Path), .sl 1 (encL eS b.Names), .val (.int .i64 b.Seal.Key), .val (.int .i64 b.Seal.Sum)]] [] (fun d b => d = .val (.bool r) ∧ b = []) := by
 unfold g_certificate_Same at hg
 refine Fn.of Try.func12 rfl rfl rfl fun w0 I ρ0 => ?_
 show awp _ ⟨w0, I, ρ0, 0, 0, 91⟩ _ _ _
 refine sr_ 0 24 mk_U ?_
 refine c0_ rfl rfl (.box rfl) rfl rfl ?_
 refine c0_ rfl rfl (.box rfl) rfl rfl ?_
 refine c0_ rfl rfl .assign rfl rfl ?_
 refine ch_n fun hU24_1 => ?_
 refine awp_cut (ι := Bool) (fun (named_1 : Bool) => mk [(2, .ptr 0 0), (3, .ptr 1 0), (5, .val (.bool named_1))] [(0, .box [.val (.int .i64 a.Serial), .val (.string a.Issuer), .val (.string a.Subject), .val (.int .i64 a.Key.Alg), .val (.int .i64 a.Key.Bits), .val (.int .i64 a.KeyId), .val (.int .i64 a.Hash.Alg), .val (.int .i64 a.Hash.Bits), .val (.int .i64 a.From), .val (.int .i64 a.To), .val (.bool a.Authority), .val (.int .i64 a.Path), .sl 1 (encL eS a.Names), .val (.int .i64 a.Seal.Key), .val (.int .i64 a.Seal.Sum)] 33), (1, .box [.val (.int .i64 b.Serial), .val (.string b.Issuer), .val (.string b.Subject), .val (.int .i64 b.Key.Alg), .val (.int .i64 b.Key.Bits), .val (.int .i64 b.KeyId), .val (.int .i64 b.Hash.Alg), .val (.int .i64 b.Hash.Bits), .val (.int .i64 b.From), .val (.int .i64 b.To), .val (.bool b.Authority), .val (.int .i64 b.Path), .sl 1 (encL eS b.Names), .val (.int .i64 b.Seal.Key), .val (.int .i64 b.Seal.Sum)] 33)] 2) (fun (named_1 : Bool) => g_certificate_Same.j1 a b named_1 = some r) ?_ ?_
 ·refine awp_region (sys _ _ []) 24 240 hU24_1 rfl rfl ?_
  refine c0_ rfl rfl (.fieldP fd33_0 ty3 (by decide)) rfl rfl ?_
  refine ch_s (rd := [0]) rfl rfl (.loadB1 ty3 rfl) rfl rfl ?_
  refine c0_ rfl rfl (.fieldP fd33_0 ty3 (by decide)) rfl rfl ?_
  refine ch_s (rd := [8]) rfl rfl (.loadB1 ty3 rfl) rfl rfl ?_
  refine c0_ rfl rfl r_eql rfl rfl ?_
  refine c0_ rfl rfl .move rfl rfl ?_
  rcases Bool.eq_false_or_eq_true (decide (a.Serial = b.Serial)) with h2 | h2
  ·replace hg := cond_t h2 hg
   refine c0_ (gdv_t rfl rfl h2) rfl (.fieldP fd33_1 ty9 (by decide)) rfl rfl ?_
   refine ch_s (rd := [0]) (gdv_t rfl rfl h2) rfl (.loadB1 ty9 rfl) rfl rfl ?_
   refine c0_ (gdv_t rfl rfl h2) rfl (.fieldP fd33_1 ty9 (by decide)) rfl rfl ?_
   refine ch_s (rd := [8]) (gdv_t rfl rfl h2) rfl (.loadB1 ty9 rfl) rfl rfl ?_
   refine c0_ (gdv_t rfl rfl h2) rfl r_seql rfl rfl ?_
   refine c0_ rfl rfl (r_pickT h2) rfl rfl ?_
   refine c0_ rfl rfl .move rfl rfl ?_
   rcases Bool.eq_false_or_eq_true (decide (a.Issuer = b.Issuer)) with h3 | h3
   ·replace hg := cond_t h3 hg
    refine c0_ (gdv_t rfl rfl h3) rfl (.fieldP fd33_2 ty9 (by decide)) rfl rfl ?_
    refine ch_s (rd := [0]) (gdv_t rfl rfl h3) rfl (.loadB1 ty9 rfl) rfl rfl ?_
    refine c0_ (gdv_t rfl rfl h3) rfl (.fieldP fd33_2 ty9 (by decide)) rfl rfl ?_
    refine ch_s (rd := [8]) (gdv_t rfl rfl h3) rfl (.loadB1 ty9 rfl) rfl rfl ?_
    refine c0_ (gdv_t rfl rfl h3) rfl r_seql rfl rfl ?_
    refine c0_ rfl rfl (r_pickT h3) rfl rfl ?_
    refine c0_ rfl rfl .move rfl rfl ?_
    rcases Bool.eq_false_or_eq_true (decide (a.Subject = b.Subject)) with h4 | h4
    ·replace hg := cond_t h4 hg
     refine c0_ (gdv_t rfl rfl h4) rfl (.fieldP fd33_10 ty29 (by decide)) rfl rfl ?_
     refine ch_s (rd := [0]) (gdv_t rfl rfl h4) rfl (.loadB1 ty29 rfl) rfl rfl ?_
     refine c0_ (gdv_t rfl rfl h4) rfl (.fieldP fd33_10 ty29 (by decide)) rfl rfl ?_
     refine ch_s (rd := [8]) (gdv_t rfl rfl h4) rfl (.loadB1 ty29 rfl) rfl rfl ?_
     obtain ⟨y, hy, hg⟩ := bind_some hg
     refine ch_callP (rd := []) (ps := []) (gs := []) false (gdv_t rfl rfl h4) (w_slices_Equal_string a.Names b.Names _ hy) rfl rfl (.cons .sl (.cons .sl .nil)) rfl rfl (by intro h; cases h) rfl rfl rfl rfl ?_
     refine c0_ rfl rfl (r_pickT h4) rfl rfl ?_
     refine c0_ rfl rfl .assign rfl rfl ?_
     refine ch_n fun hU240_5 => ?_
     exact ⟨y, hg, Sub.lists [(0, 0), (1, 8)] rfl rfl ⟨⟨_, rfl, .ptr rfl⟩, ⟨_, rfl, .ptr rfl⟩, ⟨_, rfl, .val _⟩, trivial⟩ ⟨.inl ⟨0, _, rfl, rfl, ⟨rfl, .cons (.val _) (.cons (.val _) (.cons (.val _) (.cons (.val _) (.cons (.val _) (.cons (.val _) (.cons (.val _) (.cons (.val _) (.cons (.val _) (.cons (.val _) (.cons (.val _) (.cons (.val _) (.cons (.sl _ _) (.cons (.val _) (.cons (.val _) .nil))))))))))))))⟩⟩, .inl ⟨8, _, rfl, rfl, ⟨rfl, .cons (.val _) (.cons (.val _) (.cons (.val _) (.cons (.val _) (.cons (.val _) (.cons (.val _) (.cons (.val _) (.cons (.val _) (.cons (.val _) (.cons (.val _) (.cons (.val _) (.cons (.val _) (.cons (.sl _ _) (.cons (.val _) (.cons (.val _) .nil))))))))))))))⟩⟩, trivial⟩⟩
    ·replace hg := cond_f h4 hg
     iterate 5 refine ch_skip (gdv_f rfl rfl h4) rfl ?_
     refine c0_ rfl rfl (r_pickF h4) rfl rfl ?_
     refine c0_ rfl rfl .assign rfl rfl ?_
     refine ch_n fun hU240_6 => ?_
     exact ⟨false, hg, Sub.lists [(0, 0), (1, 8)] rfl rfl ⟨⟨_, rfl, .ptr rfl⟩, ⟨_, rfl, .ptr rfl⟩, ⟨_, rfl, .val _⟩, trivial⟩ ⟨.inl ⟨0, _, rfl, rfl, ⟨rfl, .cons (.val _) (.cons (.val _) (.cons (.val _) (.cons (.val _) (.cons (.val _) (.cons (.val _) (.cons (.val _) (.cons (.val _) (.cons (.val _) (.cons (.val _) (.cons (.val _) (.cons (.val _) (.cons (.sl _ _) (.cons (.val _) (.cons (.val _) .nil))))))))))))))⟩⟩, .inl ⟨8, _, rfl, rfl, ⟨rfl, .cons (.val _) (.cons (.val _) (.cons (.val _) (.cons (.val _) (.cons (.val _) (.cons (.val _) (.cons (.val _) (.cons (.val _) (.cons (.val _) (.cons (.val _) (.cons (.val _) (.cons (.val _) (.cons (.sl _ _) (.cons (.val _) (.cons (.val _) .nil))))))))))))))⟩⟩, trivial⟩⟩
   ·replace hg := cond_f h3 hg
    iterate 5 refine ch_skip (gdv_f rfl rfl h3) rfl ?_
    refine c0_ rfl rfl (r_pickF h3) rfl rfl ?_
    refine c0_ rfl rfl .move rfl rfl ?_
    iterate 5 refine ch_skip (gdv_f rfl rfl rfl) rfl ?_
    refine c0_ rfl rfl (r_pickF rfl) rfl rfl ?_
    refine c0_ rfl rfl .assign rfl rfl ?_
    refine ch_n fun hU240_7 => ?_
    exact ⟨false, hg, Sub.lists [(0, 0), (1, 8)] rfl rfl ⟨⟨_, rfl, .ptr rfl⟩, ⟨_, rfl, .ptr rfl⟩, ⟨_, rfl, .val _⟩, trivial⟩ ⟨.inl ⟨0, _, rfl, rfl, ⟨rfl, .cons (.val _) (.cons (.val _) (.cons (.val _) (.cons (.val _) (.cons (.val _) (.cons (.val _) (.cons (.val _) (.cons (.val _) (.cons (.val _) (.cons (.val _) (.cons (.val _) (.cons (.val _) (.cons (.sl _ _) (.cons (.val _) (.cons (.val _) .nil))))))))))))))⟩⟩, .inl ⟨8, _, rfl, rfl, ⟨rfl, .cons (.val _) (.cons (.val _) (.cons (.val _) (.cons (.val _) (.cons (.val _) (.cons (.val _) (.cons (.val _) (.cons (.val _) (.cons (.val _) (.cons (.val _) (.cons (.val _) (.cons (.val _) (.cons (.sl _ _) (.cons (.val _) (.cons (.val _) .nil))))))))))))))⟩⟩, trivial⟩⟩
  ·replace hg := cond_f h2 hg
   iterate 5 refine ch_skip (gdv_f rfl rfl h2) rfl ?_
   refine c0_ rfl rfl (r_pickF h2) rfl rfl ?_
   refine c0_ rfl rfl .move rfl rfl ?_
   iterate 5 refine ch_skip (gdv_f rfl rfl rfl) rfl ?_
   refine c0_ rfl rfl (r_pickF rfl) rfl rfl ?_
   refine c0_ rfl rfl .move rfl rfl ?_
   iterate 5 refine ch_skip (gdv_f rfl rfl rfl) rfl ?_
   refine c0_ rfl rfl (r_pickF rfl) rfl rfl ?_
   refine c0_ rfl rfl .assign rfl rfl ?_
   refine ch_n fun hU240_8 => ?_
   exact ⟨false, hg, Sub.lists [(0, 0), (1, 8)] rfl rfl ⟨⟨_, rfl, .ptr rfl⟩, ⟨_, rfl, .ptr rfl⟩, ⟨_, rfl, .val _⟩, trivial⟩ ⟨.inl ⟨0, _, rfl, rfl, ⟨rfl, .cons (.val _) (.cons (.val _) (.cons (.val _) (.cons (.val _) (.cons (.val _) (.cons (.val _) (.cons (.val _) (.cons (.val _) (.cons (.val _) (.cons (.val _) (.cons (.val _) (.cons (.val _) (.cons (.sl _ _) (.cons (.val _) (.cons (.val _) .nil))))))))))))))⟩⟩, .inl ⟨8, _, rfl, rfl, ⟨rfl, .cons (.val _) (.cons (.val _) (.cons (.val _) (.cons (.val _) (.cons (.val _) (.cons (.val _) (.cons (.val _) (.cons (.val _) (.cons (.val _) (.cons (.val _) (.cons (.val _) (.cons (.val _) (.cons (.sl _ _) (.cons (.val _) (.cons (.val _) .nil))))))))))))))⟩⟩, trivial⟩⟩
 ·rintro named_1 hg
  replace hg : g_certificate_Same.j1 a b named_1 = some r := hg
  show awp _ _ _ _ (mk _ _ _)
  unfold g_certificate_Same.j1 at hg
  refine awp_cut (ι := Bool) (fun (keys_2 : Bool) => mk [(2, .ptr 0 0), (3, .ptr 1 0), (5, .val (.bool named_1)), (6, .val (.bool keys_2))] [(0, .box [.val (.int .i64 a.Serial), .val (.string a.Issuer), .val (.string a.Subject), .val (.int .i64 a.Key.Alg), .val (.int .i64 a.Key.Bits), .val (.int .i64 a.KeyId), .val (.int .i64 a.Hash.Alg), .val (.int .i64 a.Hash.Bits), .val (.int .i64 a.From), .val (.int .i64 a.To), .val (.bool a.Authority), .val (.int .i64 a.Path), .sl 1 (encL eS a.Names), .val (.int .i64 a.Seal.Key), .val (.int .i64 a.Seal.Sum)] 33), (1, .box [.val (.int .i64 b.Serial), .val (.string b.Issuer), .val (.string b.Subject), .val (.int .i64 b.Key.Alg), .val (.int .i64 b.Key.Bits), .val (.int .i64 b.KeyId), .val (.int .i64 b.Hash.Alg), .val (.int .i64 b.Hash.Bits), .val (.int .i64 b.From), .val (.int .i64 b.To), .val (.bool b.Authority), .val (.int .i64 b.Path), .sl 1 (encL eS b.Names), .val (.int .i64 b.Seal.Key), .val (.int .i64 b.Seal.Sum)] 33)] 2) (fun (keys_2 : Bool) => g_certificate_Same.j2 a b named_1 keys_2 = some r) ?_ ?_
  ·refine awp_region (sys _ _ []) 2 218 mk_U rfl rfl ?_
   refine c0_ rfl rfl (.fieldP fd33_3 ty28 (by decide)) rfl rfl ?_
   refine ch_s (rd := [0]) rfl rfl (.loadBA ty28 (Nat.le_of_ble_eq_true rfl)) rfl rfl ?_
   refine c0_ rfl rfl (.fieldP fd33_3 ty28 (by decide)) rfl rfl ?_
   refine ch_s (rd := [1]) rfl rfl (.loadBA ty28 (Nat.le_of_ble_eq_true rfl)) rfl rfl ?_
   refine c0_ rfl rfl (steq28_eql a.Key b.Key) rfl rfl ?_
   refine c0_ rfl rfl .move rfl rfl ?_
   rcases Bool.eq_false_or_eq_true (decide (a.Key = b.Key)) with h9 | h9
   ·replace hg := cond_t h9 hg
    refine c0_ (gdv_t rfl rfl h9) rfl (.fieldP fd33_4 ty3 (by decide)) rfl rfl ?_
    refine ch_s (rd := [0]) (gdv_t rfl rfl h9) rfl (.loadB1 ty3 rfl) rfl rfl ?_
    refine c0_ (gdv_t rfl rfl h9) rfl (.fieldP fd33_4 ty3 (by decide)) rfl rfl ?_
    refine ch_s (rd := [1]) (gdv_t rfl rfl h9) rfl (.loadB1 ty3 rfl) rfl rfl ?_
    refine c0_ (gdv_t rfl rfl h9) rfl r_eql rfl rfl ?_
    refine c0_ rfl rfl (r_pickT h9) rfl rfl ?_
    refine c0_ rfl rfl .move rfl rfl ?_
    rcases Bool.eq_false_or_eq_true (decide (a.KeyId = b.KeyId)) with h10 | h10
    ·replace hg := cond_t h10 hg
     refine c0_ (gdv_t rfl rfl h10) rfl (.fieldP fd33_5 ty28 (by decide)) rfl rfl ?_
     refine ch_s (rd := [0]) (gdv_t rfl rfl h10) rfl (.loadBA ty28 (Nat.le_of_ble_eq_true rfl)) rfl rfl ?_
     refine c0_ (gdv_t rfl rfl h10) rfl (.fieldP fd33_5 ty28 (by decide)) rfl rfl ?_
     refine ch_s (rd := [1]) (gdv_t rfl rfl h10) rfl (.loadBA ty28 (Nat.le_of_ble_eq_true rfl)) rfl rfl ?_
     refine c0_ (gdv_t rfl rfl h10) rfl (steq28_eql a.Hash b.Hash) rfl rfl ?_
     refine c0_ rfl rfl (r_pickT h10) rfl rfl ?_
     refine c0_ rfl rfl .move rfl rfl ?_
     rcases Bool.eq_false_or_eq_true (decide (a.Hash = b.Hash)) with h11 | h11
     ·replace hg := cond_t h11 hg
      refine c0_ (gdv_t rfl rfl h11) rfl (.fieldP fd33_11 ty31 (by decide)) rfl rfl ?_
      refine ch_s (rd := [0]) (gdv_t rfl rfl h11) rfl (.loadBA ty31 (Nat.le_of_ble_eq_true rfl)) rfl rfl ?_
      refine c0_ (gdv_t rfl rfl h11) rfl (.fieldP fd33_11 ty31 (by decide)) rfl rfl ?_
      refine ch_s (rd := [1]) (gdv_t rfl rfl h11) rfl (.loadBA ty31 (Nat.le_of_ble_eq_true rfl)) rfl rfl ?_
      refine c0_ (gdv_t rfl rfl h11) rfl (steq31_eql a.Seal b.Seal) rfl rfl ?_
      refine c0_ rfl rfl (r_pickT h11) rfl rfl ?_
      refine c0_ rfl rfl .assign rfl rfl ?_
      refine ch_n fun hU218_12 => ?_
      exact ⟨decide (a.Seal = b.Seal), hg, Sub.lists [(0, 0), (1, 1)] rfl rfl ⟨⟨_, rfl, .ptr rfl⟩, ⟨_, rfl, .ptr rfl⟩, ⟨_, rfl, .val _⟩, ⟨_, rfl, .val _⟩, trivial⟩ ⟨.inl ⟨0, _, rfl, rfl, ⟨rfl, .cons (.val _) (.cons (.val _) (.cons (.val _) (.cons (.val _) (.cons (.val _) (.cons (.val _) (.cons (.val _) (.cons (.val _) (.cons (.val _) (.cons (.val _) (.cons (.val _) (.cons (.val _) (.cons (.sl _ _) (.cons (.val _) (.cons (.val _) .nil))))))))))))))⟩⟩, .inl ⟨1, _, rfl, rfl, ⟨rfl, .cons (.val _) (.cons (.val _) (.cons (.val _) (.cons (.val _) (.cons (.val _) (.cons (.val _) (.cons (.val _) (.cons (.val _) (.cons (.val _) (.cons (.val _) (.cons (.val _) (.cons (.val _) (.cons (.sl _ _) (.cons (.val _) (.cons (.val _) .nil))))))))))))))⟩⟩, trivial⟩⟩
     ·replace hg := cond_f h11 hg
      iterate 5 refine ch_skip (gdv_f rfl rfl h11) rfl ?_
      refine c0_ rfl rfl (r_pickF h11) rfl rfl ?_
      refine c0_ rfl rfl .assign rfl rfl ?_
      refine ch_n fun hU218_13 => ?_
      exact ⟨false, hg, Sub.lists [(0, 0), (1, 1)] rfl rfl ⟨⟨_, rfl, .ptr rfl⟩, ⟨_, rfl, .ptr rfl⟩, ⟨_, rfl, .val _⟩, ⟨_, rfl, .val _⟩, trivial⟩ ⟨.inl ⟨0, _, rfl, rfl, ⟨rfl, .cons (.val _) (.cons (.val _) (.cons (.val _) (.cons (.val _) (.cons (.val _) (.cons (.val _) (.cons (.val _) (.cons (.val _) (.cons (.val _) (.cons (.val _) (.cons (.val _) (.cons (.val _) (.cons (.sl _ _) (.cons (.val _) (.cons (.val _) .nil))))))))))))))⟩⟩, .inl ⟨1, _, rfl, rfl, ⟨rfl, .cons (.val _) (.cons (.val _) (.cons (.val _) (.cons (.val _) (.cons (.val _) (.cons (.val _) (.cons (.val _) (.cons (.val _) (.cons (.val _) (.cons (.val _) (.cons (.val _) (.cons (.val _) (.cons (.sl _ _) (.cons (.val _) (.cons (.val _) .nil))))))))))))))⟩⟩, trivial⟩⟩
    ·replace hg := cond_f h10 hg
     iterate 5 refine ch_skip (gdv_f rfl rfl h10) rfl ?_
     refine c0_ rfl rfl (r_pickF h10) rfl rfl ?_
     refine c0_ rfl rfl .move rfl rfl ?_
     iterate 5 refine ch_skip (gdv_f rfl rfl rfl) rfl ?_
     refine c0_ rfl rfl (r_pickF rfl) rfl rfl ?_
     refine c0_ rfl rfl .assign rfl rfl ?_
     refine ch_n fun hU218_14 => ?_
     exact ⟨false, hg, Sub.lists [(0, 0), (1, 1)] rfl rfl ⟨⟨_, rfl, .ptr rfl⟩, ⟨_, rfl, .ptr rfl⟩, ⟨_, rfl, .val _⟩, ⟨_, rfl, .val _⟩, trivial⟩ ⟨.inl ⟨0, _, rfl, rfl, ⟨rfl, .cons (.val _) (.cons (.val _) (.cons (.val _) (.cons (.val _) (.cons (.val _) (.cons (.val _) (.cons (.val _) (.cons (.val _) (.cons (.val _) (.cons (.val _) (.cons (.val _) (.cons (.val _) (.cons (.sl _ _) (.cons (.val _) (.cons (.val _) .nil))))))))))))))⟩⟩, .inl ⟨1, _, rfl, rfl, ⟨rfl, .cons (.val _) (.cons (.val _) (.cons (.val _) (.cons (.val _) (.cons (.val _) (.cons (.val _) (.cons (.val _) (.cons (.val _) (.cons (.val _) (.cons (.val _) (.cons (.val _) (.cons (.val _) (.cons (.sl _ _) (.cons (.val _) (.cons (.val _) .nil))))))))))))))⟩⟩, trivial⟩⟩
   ·replace hg := cond_f h9 hg
    iterate 5 refine ch_skip (gdv_f rfl rfl h9) rfl ?_
    refine c0_ rfl rfl (r_pickF h9) rfl rfl ?_
    refine c0_ rfl rfl .move rfl rfl ?_
    iterate 5 refine ch_skip (gdv_f rfl rfl rfl) rfl ?_
    refine c0_ rfl rfl (r_pickF rfl) rfl rfl ?_
    refine c0_ rfl rfl .move rfl rfl ?_
    iterate 5 refine ch_skip (gdv_f rfl rfl rfl) rfl ?_
    refine c0_ rfl rfl (r_pickF rfl) rfl rfl ?_
    refine c0_ rfl rfl .assign rfl rfl ?_
    refine ch_n fun hU218_15 => ?_
    exact ⟨false, hg, Sub.lists [(0, 0), (1, 1)] rfl rfl ⟨⟨_, rfl, .ptr rfl⟩, ⟨_, rfl, .ptr rfl⟩, ⟨_, rfl, .val _⟩, ⟨_, rfl, .val _⟩, trivial⟩ ⟨.inl ⟨0, _, rfl, rfl, ⟨rfl, .cons (.val _) (.cons (.val _) (.cons (.val _) (.cons (.val _) (.cons (.val _) (.cons (.val _) (.cons (.val _) (.cons (.val _) (.cons (.val _) (.cons (.val _) (.cons (.val _) (.cons (.val _) (.cons (.sl _ _) (.cons (.val _) (.cons (.val _) .nil))))))))))))))⟩⟩, .inl ⟨1, _, rfl, rfl, ⟨rfl, .cons (.val _) (.cons (.val _) (.cons (.val _) (.cons (.val _) (.cons (.val _) (.cons (.val _) (.cons (.val _) (.cons (.val _) (.cons (.val _) (.cons (.val _) (.cons (.val _) (.cons (.val _) (.cons (.sl _ _) (.cons (.val _) (.cons (.val _) .nil))))))))))))))⟩⟩, trivial⟩⟩
  ·rintro keys_2 hg
   replace hg : g_certificate_Same.j2 a b named_1 keys_2 = some r := hg
   show awp _ _ _ _ (mk _ _ _)
   unfold g_certificate_Same.j2 at hg
   refine sr_ 2 266 mk_U ?_
   refine c0_ rfl rfl .move rfl rfl ?_
   refine c0_ rfl rfl .move rfl rfl ?_
   rcases Bool.eq_false_or_eq_true (named_1) with h16 | h16
   ·replace hg := cond_t h16 hg
    refine c0_ (gdv_t rfl rfl h16) rfl .move rfl rfl ?_
    refine c0_ rfl rfl (r_pickT h16) rfl rfl ?_
    refine c0_ rfl rfl .move rfl rfl ?_
    rcases Bool.eq_false_or_eq_true (keys_2) with h17 | h17
    ·replace hg := cond_t h17 hg
     refine c0_ (gdv_t rfl rfl h17) rfl (.fieldP fd33_6 ty3 (by decide)) rfl rfl ?_
     refine ch_s (rd := [0]) (gdv_t rfl rfl h17) rfl (.loadB1 ty3 rfl) rfl rfl ?_
     refine c0_ (gdv_t rfl rfl h17) rfl (.fieldP fd33_6 ty3 (by decide)) rfl rfl ?_
     refine ch_s (rd := [1]) (gdv_t rfl rfl h17) rfl (.loadB1 ty3 rfl) rfl rfl ?_
     refine c0_ (gdv_t rfl rfl h17) rfl r_eql rfl rfl ?_
     refine c0_ rfl rfl (r_pickT h17) rfl rfl ?_
     refine c0_ rfl rfl .move rfl rfl ?_
     rcases Bool.eq_false_or_eq_true (decide (a.From = b.From)) with h18 | h18
     ·replace hg := cond_t h18 hg
      refine c0_ (gdv_t rfl rfl h18) rfl (.fieldP fd33_7 ty3 (by decide)) rfl rfl ?_
      refine ch_s (rd := [0]) (gdv_t rfl rfl h18) rfl (.loadB1 ty3 rfl) rfl rfl ?_
      refine c0_ (gdv_t rfl rfl h18) rfl (.fieldP fd33_7 ty3 (by decide)) rfl rfl ?_
      refine ch_s (rd := [1]) (gdv_t rfl rfl h18) rfl (.loadB1 ty3 rfl) rfl rfl ?_
      refine c0_ (gdv_t rfl rfl h18) rfl r_eql rfl rfl ?_
      refine c0_ rfl rfl (r_pickT h18) rfl rfl ?_
      refine c0_ rfl rfl .move rfl rfl ?_
      rcases Bool.eq_false_or_eq_true (decide (a.To = b.To)) with h19 | h19
      ·replace hg := cond_t h19 hg
       refine c0_ (gdv_t rfl rfl h19) rfl (.fieldP fd33_8 ty4 (by decide)) rfl rfl ?_
       refine ch_s (rd := [0]) (gdv_t rfl rfl h19) rfl (.loadB1 ty4 rfl) rfl rfl ?_
       refine c0_ (gdv_t rfl rfl h19) rfl (.fieldP fd33_8 ty4 (by decide)) rfl rfl ?_
       refine ch_s (rd := [1]) (gdv_t rfl rfl h19) rfl (.loadB1 ty4 rfl) rfl rfl ?_
       refine c0_ (gdv_t rfl rfl h19) rfl (r_beql und4) rfl rfl ?_
       refine c0_ rfl rfl (r_pickT h19) rfl rfl ?_
       refine c0_ rfl rfl .move rfl rfl ?_
       rcases Bool.eq_false_or_eq_true (decide (a.Authority = b.Authority)) with h20 | h20
       ·replace hg := cond_t h20 hg
        refine c0_ (gdv_t rfl rfl h20) rfl (.fieldP fd33_9 ty3 (by decide)) rfl rfl ?_
        refine ch_s (rd := [0]) (gdv_t rfl rfl h20) rfl (.loadB1 ty3 rfl) rfl rfl ?_
        refine c0_ (gdv_t rfl rfl h20) rfl (.fieldP fd33_9 ty3 (by decide)) rfl rfl ?_
        refine ch_s (rd := [1]) (gdv_t rfl rfl h20) rfl (.loadB1 ty3 rfl) rfl rfl ?_
        refine c0_ (gdv_t rfl rfl h20) rfl r_eql rfl rfl ?_
        refine c0_ rfl rfl (r_pickT h20) rfl rfl ?_
        refine c0_ rfl rfl .assign rfl rfl ?_
        refine ch_n fun hU266_21 => ?_
        refine aw_r ?_
        obtain rfl := Option.some.inj hg
        exact ⟨[_], _, [], [], .cons (.tmp rfl) .nil, ⟨rfl, rfl⟩, .val _, trivial, rfl, rfl, rfl, rfl⟩
       ·replace hg := cond_f h20 hg
        iterate 5 refine ch_skip (gdv_f rfl rfl h20) rfl ?_
        refine c0_ rfl rfl (r_pickF h20) rfl rfl ?_
        refine c0_ rfl rfl .assign rfl rfl ?_
        refine ch_n fun hU266_22 => ?_
        refine aw_r ?_
        obtain rfl := Option.some.inj hg
        exact ⟨[_], _, [], [], .cons (.tmp rfl) .nil, ⟨rfl, rfl⟩, .val _, trivial, rfl, rfl, rfl, rfl⟩
      ·replace hg := cond_f h19 hg
       iterate 5 refine ch_skip (gdv_f rfl rfl h19) rfl ?_
       refine c0_ rfl rfl (r_pickF h19) rfl rfl ?_
       refine c0_ rfl rfl .move rfl rfl ?_
       iterate 5 refine ch_skip (gdv_f rfl rfl rfl) rfl ?_
       refine c0_ rfl rfl (r_pickF rfl) rfl rfl ?_
       refine c0_ rfl rfl .assign rfl rfl ?_
       refine ch_n fun hU266_23 => ?_
       refine aw_r ?_
       obtain rfl := Option.some.inj hg
       exact ⟨[_], _, [], [], .cons (.tmp rfl) .nil, ⟨rfl, rfl⟩, .val _, trivial, rfl, rfl, rfl, rfl⟩
     ·replace hg := cond_f h18 hg
      iterate 5 refine ch_skip (gdv_f rfl rfl h18) rfl ?_
      refine c0_ rfl rfl (r_pickF h18) rfl rfl ?_
      refine c0_ rfl rfl .move rfl rfl ?_
      iterate 5 refine ch_skip (gdv_f rfl rfl rfl) rfl ?_
      refine c0_ rfl rfl (r_pickF rfl) rfl rfl ?_
      refine c0_ rfl rfl .move rfl rfl ?_
      iterate 5 refine ch_skip (gdv_f rfl rfl rfl) rfl ?_
      refine c0_ rfl rfl (r_pickF rfl) rfl rfl ?_
      refine c0_ rfl rfl .assign rfl rfl ?_
      refine ch_n fun hU266_24 => ?_
      refine aw_r ?_
      obtain rfl := Option.some.inj hg
      exact ⟨[_], _, [], [], .cons (.tmp rfl) .nil, ⟨rfl, rfl⟩, .val _, trivial, rfl, rfl, rfl, rfl⟩
    ·replace hg := cond_f h17 hg
     iterate 5 refine ch_skip (gdv_f rfl rfl h17) rfl ?_
     refine c0_ rfl rfl (r_pickF h17) rfl rfl ?_
     refine c0_ rfl rfl .move rfl rfl ?_
     iterate 5 refine ch_skip (gdv_f rfl rfl rfl) rfl ?_
     refine c0_ rfl rfl (r_pickF rfl) rfl rfl ?_
     refine c0_ rfl rfl .move rfl rfl ?_
     iterate 5 refine ch_skip (gdv_f rfl rfl rfl) rfl ?_
     refine c0_ rfl rfl (r_pickF rfl) rfl rfl ?_
     refine c0_ rfl rfl .move rfl rfl ?_
     iterate 5 refine ch_skip (gdv_f rfl rfl rfl) rfl ?_
     refine c0_ rfl rfl (r_pickF rfl) rfl rfl ?_
     refine c0_ rfl rfl .assign rfl rfl ?_
     refine ch_n fun hU266_25 => ?_
     refine aw_r ?_
     obtain rfl := Option.some.inj hg
     exact ⟨[_], _, [], [], .cons (.tmp rfl) .nil, ⟨rfl, rfl⟩, .val _, trivial, rfl, rfl, rfl, rfl⟩
   ·replace hg := cond_f h16 hg
    refine ch_skip (gdv_f rfl rfl h16) rfl ?_
    refine c0_ rfl rfl (r_pickF h16) rfl rfl ?_
    refine c0_ rfl rfl .move rfl rfl ?_
    iterate 5 refine ch_skip (gdv_f rfl rfl rfl) rfl ?_
    refine c0_ rfl rfl (r_pickF rfl) rfl rfl ?_
    refine c0_ rfl rfl .move rfl rfl ?_
    iterate 5 refine ch_skip (gdv_f rfl rfl rfl) rfl ?_
    refine c0_ rfl rfl (r_pickF rfl) rfl rfl ?_
    refine c0_ rfl rfl .move rfl rfl ?_
    iterate 5 refine ch_skip (gdv_f rfl rfl rfl) rfl ?_
    refine c0_ rfl rfl (r_pickF rfl) rfl rfl ?_
    refine c0_ rfl rfl .move rfl rfl ?_
    iterate 5 refine ch_skip (gdv_f rfl rfl rfl) rfl ?_
    refine c0_ rfl rfl (r_pickF rfl) rfl rfl ?_
    refine c0_ rfl rfl .assign rfl rfl ?_
    refine ch_n fun hU266_26 => ?_
    refine aw_r ?_
    obtain rfl := Option.some.inj hg
    exact ⟨[_], _, [], [], .cons (.tmp rfl) .nil, ⟨rfl, rfl⟩, .val _, trivial, rfl, rfl, rfl, rfl⟩
theorem w_law03_awake  (r : Bool) (hg : g_law03_awake = some r) : Fn Try.prog 4 0 [] [] (fun d b => d = .val (.bool r) ∧ b = []) := by
 unfold g_law03_awake at hg
 refine Fn.of Try.func4 rfl rfl rfl fun w0 I ρ0 => ?_
 show awp _ ⟨w0, I, ρ0, 0, 0, 56⟩ _ _ _
 refine sr_ 0 8 mk_U ?_
 refine c0_ rfl rfl .assign rfl rfl ?_
 refine ch_n fun hU8_1 => ?_
 refine sr_ 8 56 hU8_1 ?_
 refine c0_ rfl rfl (.build (r := [.val (.int .i64 5), .val (.int .i64 2048)]) und28 pl28 z28 (by kernel_rfl) rfl) rfl rfl ?_
 refine c0_ rfl rfl (.build (r := [.val (.int .i64 3), .val (.int .i64 0)]) und28 pl28 z28 (by kernel_rfl) rfl) rfl rfl ?_
 refine c0_ rfl rfl (r_buildFull sl29 z9 (by decide) rfl rfl rfl rfl ck9 (cs := [.str (⟨#[119, 101, 98]⟩ : ByteArray)]) (.cons .str .nil) rfl (l := ([(⟨#[119, 101, 98]⟩ : ByteArray)] : List ByteArray)) (f := eS) rfl) rfl rfl ?_
 refine c0_ rfl rfl (.build (r := [.val (.int .i64 0), .val (.string (⟨#[99, 97]⟩ : ByteArray)), .val (.string (⟨#[119, 101, 98]⟩ : ByteArray)), .val (.int .i64 5), .val (.int .i64 2048), .val (.int .i64 7), .val (.int .i64 3), .val (.int .i64 0), .val (.int .i64 0), .val (.int .i64 9), .val (.bool false), .val (.int .i64 0), .row 24, .val (.int .i64 0), .val (.int .i64 0)]) und33 pl33 z33 (by kernel_rfl) rfl) rfl rfl ?_
 refine c0_ rfl rfl (.alloc z33) rfl rfl ?_
 refine ch_s (rd := [40]) rfl rfl (r_storeB (ds' := [.val (.int .i64 0), .val (.string (⟨#[99, 97]⟩ : ByteArray)), .val (.string (⟨#[119, 101, 98]⟩ : ByteArray)), .val (.int .i64 5), .val (.int .i64 2048), .val (.int .i64 7), .val (.int .i64 3), .val (.int .i64 0), .val (.int .i64 0), .val (.int .i64 9), .val (.bool false), .val (.int .i64 0), .row 24, .val (.int .i64 0), .val (.int .i64 0)]) ty33 rfl (Nat.le_of_ble_eq_true rfl) rfl rfl) rfl rfl ?_
 refine ch_n fun hU56_2 => ?_
 refine awp_seq ?_
 refine awp_sub (σ' := mk [(1, .ptr 0 0)] [(0, .box [.val (.int .i64 0), .val (.string (⟨#[99, 97]⟩ : ByteArray)), .val (.string (⟨#[119, 101, 98]⟩ : ByteArray)), .val (.int .i64 5), .val (.int .i64 2048), .val (.int .i64 7), .val (.int .i64 3), .val (.int .i64 0), .val (.int .i64 0), .val (.int .i64 9), .val (.bool false), .val (.int .i64 0), .sl 1 (encL eS ([(⟨#[119, 101, 98]⟩ : ByteArray)] : List ByteArray)), .val (.int .i64 0), .val (.int .i64 0)] 33)] 1) (Sub.lists [(0, 40)] rfl rfl ⟨⟨_, rfl, .ptr rfl⟩, trivial⟩ ⟨.inl ⟨40, _, rfl, rfl, ⟨rfl, .cons (.val _) (.cons (.val _) (.cons (.val _) (.cons (.val _) (.cons (.val _) (.cons (.val _) (.cons (.val _) (.cons (.val _) (.cons (.val _) (.cons (.val _) (.cons (.val _) (.cons (.val _) (.cons (.frz rfl (look_ne rfl)) (.cons (.val _) (.cons (.val _) .nil))))))))))))))⟩⟩, trivial⟩) ?_
 refine awp_region (sys _ _ []) 1 65 mk_U rfl rfl ?_
 refine ch_s (rd := [0]) rfl rfl (.loadBA ty33 (Nat.le_of_ble_eq_true rfl)) rfl rfl ?_
 obtain ⟨y, hy, hg⟩ := bind_some hg
 refine ch_callP (rd := []) (ps := []) (gs := []) false rfl (w_certificate_Sign (api_Certificate.mk 0 (⟨#[99, 97]⟩ : ByteArray) (⟨#[119, 101, 98]⟩ : ByteArray) (api_Use.mk 5 2048) 7 (api_Use.mk 3 0) 0 9 false 0 ([(⟨#[119, 101, 98]⟩ : ByteArray)] : List ByteArray) (api_Seal.mk 0 0)) 3 _ hy) rfl rfl (.cons (.agg (.cons .val (.cons .val (.cons .val (.cons .val (.cons .val (.cons .val (.cons .val (.cons .val (.cons .val (.cons .val (.cons .val (.cons .val (.cons .sl (.cons .val (.cons .val .nil)))))))))))))))) (.cons .val .nil)) rfl rfl (by intro h; cases h) rfl rfl rfl rfl ?_
 refine c0_ rfl rfl .move rfl rfl ?_
 refine c0_ rfl rfl (.extract rfl) rfl rfl ?_
 refine c0_ rfl rfl (.extract rfl) rfl rfl ?_
 refine c0_ rfl rfl (.alloc z33) rfl rfl ?_
 refine ch_s (rd := [41]) rfl rfl (r_storeB (ds' := [.val (.int .i64 y.1.Serial), .val (.string y.1.Issuer), .val (.string y.1.Subject), .val (.int .i64 y.1.Key.Alg), .val (.int .i64 y.1.Key.Bits), .val (.int .i64 y.1.KeyId), .val (.int .i64 y.1.Hash.Alg), .val (.int .i64 y.1.Hash.Bits), .val (.int .i64 y.1.From), .val (.int .i64 y.1.To), .val (.bool y.1.Authority), .val (.int .i64 y.1.Path), .sl 1 (encL eS y.1.Names), .val (.int .i64 y.1.Seal.Key), .val (.int .i64 y.1.Seal.Sum)]) ty33 rfl (Nat.le_of_ble_eq_true rfl) rfl rfl) rfl rfl ?_
 refine c0_ rfl rfl .assign rfl rfl ?_
 refine ch_n fun hU65_3 => ?_
 refine sr_ 65 121 hU65_3 ?_
 refine ch_s (rd := [41]) rfl rfl (.loadBA ty33 (Nat.le_of_ble_eq_true rfl)) rfl rfl ?_
 obtain ⟨y_2, hy_2, hg⟩ := bind_some hg
 refine ch_callP (rd := []) (ps := []) (gs := []) false rfl (w_certificate_Encode y.1 _ hy_2) rfl rfl (.cons (.agg (.cons .val (.cons .val (.cons .val (.cons .val (.cons .val (.cons .val (.cons .val (.cons .val (.cons .val (.cons .val (.cons .val (.cons .val (.cons .sl (.cons .val (.cons .val .nil)))))))))))))))) .nil) rfl rfl (by intro h; cases h) rfl rfl rfl rfl ?_
 refine c0_ rfl rfl .move rfl rfl ?_
 refine c0_ rfl rfl (.extract rfl) rfl rfl ?_
 refine c0_ rfl rfl (.extract rfl) rfl rfl ?_
 refine c0_ rfl rfl .assign rfl rfl ?_
 refine c0_ rfl rfl .assign rfl rfl ?_
 refine ch_n fun hU121_4 => ?_
 refine sr_ 121 185 hU121_4 ?_
 refine c0_ rfl rfl .move rfl rfl ?_
 obtain ⟨y_3, hy_3, hg⟩ := bind_some hg
 refine ch_callP (rd := []) (ps := []) (gs := []) false rfl (w_certificate_Decode y_2.1 _ hy_3) rfl rfl (.cons .sl .nil) rfl rfl (by intro h; cases h) rfl rfl rfl rfl ?_
 refine c0_ rfl rfl .move rfl rfl ?_
 refine c0_ rfl rfl (.extract rfl) rfl rfl ?_
 refine c0_ rfl rfl (.extract rfl) rfl rfl ?_
 refine c0_ rfl rfl (.alloc z33) rfl rfl ?_
 refine ch_s (rd := [161]) rfl rfl (r_storeB (ds' := [.val (.int .i64 y_3.1.Serial), .val (.string y_3.1.Issuer), .val (.string y_3.1.Subject), .val (.int .i64 y_3.1.Key.Alg), .val (.int .i64 y_3.1.Key.Bits), .val (.int .i64 y_3.1.KeyId), .val (.int .i64 y_3.1.Hash.Alg), .val (.int .i64 y_3.1.Hash.Bits), .val (.int .i64 y_3.1.From), .val (.int .i64 y_3.1.To), .val (.bool y_3.1.Authority), .val (.int .i64 y_3.1.Path), .sl 1 (encL eS y_3.1.Names), .val (.int .i64 y_3.1.Seal.Key), .val (.int .i64 y_3.1.Seal.Sum)]) ty33 rfl (Nat.le_of_ble_eq_true rfl) rfl rfl) rfl rfl ?_
 refine c0_ rfl rfl .assign rfl rfl ?_
 refine ch_n fun hU185_5 => ?_
 refine sr_ 185 425 hU185_5 ?_
 refine c0_ rfl rfl .move rfl rfl ?_
 refine c0_ rfl rfl r_eql rfl rfl ?_
 refine c0_ rfl rfl .move rfl rfl ?_
 rcases Bool.eq_false_or_eq_true (decide (y.2 = 0)) with h6 | h6
 ·replace hg := cond_t h6 hg
  refine c0_ (gdv_t rfl rfl h6) rfl .move rfl rfl ?_
  refine c0_ (gdv_t rfl rfl h6) rfl r_eql rfl rfl ?_
  refine c0_ rfl rfl (r_pickT h6) rfl rfl ?_
  refine c0_ rfl rfl .move rfl rfl ?_
  rcases Bool.eq_false_or_eq_true (decide (y_2.2 = 0)) with h7 | h7
  ·replace hg := cond_t h7 hg
   refine c0_ (gdv_t rfl rfl h7) rfl .move rfl rfl ?_
   refine c0_ (gdv_t rfl rfl h7) rfl r_eql rfl rfl ?_
   refine c0_ rfl rfl (r_pickT h7) rfl rfl ?_
   refine c0_ rfl rfl .move rfl rfl ?_
   rcases Bool.eq_false_or_eq_true (decide (y_3.2 = 0)) with h8 | h8
   ·replace hg := cond_t h8 hg
    refine ch_s (rd := [41]) (gdv_t rfl rfl h8) rfl (.loadBA ty33 (Nat.le_of_ble_eq_true rfl)) rfl rfl ?_
    obtain ⟨y_4, hy_4, hg⟩ := bind_some hg
    refine ch_callP (rd := []) (ps := []) (gs := []) false (gdv_t rfl rfl h8) (w_certificate_Sealed y.1 3 _ hy_4) rfl rfl (.cons (.agg (.cons .val (.cons .val (.cons .val (.cons .val (.cons .val (.cons .val (.cons .val (.cons .val (.cons .val (.cons .val (.cons .val (.cons .val (.cons .sl (.cons .val (.cons .val .nil)))))))))))))))) (.cons .val .nil)) rfl rfl (by intro h; cases h) rfl rfl rfl rfl ?_
    refine c0_ rfl rfl (r_pickT h8) rfl rfl ?_
    refine c0_ rfl rfl .move rfl rfl ?_
    rcases Bool.eq_false_or_eq_true (y_4) with h9 | h9
    ·replace hg := cond_t h9 hg
     refine ch_s (rd := [41]) (gdv_t rfl rfl h9) rfl (.loadBA ty33 (Nat.le_of_ble_eq_true rfl)) rfl rfl ?_
     obtain ⟨y_5, hy_5, hg⟩ := bind_some hg
     refine ch_callP (rd := []) (ps := []) (gs := []) false (gdv_t rfl rfl h9) (w_certificate_Sealed y.1 4 _ hy_5) rfl rfl (.cons (.agg (.cons .val (.cons .val (.cons .val (.cons .val (.cons .val (.cons .val (.cons .val (.cons .val (.cons .val (.cons .val (.cons .val (.cons .val (.cons .sl (.cons .val (.cons .val .nil)))))))))))))))) (.cons .val .nil)) rfl rfl (by intro h; cases h) rfl rfl rfl rfl ?_
     refine c0_ (gdv_t rfl rfl h9) rfl r_not rfl rfl ?_
     refine c0_ rfl rfl (r_pickT h9) rfl rfl ?_
     refine c0_ rfl rfl .move rfl rfl ?_
     rcases Bool.eq_false_or_eq_true (!y_5) with h10 | h10
     ·replace hg := cond_t h10 hg
      refine ch_s (rd := [161]) (gdv_t rfl rfl h10) rfl (.loadBA ty33 (Nat.le_of_ble_eq_true rfl)) rfl rfl ?_
      refine ch_s (rd := [41]) (gdv_t rfl rfl h10) rfl (.loadBA ty33 (Nat.le_of_ble_eq_true rfl)) rfl rfl ?_
      obtain ⟨y_6, hy_6, hg⟩ := bind_some hg
      refine ch_callP (rd := []) (ps := []) (gs := []) false (gdv_t rfl rfl h10) (w_certificate_Same y_3.1 y.1 _ hy_6) rfl rfl (.cons (.agg (.cons .val (.cons .val (.cons .val (.cons .val (.cons .val (.cons .val (.cons .val (.cons .val (.cons .val (.cons .val (.cons .val (.cons .val (.cons .sl (.cons .val (.cons .val .nil)))))))))))))))) (.cons (.agg (.cons .val (.cons .val (.cons .val (.cons .val (.cons .val (.cons .val (.cons .val (.cons .val (.cons .val (.cons .val (.cons .val (.cons .val (.cons .sl (.cons .val (.cons .val .nil)))))))))))))))) .nil)) rfl rfl (by intro h; cases h) rfl rfl rfl rfl ?_
      refine c0_ rfl rfl (r_pickT h10) rfl rfl ?_
      refine c0_ rfl rfl .move rfl rfl ?_
      rcases Bool.eq_false_or_eq_true (y_6) with h11 | h11
      ·replace hg := cond_t h11 hg
       refine c0_ (gdv_t rfl rfl h11) rfl (r_buildFull sl22 z5 (by decide) rfl rfl rfl rfl ck5 (cs := [.int .u8 97]) (.cons .int .nil) rfl (l := ([(97 : UInt8)] : List UInt8)) (f := e8) rfl) rfl rfl ?_
       obtain ⟨y_7, hy_7, hg⟩ := bind_some hg
       refine ch_callP (rd := [385]) (ps := []) (gs := []) true (gdv_t rfl rfl h11) (w_certificate_Sum ([(97 : UInt8)] : List UInt8) _ hy_7) rfl rfl (.cons (.row rfl (.head _) rfl) .nil) rfl rfl (fun _ => ⟨by simp [flatD, flatDs], by simp [flatB, flatDs, flatD]⟩) rfl rfl rfl rfl ?_
       refine c0_ (gdv_t rfl rfl h11) rfl r_eql rfl rfl ?_
       refine c0_ rfl rfl (r_pickT h11) rfl rfl ?_
       refine c0_ rfl rfl .assign rfl rfl ?_
       refine ch_n fun hU425_12 => ?_
       refine aw_r ?_
       obtain rfl := Option.some.inj hg
       exact ⟨[_], _, [], [], .cons (.tmp rfl) .nil, ⟨rfl, rfl⟩, .val _, trivial, rfl, rfl, rfl, rfl⟩
      ·replace hg := cond_f h11 hg
       iterate 3 refine ch_skip (gdv_f rfl rfl h11) rfl ?_
       refine c0_ rfl rfl (r_pickF h11) rfl rfl ?_
       refine c0_ rfl rfl .assign rfl rfl ?_
       refine ch_n fun hU425_13 => ?_
       refine aw_r ?_
       obtain rfl := Option.some.inj hg
       exact ⟨[_], _, [], [], .cons (.tmp rfl) .nil, ⟨rfl, rfl⟩, .val _, trivial, rfl, rfl, rfl, rfl⟩
     ·replace hg := cond_f h10 hg
      iterate 3 refine ch_skip (gdv_f rfl rfl h10) rfl ?_
      refine c0_ rfl rfl (r_pickF h10) rfl rfl ?_
      refine c0_ rfl rfl .move rfl rfl ?_
      iterate 3 refine ch_skip (gdv_f rfl rfl rfl) rfl ?_
      refine c0_ rfl rfl (r_pickF rfl) rfl rfl ?_
      refine c0_ rfl rfl .assign rfl rfl ?_
      refine ch_n fun hU425_14 => ?_
      refine aw_r ?_
      obtain rfl := Option.some.inj hg
      exact ⟨[_], _, [], [], .cons (.tmp rfl) .nil, ⟨rfl, rfl⟩, .val _, trivial, rfl, rfl, rfl, rfl⟩
    ·replace hg := cond_f h9 hg
     iterate 3 refine ch_skip (gdv_f rfl rfl h9) rfl ?_
     refine c0_ rfl rfl (r_pickF h9) rfl rfl ?_
     refine c0_ rfl rfl .move rfl rfl ?_
     iterate 3 refine ch_skip (gdv_f rfl rfl rfl) rfl ?_
     refine c0_ rfl rfl (r_pickF rfl) rfl rfl ?_
     refine c0_ rfl rfl .move rfl rfl ?_
     iterate 3 refine ch_skip (gdv_f rfl rfl rfl) rfl ?_
     refine c0_ rfl rfl (r_pickF rfl) rfl rfl ?_
     refine c0_ rfl rfl .assign rfl rfl ?_
     refine ch_n fun hU425_15 => ?_
     refine aw_r ?_
     obtain rfl := Option.some.inj hg
     exact ⟨[_], _, [], [], .cons (.tmp rfl) .nil, ⟨rfl, rfl⟩, .val _, trivial, rfl, rfl, rfl, rfl⟩
   ·replace hg := cond_f h8 hg
    refine ch_skip (gdv_f rfl rfl h8) rfl ?_
    refine ch_skip (gdv_f rfl rfl h8) rfl ?_
    refine c0_ rfl rfl (r_pickF h8) rfl rfl ?_
    refine c0_ rfl rfl .move rfl rfl ?_
    iterate 3 refine ch_skip (gdv_f rfl rfl rfl) rfl ?_
    refine c0_ rfl rfl (r_pickF rfl) rfl rfl ?_
    refine c0_ rfl rfl .move rfl rfl ?_
    iterate 3 refine ch_skip (gdv_f rfl rfl rfl) rfl ?_
    refine c0_ rfl rfl (r_pickF rfl) rfl rfl ?_
    refine c0_ rfl rfl .move rfl rfl ?_
    iterate 3 refine ch_skip (gdv_f rfl rfl rfl) rfl ?_
    refine c0_ rfl rfl (r_pickF rfl) rfl rfl ?_
    refine c0_ rfl rfl .assign rfl rfl ?_
    refine ch_n fun hU425_16 => ?_
    refine aw_r ?_
    obtain rfl := Option.some.inj hg
    exact ⟨[_], _, [], [], .cons (.tmp rfl) .nil, ⟨rfl, rfl⟩, .val _, trivial, rfl, rfl, rfl, rfl⟩
  ·replace hg := cond_f h7 hg
   refine ch_skip (gdv_f rfl rfl h7) rfl ?_
   refine ch_skip (gdv_f rfl rfl h7) rfl ?_
   refine c0_ rfl rfl (r_pickF h7) rfl rfl ?_
   refine c0_ rfl rfl .move rfl rfl ?_
   refine ch_skip (gdv_f rfl rfl rfl) rfl ?_
   refine ch_skip (gdv_f rfl rfl rfl) rfl ?_
   refine c0_ rfl rfl (r_pickF rfl) rfl rfl ?_
   refine c0_ rfl rfl .move rfl rfl ?_
   iterate 3 refine ch_skip (gdv_f rfl rfl rfl) rfl ?_
   refine c0_ rfl rfl (r_pickF rfl) rfl rfl ?_
   refine c0_ rfl rfl .move rfl rfl ?_
   iterate 3 refine ch_skip (gdv_f rfl rfl rfl) rfl ?_
   refine c0_ rfl rfl (r_pickF rfl) rfl rfl ?_
   refine c0_ rfl rfl .move rfl rfl ?_
   iterate 3 refine ch_skip (gdv_f rfl rfl rfl) rfl ?_
   refine c0_ rfl rfl (r_pickF rfl) rfl rfl ?_
   refine c0_ rfl rfl .assign rfl rfl ?_
   refine ch_n fun hU425_17 => ?_
   refine aw_r ?_
   obtain rfl := Option.some.inj hg
   exact ⟨[_], _, [], [], .cons (.tmp rfl) .nil, ⟨rfl, rfl⟩, .val _, trivial, rfl, rfl, rfl, rfl⟩
 ·replace hg := cond_f h6 hg
  refine ch_skip (gdv_f rfl rfl h6) rfl ?_
  refine ch_skip (gdv_f rfl rfl h6) rfl ?_
  refine c0_ rfl rfl (r_pickF h6) rfl rfl ?_
  refine c0_ rfl rfl .move rfl rfl ?_
  refine ch_skip (gdv_f rfl rfl rfl) rfl ?_
  refine ch_skip (gdv_f rfl rfl rfl) rfl ?_
  refine c0_ rfl rfl (r_pickF rfl) rfl rfl ?_
  refine c0_ rfl rfl .move rfl rfl ?_
  refine ch_skip (gdv_f rfl rfl rfl) rfl ?_
  refine ch_skip (gdv_f rfl rfl rfl) rfl ?_
  refine c0_ rfl rfl (r_pickF rfl) rfl rfl ?_
  refine c0_ rfl rfl .move rfl rfl ?_
  iterate 3 refine ch_skip (gdv_f rfl rfl rfl) rfl ?_
  refine c0_ rfl rfl (r_pickF rfl) rfl rfl ?_
  refine c0_ rfl rfl .move rfl rfl ?_
  iterate 3 refine ch_skip (gdv_f rfl rfl rfl) rfl ?_
  refine c0_ rfl rfl (r_pickF rfl) rfl rfl ?_
  refine c0_ rfl rfl .move rfl rfl ?_
  iterate 3 refine ch_skip (gdv_f rfl rfl rfl) rfl ?_
  refine c0_ rfl rfl (r_pickF rfl) rfl rfl ?_
  refine c0_ rfl rfl .assign rfl rfl ?_
  refine ch_n fun hU425_18 => ?_
  refine aw_r ?_
  obtain rfl := Option.some.inj hg
  exact ⟨[_], _, [], [], .cons (.tmp rfl) .nil, ⟨rfl, rfl⟩, .val _, trivial, rfl, rfl, rfl, rfl⟩
theorem w_ref03_Sum (b : (List UInt8)) (r : Int) (hg : g_ref03_Sum b = some r) : Fn Try.prog 6 0 [.sl 1 (encL e8 b)] [] (fun d b => d = .val (.int .i64 r) ∧ b = []) := by
 unfold g_ref03_Sum at hg
 refine Fn.of Try.func6 rfl rfl rfl fun w0 I ρ0 => ?_
 show awp _ ⟨w0, I, ρ0, 0, 0, 21⟩ _ _ _
 refine sr_ 0 8 mk_U ?_
 refine c0_ rfl rfl .assign rfl rfl ?_
 refine ch_n fun hU8_1 => ?_
 refine sr_ 8 16 hU8_1 ?_
 refine c0_ rfl rfl .assign rfl rfl ?_
 refine ch_n fun hU16_2 => ?_
 refine awp_seq ?_
 refine sr_ 16 24 hU16_2 ?_
 refine c0_ rfl rfl .assign rfl rfl ?_
 refine ch_n fun hU24_3 => ?_
 refine awp_block ?_
 obtain ⟨n1, hg⟩ := loop_some hg
 refine awp_loop (ι := (Int × Int) × Nat) (fun (((h_1, i_1), _) : (Int × Int) × Nat) => mk [(0, .sl 1 (encL e8 b)), (3, .val (.int .u32 h_1)), (4, .val (.int .i64 i_1))] [] 0) (fun (((h_1, i_1), nq') : (Int × Int) × Nat) => iter (fun q' => g_ref03_Sum.l1 b q'.1 q'.2) nq' (h_1, i_1) = some r) (fun q => q.2) ((2166136261, 0), n1) (Sub.lists [] rfl rfl ⟨⟨_, rfl, .sl _ _⟩, ⟨_, rfl, .val _⟩, ⟨_, rfl, .val _⟩, trivial⟩ trivial) hg ?_
 rintro ⟨⟨h_1, i_1⟩, n1⟩ hg
 obtain ⟨m1, o1, rfl, hg, hn1⟩ := iter_some (show iter (fun q' => g_ref03_Sum.l1 b q'.1 q'.2) n1 (h_1, i_1) = some r from hg)
 replace hg : g_ref03_Sum.l1 b h_1 i_1 = some o1 := hg
 show awp _ _ _ _ (mk _ _ _)
 unfold g_ref03_Sum.l1 at hg
 refine awp_seq ?_
 refine sr_ 0 32 mk_U ?_
 refine c0_ rfl rfl .move rfl rfl ?_
 refine c0_ rfl rfl .move rfl rfl ?_
 refine c0_ rfl rfl (r_lenS sl22 e8_len) rfl rfl ?_
 refine c0_ rfl rfl r_lss rfl rfl ?_
 refine ch_n fun hU32_4 => ?_
 refine awp_cond rfl (fun h5 => ?_) (fun h5 => ?_)
 ·replace hg := cond_t h5 hg
  refine aw_s ?_
  refine awp_seq ?_
  refine awp_block ?_
  refine awp_region (sys _ _ []) 32 104 hU32_4 rfl rfl ?_
  iterate 3 refine c0_ rfl rfl .move rfl rfl ?_
  obtain ⟨e, he, hg⟩ := bind_some hg
  refine c0_ rfl rfl (r_idxS sl22 e8_len (getI_ix he) (getI_at he)) rfl rfl ?_
  refine c0_ rfl rfl (r_loadE1 ty5 (enc_cell e8_len (getI_at he) (o := 0) (c := .int .u8 (e.toNat : Int)) rfl rfl)) rfl rfl ?_
  refine c0_ rfl rfl (r_convK und5 und42) rfl rfl ?_
  refine c0_ rfl rfl r_xorK rfl rfl ?_
  refine c0_ rfl rfl r_mulK rfl rfl ?_
  refine c0_ rfl rfl .assign rfl rfl ?_
  refine ch_n fun hU104_6 => ?_
  refine awp_region (sys _ _ []) 104 128 hU104_6 rfl rfl ?_
  refine c0_ rfl rfl .move rfl rfl ?_
  refine c0_ rfl rfl r_add rfl rfl ?_
  refine c0_ rfl rfl .assign rfl rfl ?_
  refine ch_n fun hU128_7 => ?_
  obtain rfl := Option.some.inj hg
  exact ⟨((IntKind.wrap .u32 ((xorK .u32 h_1 (IntKind.wrap .u32 (e.toNat : Int))) * 16777619), W (i_1 + 1)), m1), Nat.lt_succ_self _, hn1, Sub.lists [] rfl rfl ⟨⟨_, rfl, .sl _ _⟩, ⟨_, rfl, .val _⟩, ⟨_, rfl, .val _⟩, trivial⟩ trivial⟩
 ·replace hg := cond_f h5 hg
  refine awp_exit ?_
  repeat first | refine st_ ?_ | refine sn_ ?_
  replace hg := leave hg hn1
  refine sr_ 32 56 hU32_4 ?_
  refine c0_ rfl rfl .move rfl rfl ?_
  refine c0_ rfl rfl (r_conv_i64 und42 und3) rfl rfl ?_
  refine c0_ rfl rfl .assign rfl rfl ?_
  refine ch_n fun hU56_8 => ?_
  refine aw_r ?_
  obtain rfl := Option.some.inj hg
  exact ⟨[_], _, [], [], .cons (.tmp rfl) .nil, ⟨rfl, rfl⟩, .val _, trivial, rfl, rfl, rfl, rfl⟩
theorem w_make_Mod (n : Int) (k : Int) (r : Int) (hg : g_make_Mod n k = some r) : Fn Try.prog 7 0 [.val (.int .i64 n), .val (.int .i64 k)] [] (fun d b => d = .val (.int .i64 r) ∧ b = []) := by
 unfold g_make_Mod at hg
 refine Fn.of Try.func7 rfl rfl rfl fun w0 I ρ0 => ?_
 show awp _ ⟨w0, I, ρ0, 0, 0, 14⟩ _ _ _
 refine sr_ 0 8 mk_U ?_
 refine c0_ rfl rfl .assign rfl rfl ?_
 refine ch_n fun hU8_1 => ?_
 refine awp_seq ?_
 refine sr_ 8 24 hU8_1 ?_
 refine c0_ rfl rfl .move rfl rfl ?_
 refine c0_ rfl rfl r_lss rfl rfl ?_
 refine ch_n fun hU24_2 => ?_
 refine awp_cond rfl (fun h3 => ?_) (fun h3 => ?_)
 ·replace hg := cond_t h3 hg
  refine sr_ 24 32 hU24_2 ?_
  refine c0_ rfl rfl .assign rfl rfl ?_
  refine ch_n fun hU32_4 => ?_
  refine aw_r ?_
  obtain rfl := Option.some.inj hg
  exact ⟨[_], _, [], [], .cons (.tmp rfl) .nil, ⟨rfl, rfl⟩, .val _, trivial, rfl, rfl, rfl, rfl⟩
 ·replace hg := cond_f h3 hg
  refine aw_s ?_
  refine sr_ 24 88 hU24_2 ?_
  refine c0_ rfl rfl .move rfl rfl ?_
  refine c0_ rfl rfl .move rfl rfl ?_
  obtain ⟨q, hq, hg⟩ := bind_some hg
  refine c0_ rfl rfl (r_rem hq) rfl rfl ?_
  refine c0_ rfl rfl .move rfl rfl ?_
  refine c0_ rfl rfl r_add rfl rfl ?_
  refine c0_ rfl rfl .move rfl rfl ?_
  obtain ⟨q_2, hq_2, hg⟩ := bind_some hg
  refine c0_ rfl rfl (r_rem hq_2) rfl rfl ?_
  refine c0_ rfl rfl .assign rfl rfl ?_
  refine ch_n fun hU88_5 => ?_
  refine aw_r ?_
  obtain rfl := Option.some.inj hg
  exact ⟨[_], _, [], [], .cons (.tmp rfl) .nil, ⟨rfl, rfl⟩, .val _, trivial, rfl, rfl, rfl, rfl⟩
theorem w_law03_CertificateSums (b : (List UInt8)) (at' : Int) (by' : UInt8) (r : Bool) (hg : g_law03_CertificateSums b at' by' = some r) : Fn Try.prog 3 0 [.sl 1 (encL e8 b), .val (.int .i64 at'), .val (.int .u8 (by'.toNat : Int))] [] (fun d b => d = .val (.bool r) ∧ b = []) := by
 unfold g_law03_CertificateSums at hg
 refine Fn.of Try.func3 rfl rfl rfl fun w0 I ρ0 => ?_
 show awp _ ⟨w0, I, ρ0, 0, 0, 57⟩ _ _ _
 refine sr_ 0 8 mk_U ?_
 refine c0_ rfl rfl .assign rfl rfl ?_
 refine ch_n fun hU8_1 => ?_
 refine awp_seq ?_
 refine sr_ 8 32 hU8_1 ?_
 refine c0_ rfl rfl .move rfl rfl ?_
 refine c0_ rfl rfl (r_lenS sl22 e8_len) rfl rfl ?_
 refine c0_ rfl rfl r_gtr rfl rfl ?_
 refine ch_n fun hU32_2 => ?_
 refine awp_cond rfl (fun h3 => ?_) (fun h3 => ?_)
 ·replace hg := cond_t h3 hg
  refine sr_ 32 48 hU32_2 ?_
  obtain ⟨y, hy, hg⟩ := bind_some hg
  refine ch_callP (rd := []) (ps := []) (gs := []) false rfl (w_law03_awake  _ hy) rfl rfl .nil rfl rfl (by intro h; cases h) rfl rfl rfl rfl ?_
  refine c0_ rfl rfl .assign rfl rfl ?_
  refine ch_n fun hU48_4 => ?_
  refine aw_r ?_
  obtain rfl := Option.some.inj hg
  exact ⟨[_], _, [], [], .cons (.tmp rfl) .nil, ⟨rfl, rfl⟩, .val _, trivial, rfl, rfl, rfl, rfl⟩
 ·replace hg := cond_f h3 hg
  refine aw_s ?_
  refine sr_ 32 56 hU32_2 ?_
  refine c0_ rfl rfl .move rfl rfl ?_
  obtain ⟨y_2, hy_2, hg⟩ := bind_some hg
  refine ch_callP (rd := []) (ps := []) (gs := []) false rfl (w_certificate_Sum b _ hy_2) rfl rfl (.cons .sl .nil) rfl rfl (by intro h; cases h) rfl rfl rfl rfl ?_
  refine c0_ rfl rfl .assign rfl rfl ?_
  refine ch_n fun hU56_5 => ?_
  refine awp_seq ?_
  refine awp_cut (ι := Bool) (fun (x27_1 : Bool) => mk [(0, .sl 1 (encL e8 b)), (1, .val (.int .i64 at')), (2, .val (.int .u8 (by'.toNat : Int))), (7, .val (.int .i64 y_2)), (27, .val (.bool x27_1))] [] 0) (fun (x27_1 : Bool) => g_law03_CertificateSums.j1 b at' by' y_2 x27_1 = some r) ?_ ?_
  ·refine awp_region (sys _ _ []) 56 152 hU56_5 rfl rfl ?_
   refine c0_ rfl rfl .move rfl rfl ?_
   refine c0_ rfl rfl .move rfl rfl ?_
   obtain ⟨y_3, hy_3, hg⟩ := bind_some hg
   refine ch_callP (rd := []) (ps := []) (gs := []) false rfl (w_ref03_Sum b _ hy_3) rfl rfl (.cons .sl .nil) rfl rfl (by intro h; cases h) rfl rfl rfl rfl ?_
   refine c0_ rfl rfl r_neq rfl rfl ?_
   refine c0_ rfl rfl .move rfl rfl ?_
   rcases Bool.eq_false_or_eq_true (!decide (y_2 = y_3)) with h6 | h6
   ·replace hg := cond_t h6 hg
    refine ch_skip (gdv_f rfl rfl h6) rfl ?_
    refine ch_skip (gdv_f rfl rfl h6) rfl ?_
    refine c0_ rfl rfl (r_pickT h6) rfl rfl ?_
    refine c0_ rfl rfl .move rfl rfl ?_
    refine ch_skip (gdv_f rfl rfl rfl) rfl ?_
    refine ch_skip (gdv_f rfl rfl rfl) rfl ?_
    refine c0_ rfl rfl (r_pickT rfl) rfl rfl ?_
    refine ch_n fun hU152_7 => ?_
    exact ⟨true, hg, Sub.lists [] rfl rfl ⟨⟨_, rfl, .sl _ _⟩, ⟨_, rfl, .val _⟩, ⟨_, rfl, .val _⟩, ⟨_, rfl, .val _⟩, ⟨_, rfl, .val _⟩, trivial⟩ trivial⟩
   ·replace hg := cond_f h6 hg
    refine c0_ (gdv_t rfl rfl h6) rfl .move rfl rfl ?_
    refine c0_ (gdv_t rfl rfl h6) rfl r_lss rfl rfl ?_
    refine c0_ rfl rfl (r_pickF h6) rfl rfl ?_
    refine c0_ rfl rfl .move rfl rfl ?_
    rcases Bool.eq_false_or_eq_true (decide (y_2 < 0)) with h8 | h8
    ·replace hg := cond_t h8 hg
     refine ch_skip (gdv_f rfl rfl h8) rfl ?_
     refine ch_skip (gdv_f rfl rfl h8) rfl ?_
     refine c0_ rfl rfl (r_pickT h8) rfl rfl ?_
     refine ch_n fun hU152_9 => ?_
     exact ⟨true, hg, Sub.lists [] rfl rfl ⟨⟨_, rfl, .sl _ _⟩, ⟨_, rfl, .val _⟩, ⟨_, rfl, .val _⟩, ⟨_, rfl, .val _⟩, ⟨_, rfl, .val _⟩, trivial⟩ trivial⟩
    ·replace hg := cond_f h8 hg
     refine c0_ (gdv_t rfl rfl h8) rfl .move rfl rfl ?_
     refine c0_ (gdv_t rfl rfl h8) rfl r_geq rfl rfl ?_
     refine c0_ rfl rfl (r_pickF h8) rfl rfl ?_
     refine ch_n fun hU152_10 => ?_
     exact ⟨decide (4294967296 ≤ y_2), hg, Sub.lists [] rfl rfl ⟨⟨_, rfl, .sl _ _⟩, ⟨_, rfl, .val _⟩, ⟨_, rfl, .val _⟩, ⟨_, rfl, .val _⟩, ⟨_, rfl, .val _⟩, trivial⟩ trivial⟩
  ·rintro x27_1 hg
   replace hg : g_law03_CertificateSums.j1 b at' by' y_2 x27_1 = some r := hg
   show awp _ _ _ _ (mk _ _ _)
   unfold g_law03_CertificateSums.j1 at hg
   refine awp_cond rfl (fun h11 => ?_) (fun h11 => ?_)
   ·replace hg := cond_t h11 hg
    refine sr_ 0 8 mk_U ?_
    refine c0_ rfl rfl .assign rfl rfl ?_
    refine ch_n fun hU8_12 => ?_
    refine aw_r ?_
    obtain rfl := Option.some.inj hg
    exact ⟨[_], _, [], [], .cons (.tmp rfl) .nil, ⟨rfl, rfl⟩, .val _, trivial, rfl, rfl, rfl, rfl⟩
   ·replace hg := cond_f h11 hg
    refine aw_s ?_
    refine awp_seq ?_
    refine sr_ 0 24 mk_U ?_
    refine c0_ rfl rfl .move rfl rfl ?_
    refine c0_ rfl rfl (r_lenS sl22 e8_len) rfl rfl ?_
    refine c0_ rfl rfl r_eql rfl rfl ?_
    refine ch_n fun hU24_13 => ?_
    refine awp_cond rfl (fun h14 => ?_) (fun h14 => ?_)
    ·replace hg := cond_t h14 hg
     refine sr_ 24 40 hU24_13 ?_
     obtain ⟨y_4, hy_4, hg⟩ := bind_some hg
     refine ch_callP (rd := []) (ps := []) (gs := []) false rfl (w_law03_awake  _ hy_4) rfl rfl .nil rfl rfl (by intro h; cases h) rfl rfl rfl rfl ?_
     refine c0_ rfl rfl .assign rfl rfl ?_
     refine ch_n fun hU40_15 => ?_
     refine aw_r ?_
     obtain rfl := Option.some.inj hg
     exact ⟨[_], _, [], [], .cons (.tmp rfl) .nil, ⟨rfl, rfl⟩, .val _, trivial, rfl, rfl, rfl, rfl⟩
    ·replace hg := cond_f h14 hg
     refine aw_s ?_
     refine sr_ 24 56 hU24_13 ?_
     refine c0_ rfl rfl (r_buildFull sl22 z5 (by decide) rfl rfl rfl rfl ck5 (cs := []) .nil rfl (l := ([] : List UInt8)) (f := e8) rfl) rfl rfl ?_
     refine c0_ rfl rfl .move rfl rfl ?_
     obtain ⟨l, hl, hg⟩ := bind_some hg
     refine ch_s (rd := [24]) rfl rfl (r_append sl22 e8_len .row rfl .sl rfl hl rfl) rfl rfl ?_
     refine c0_ rfl rfl .assign rfl rfl ?_
     refine ch_n fun hU56_16 => ?_
     refine sr_ 56 96 hU56_16 ?_
     refine c0_ rfl rfl .move rfl rfl ?_
     refine c0_ rfl rfl .move rfl rfl ?_
     refine ch_s (rd := [40]) rfl rfl (r_lenR sl22 e8_len) rfl rfl ?_
     obtain ⟨y_5, hy_5, hg⟩ := bind_some hg
     refine ch_callP (rd := []) (ps := []) (gs := []) false rfl (w_make_Mod at' (l.length : Int) _ hy_5) rfl rfl (.cons .val (.cons .val .nil)) rfl rfl (by intro h; cases h) rfl rfl rfl rfl ?_
     refine c0_ rfl rfl .assign rfl rfl ?_
     refine ch_n fun hU96_17 => ?_
     refine sr_ 96 136 hU96_17 ?_
     iterate 3 refine c0_ rfl rfl .move rfl rfl ?_
     obtain ⟨e, he, hg⟩ := bind_some hg
     refine ch_s (rd := [40]) rfl rfl (r_idxR sl22 e8_len (getI_ix he) (getI_at he)) rfl rfl ?_
     refine ch_s (rd := [40]) rfl rfl (r_storeR ty5 rfl (enc_cells_le e8_len (getI_at he) (o := 0) (m := 1) (by decide) rfl) ck5 (cs' := [.int .u8 (by'.toNat : Int)]) (.cons .int .nil) (enc_splice e8_len (getI_at he) (o := 0) (x' := by') (Nat.le_of_ble_eq_true rfl) rfl rfl)) rfl rfl ?_
     refine ch_n fun hU136_18 => ?_
     refine awp_seq ?_
     refine awp_draw (sys _ _ []) (by kernel_rfl) [0, 1, 0, 7, 0, 0, 0, 96, 224, 496, 1023, 2047, 4095, 8191, 16383] 136 256 hU136_18 rfl rfl (by kernel_rfl) ?_
     refine c0_ rfl rfl .move rfl rfl ?_
     obtain ⟨y_6, hy_6, hg⟩ := bind_some hg
     refine ch_callP (rd := [40]) (ps := []) (gs := []) true rfl (w_certificate_Sum (setI l ((y_5).toNat) by') _ hy_6) rfl rfl (.cons (.row rfl (.head _) rfl) .nil) rfl rfl (fun _ => ⟨by simp [flatD, flatDs], by simp [flatB, flatDs, flatD]⟩) rfl rfl rfl rfl ?_
     refine c0_ rfl rfl .move rfl rfl ?_
     refine c0_ rfl rfl r_eql rfl rfl ?_
     iterate 3 refine c0_ rfl rfl .move rfl rfl ?_
     obtain ⟨e_2, he_2, hg⟩ := bind_some hg
     refine c0_ rfl rfl (r_idxS sl22 e8_len (getI_ix he_2) (getI_at he_2)) rfl rfl ?_
     refine c0_ rfl rfl (r_loadE1 ty5 (enc_cell e8_len (getI_at he_2) (o := 0) (c := .int .u8 (e_2.toNat : Int)) rfl rfl)) rfl rfl ?_
     refine c0_ rfl rfl r_eql rfl rfl ?_
     refine c0_ rfl rfl (r_beql und4) rfl rfl ?_
     refine c0_ rfl rfl .move rfl rfl ?_
     rcases Bool.eq_false_or_eq_true (decide ((decide (y_6 = y_2)) = (decide ((by'.toNat : Int) = (e_2.toNat : Int))))) with h19 | h19
     ·replace hg := cond_t h19 hg
      obtain ⟨y_7, hy_7, hg⟩ := bind_some hg
      refine ch_callP (rd := []) (ps := []) (gs := []) false (gdv_t rfl rfl h19) (w_law03_awake  _ hy_7) rfl rfl .nil rfl rfl (by intro h; cases h) rfl rfl rfl rfl ?_
      refine c0_ rfl rfl (r_pickT h19) rfl rfl ?_
      refine c0_ rfl rfl .assign rfl rfl ?_
      refine ch_n fun hU256_20 => ?_
      refine aw_r ?_
      obtain rfl := Option.some.inj hg
      exact ⟨[_], _, [], [], .cons (.tmp rfl) .nil, ⟨rfl, rfl⟩, .val _, trivial, rfl, rfl, rfl, rfl⟩
     ·replace hg := cond_f h19 hg
      refine ch_skip (gdv_f rfl rfl h19) rfl ?_
      refine c0_ rfl rfl (r_pickF h19) rfl rfl ?_
      refine c0_ rfl rfl .assign rfl rfl ?_
      refine ch_n fun hU256_21 => ?_
      refine aw_r ?_
      obtain rfl := Option.some.inj hg
      exact ⟨[_], _, [], [], .cons (.tmp rfl) .nil, ⟨rfl, rfl⟩, .val _, trivial, rfl, rfl, rfl, rfl⟩
end Go.Proofs.Ytlcfdnjokgbccaa
