/- The program computes the plain functions. -/
import Derived.Test.YtadjcdhcdmiifaaT1
import Derived.Test.YtadjcdhcdmiifaaA3
set_option linter.unusedVariables false
set_option linter.unusedSimpArgs false
set_option maxRecDepth 100000
set_option maxHeartbeats 1600000
namespace Go.Proofs.Ytadjcdhcdmiifaa
open Go.RowKit
theorem w_certificate_Check (c : api_Certificate) (r : Int) (hg : g_certificate_Check c = some r) : Fn Try.prog 32 0 [.agg [.val (.int .i64 c.Serial), .val (.string c.Issuer), .val (.string c.Subject), .val (.int .i64 c.Key.Alg), .val (.int .i64 c.Key.Bits), .val (.int .i64 c.KeyId), .val (.int .i64 c.Hash.Alg), .val (.int .i64 c.Hash.Bits), .val (.int .i64 c.From), .val (.int .i64 c.To), .val (.bool c.Authority), .val (.int .i64 c.Path), .sl 1 (encL eS c.Names), .val (.int .i64 c.Seal.Key), .val (.int .i64 c.Seal.Sum)]] [] (fun d b => d = .val (.int .i64 r) ∧ b = []) := by
 unfold g_certificate_Check at hg
 refine Fn.of Try.func32 rfl rfl rfl fun w0 I ρ0 => ?_
 show awp _ ⟨w0, I, ρ0, 0, 0, 6⟩ _ _ _
 refine sr_ 0 16 mk_U ?_
 refine c0_ rfl rfl (.box rfl) rfl rfl ?_
 refine c0_ rfl rfl .assign rfl rfl ?_
 refine ch_n fun hU16_1 => ?_
 refine awp_seq ?_
 refine sr_ 16 40 hU16_1 ?_
 refine ch_s (rd := [0]) rfl rfl (.loadBA ty45 (Nat.le_of_ble_eq_true rfl)) rfl rfl ?_
 obtain ⟨y, hy, hg⟩ := bind_some hg
 refine ch_callP (rd := []) (ps := []) (gs := []) false rfl (w_certificate_valid c _ hy) rfl rfl (.cons (.agg (.cons .val (.cons .val (.cons .val (.cons .val (.cons .val (.cons .val (.cons .val (.cons .val (.cons .val (.cons .val (.cons .val (.cons .val (.cons .sl (.cons .val (.cons .val .nil)))))))))))))))) .nil) rfl rfl (by intro h; cases h) rfl rfl rfl rfl ?_
 refine c0_ rfl rfl r_not rfl rfl ?_
 refine ch_n fun hU40_2 => ?_
 refine awp_cond rfl (fun h3 => ?_) (fun h3 => ?_)
 ·replace hg := cond_t h3 hg
  refine sr_ 40 48 hU40_2 ?_
  refine c0_ rfl rfl .assign rfl rfl ?_
  refine ch_n fun hU48_4 => ?_
  refine aw_r ?_
  obtain rfl := Option.some.inj hg
  exact ⟨[_], _, [], [], .cons (.tmp rfl) .nil, ⟨rfl, rfl⟩, .val _, trivial, rfl, rfl, rfl, rfl⟩
 ·replace hg := cond_f h3 hg
  refine aw_s ?_
  refine sr_ 40 48 hU40_2 ?_
  refine c0_ rfl rfl .assign rfl rfl ?_
  refine ch_n fun hU48_5 => ?_
  refine aw_r ?_
  obtain rfl := Option.some.inj hg
  exact ⟨[_], _, [], [], .cons (.tmp rfl) .nil, ⟨rfl, rfl⟩, .val _, trivial, rfl, rfl, rfl, rfl⟩
theorem w_chain_Check_c1 (c : api_Certificate) (r : Bool) (hg : g_chain_Check_c1 c = some r) : Fn Try.prog 31 0 [.agg [.val (.int .i64 c.Serial), .val (.string c.Issuer), .val (.string c.Subject), .val (.int .i64 c.Key.Alg), .val (.int .i64 c.Key.Bits), .val (.int .i64 c.KeyId), .val (.int .i64 c.Hash.Alg), .val (.int .i64 c.Hash.Bits), .val (.int .i64 c.From), .val (.int .i64 c.To), .val (.bool c.Authority), .val (.int .i64 c.Path), .sl 1 (encL eS c.Names), .val (.int .i64 c.Seal.Key), .val (.int .i64 c.Seal.Sum)]] [] (fun d b => d = .val (.bool r) ∧ b = []) := by
 unfold g_chain_Check_c1 at hg
 refine Fn.of Try.func31 rfl rfl rfl fun w0 I ρ0 => ?_
 show awp _ ⟨w0, I, ρ0, 0, 0, 6⟩ _ _ _
 refine sr_ 0 16 mk_U ?_
 refine c0_ rfl rfl (.box rfl) rfl rfl ?_
 refine c0_ rfl rfl .assign rfl rfl ?_
 refine ch_n fun hU16_1 => ?_
 refine sr_ 16 48 hU16_1 ?_
 refine ch_s (rd := [0]) rfl rfl (.loadBA ty45 (Nat.le_of_ble_eq_true rfl)) rfl rfl ?_
 obtain ⟨y, hy, hg⟩ := bind_some hg
 refine ch_callP (rd := []) (ps := []) (gs := []) false rfl (w_certificate_Check c _ hy) rfl rfl (.cons (.agg (.cons .val (.cons .val (.cons .val (.cons .val (.cons .val (.cons .val (.cons .val (.cons .val (.cons .val (.cons .val (.cons .val (.cons .val (.cons .sl (.cons .val (.cons .val .nil)))))))))))))))) .nil) rfl rfl (by intro h; cases h) rfl rfl rfl rfl ?_
 refine c0_ rfl rfl r_neq rfl rfl ?_
 refine c0_ rfl rfl .assign rfl rfl ?_
 refine ch_n fun hU48_2 => ?_
 refine aw_r ?_
 obtain rfl := Option.some.inj hg
 exact ⟨[_], _, [], [], .cons (.tmp rfl) .nil, ⟨rfl, rfl⟩, .val _, trivial, rfl, rfl, rfl, rfl⟩
theorem w_slices_IndexFunc_api_Certificate_clo_31_0_ (s : (List api_Certificate)) (f : api_Certificate → Option (Bool)) (hf_f : ∀ (x0 : api_Certificate) (y : Bool), f x0 = some y → Fn Try.prog 31 0 [.agg [.val (.int .i64 x0.Serial), .val (.string x0.Issuer), .val (.string x0.Subject), .val (.int .i64 x0.Key.Alg), .val (.int .i64 x0.Key.Bits), .val (.int .i64 x0.KeyId), .val (.int .i64 x0.Hash.Alg), .val (.int .i64 x0.Hash.Bits), .val (.int .i64 x0.From), .val (.int .i64 x0.To), .val (.bool x0.Authority), .val (.int .i64 x0.Path), .sl 1 (encL eS x0.Names), .val (.int .i64 x0.Seal.Key), .val (.int .i64 x0.Seal.Sum)]] [] (fun d b => d = .val (.bool y) ∧ b = [])) (r : Int) (hg : g_slices_IndexFunc_api_Certificate s f = some r) : Fn Try.prog 48 0 [.sl 15 (encL api_Certificate.enc s), .clo 31 0 []] [] (fun d b => d = .val (.int .i64 r) ∧ b = []) := by
 unfold g_slices_IndexFunc_api_Certificate at hg
 refine Fn.of Try.func48 rfl rfl rfl fun w0 I ρ0 => ?_
 show awp _ ⟨w0, I, ρ0, 0, 0, 19⟩ _ _ _
 refine sr_ 0 8 mk_U ?_
 refine c0_ rfl rfl .assign rfl rfl ?_
 refine ch_n fun hU8_1 => ?_
 refine awp_seq ?_
 refine sr_ 8 32 hU8_1 ?_
 refine c0_ rfl rfl .move rfl rfl ?_
 refine c0_ rfl rfl (r_lenS sl27 api_Certificate.enc_len) rfl rfl ?_
 refine c0_ rfl rfl .move rfl rfl ?_
 refine ch_n fun hU32_2 => ?_
 refine awp_block ?_
 obtain ⟨n1, hg⟩ := loop_some hg
 refine awp_loop (ι := (Int) × Nat) (fun ((x8_1, _) : (Int) × Nat) => mk [(0, .sl 15 (encL api_Certificate.enc s)), (1, .clo 31 0 []), (7, .val (.int .i64 (s.length : Int))), (8, .val (.int .i64 x8_1))] [] 0) (fun ((x8_1, nq') : (Int) × Nat) => iter (fun q' => g_slices_IndexFunc_api_Certificate.l1 s f q') nq' x8_1 = some r) (fun q => q.2) (0, n1) (Sub.lists [] rfl rfl ⟨⟨_, rfl, .sl _ _⟩, ⟨_, rfl, .clo _ _ (.nil)⟩, ⟨_, rfl, .val _⟩, ⟨_, rfl, .val _⟩, trivial⟩ trivial) hg ?_
 rintro ⟨x8_1, n1⟩ hg
 obtain ⟨m1, o1, rfl, hg, hn1⟩ := iter_some (show iter (fun q' => g_slices_IndexFunc_api_Certificate.l1 s f q') n1 x8_1 = some r from hg)
 replace hg : g_slices_IndexFunc_api_Certificate.l1 s f x8_1 = some o1 := hg
 show awp _ _ _ _ (mk _ _ _)
 unfold g_slices_IndexFunc_api_Certificate.l1 at hg
 refine sr_ 0 8 mk_U ?_
 refine c0_ rfl rfl r_lss rfl rfl ?_
 refine ch_n fun hU8_3 => ?_
 refine awp_seq ?_
 refine awp_cond rfl (fun h4 => ?_) (fun h4 => ?_)
 ·replace hg := cond_t h4 hg
  refine aw_s ?_
  refine awp_seq ?_
  refine awp_block ?_
  refine sr_ 8 24 hU8_3 ?_
  refine c0_ rfl rfl .move rfl rfl ?_
  refine c0_ rfl rfl .assign rfl rfl ?_
  refine ch_n fun hU24_5 => ?_
  refine sr_ 24 72 hU24_5 ?_
  iterate 3 refine c0_ rfl rfl .move rfl rfl ?_
  obtain ⟨e, he, hg⟩ := bind_some hg
  refine c0_ rfl rfl (r_idxS sl27 api_Certificate.enc_len (getI_ix he) (getI_at he)) rfl rfl ?_
  refine c0_ rfl rfl (r_loadEA ty45 (enc_cells api_Certificate.enc_len (getI_at he) (o := 0) (m := 15) (cs := [.int .i64 e.Serial, .str e.Issuer, .str e.Subject, .int .i64 e.Key.Alg, .int .i64 e.Key.Bits, .int .i64 e.KeyId, .int .i64 e.Hash.Alg, .int .i64 e.Hash.Bits, .int .i64 e.From, .int .i64 e.To, .bool e.Authority, .int .i64 e.Path, .sl 1 (encL eS e.Names), .int .i64 e.Seal.Key, .int .i64 e.Seal.Sum]) rfl (by decide) rfl) (enc_cells_le api_Certificate.enc_len (getI_at he) (o := 0) (m := 15) (by decide) rfl)) rfl rfl ?_
  obtain ⟨y, hy, hg⟩ := bind_some hg
  refine ch_callCP (rd := []) (ps := []) (gs := []) false rfl rfl (hf_f e _ hy) rfl rfl (.cons (.agg (.cons .val (.cons .val (.cons .val (.cons .val (.cons .val (.cons .val (.cons .val (.cons .val (.cons .val (.cons .val (.cons .val (.cons .val (.cons .sl (.cons .val (.cons .val .nil)))))))))))))))) .nil) rfl rfl (by intro h; cases h) rfl rfl rfl rfl ?_
  refine ch_n fun hU72_6 => ?_
  refine awp_cond rfl (fun h7 => ?_) (fun h7 => ?_)
  ·replace hg := cond_t h7 hg
   refine sr_ 72 88 hU72_6 ?_
   refine c0_ rfl rfl .move rfl rfl ?_
   refine c0_ rfl rfl .assign rfl rfl ?_
   refine ch_n fun hU88_8 => ?_
   refine aw_r ?_
   replace hg := leave hg hn1
   obtain rfl := Option.some.inj hg
   exact ⟨[_], _, [], [], .cons (.tmp rfl) .nil, ⟨rfl, rfl⟩, .val _, trivial, rfl, rfl, rfl, rfl⟩
  ·replace hg := cond_f h7 hg
   refine aw_s ?_
   refine awp_region (sys _ _ []) 72 88 hU72_6 rfl rfl ?_
   refine c0_ rfl rfl r_add rfl rfl ?_
   refine c0_ rfl rfl .move rfl rfl ?_
   refine ch_n fun hU88_9 => ?_
   obtain rfl := Option.some.inj hg
   exact ⟨(W (x8_1 + 1), m1), Nat.lt_succ_self _, hn1, Sub.lists [] rfl rfl ⟨⟨_, rfl, .sl _ _⟩, ⟨_, rfl, .clo _ _ (.nil)⟩, ⟨_, rfl, .val _⟩, ⟨_, rfl, .val _⟩, trivial⟩ trivial⟩
 ·replace hg := cond_f h4 hg
  refine awp_exit ?_
  repeat first | refine st_ ?_ | refine sn_ ?_
  replace hg := leave hg hn1
  refine sr_ 8 16 hU8_3 ?_
  refine c0_ rfl rfl .assign rfl rfl ?_
  refine ch_n fun hU16_10 => ?_
  refine aw_r ?_
  obtain rfl := Option.some.inj hg
  exact ⟨[_], _, [], [], .cons (.tmp rfl) .nil, ⟨rfl, rfl⟩, .val _, trivial, rfl, rfl, rfl, rfl⟩
theorem w_slices_ContainsFunc_api_Certificate_clo_31_0_ (s : (List api_Certificate)) (f : api_Certificate → Option (Bool)) (hf_f : ∀ (x0 : api_Certificate) (y : Bool), f x0 = some y → Fn Try.prog 31 0 [.agg [.val (.int .i64 x0.Serial), .val (.string x0.Issuer), .val (.string x0.Subject), .val (.int .i64 x0.Key.Alg), .val (.int .i64 x0.Key.Bits), .val (.int .i64 x0.KeyId), .val (.int .i64 x0.Hash.Alg), .val (.int .i64 x0.Hash.Bits), .val (.int .i64 x0.From), .val (.int .i64 x0.To), .val (.bool x0.Authority), .val (.int .i64 x0.Path), .sl 1 (encL eS x0.Names), .val (.int .i64 x0.Seal.Key), .val (.int .i64 x0.Seal.Sum)]] [] (fun d b => d = .val (.bool y) ∧ b = [])) (r : Bool) (hg : g_slices_ContainsFunc_api_Certificate s f = some r) : Fn Try.prog 30 0 [.sl 15 (encL api_Certificate.enc s), .clo 31 0 []] [] (fun d b => d = .val (.bool r) ∧ b = []) := by
 unfold g_slices_ContainsFunc_api_Certificate at hg
 refine Fn.of Try.func30 rfl rfl rfl fun w0 I ρ0 => ?_
 show awp _ ⟨w0, I, ρ0, 0, 0, 9⟩ _ _ _
 refine sr_ 0 8 mk_U ?_
 refine c0_ rfl rfl .assign rfl rfl ?_
 refine ch_n fun hU8_1 => ?_
 refine sr_ 8 48 hU8_1 ?_
 refine c0_ rfl rfl .move rfl rfl ?_
 refine c0_ rfl rfl .move rfl rfl ?_
 obtain ⟨y, hy, hg⟩ := bind_some hg
 refine ch_callP (rd := []) (ps := []) (gs := []) false rfl (w_slices_IndexFunc_api_Certificate_clo_31_0_ s f hf_f _ hy) rfl rfl (.cons .sl (.cons (.clo (.nil)) .nil)) rfl rfl (by intro h; cases h) rfl rfl rfl rfl ?_
 refine c0_ rfl rfl r_geq rfl rfl ?_
 refine c0_ rfl rfl .assign rfl rfl ?_
 refine ch_n fun hU48_2 => ?_
 refine aw_r ?_
 obtain rfl := Option.some.inj hg
 exact ⟨[_], _, [], [], .cons (.tmp rfl) .nil, ⟨rfl, rfl⟩, .val _, trivial, rfl, rfl, rfl, rfl⟩
theorem w_slices_Index_string (s : (List ByteArray)) (v : ByteArray) (r : Int) (hg : g_slices_Index_string s v = some r) : Fn Try.prog 50 0 [.sl 1 (encL eS s), .val (.string v)] [] (fun d b => d = .val (.int .i64 r) ∧ b = []) := by
 unfold g_slices_Index_string at hg
 refine Fn.of Try.func50 rfl rfl rfl fun w0 I ρ0 => ?_
 show awp _ ⟨w0, I, ρ0, 0, 0, 19⟩ _ _ _
 refine sr_ 0 8 mk_U ?_
 refine c0_ rfl rfl .assign rfl rfl ?_
 refine ch_n fun hU8_1 => ?_
 refine awp_seq ?_
 refine sr_ 8 32 hU8_1 ?_
 refine c0_ rfl rfl .move rfl rfl ?_
 refine c0_ rfl rfl (r_lenS sl41 eS_len) rfl rfl ?_
 refine c0_ rfl rfl .move rfl rfl ?_
 refine ch_n fun hU32_2 => ?_
 refine awp_block ?_
 obtain ⟨n1, hg⟩ := loop_some hg
 refine awp_loop (ι := (Int) × Nat) (fun ((x8_1, _) : (Int) × Nat) => mk [(0, .sl 1 (encL eS s)), (1, .val (.string v)), (7, .val (.int .i64 (s.length : Int))), (8, .val (.int .i64 x8_1))] [] 0) (fun ((x8_1, nq') : (Int) × Nat) => iter (fun q' => g_slices_Index_string.l1 s v q') nq' x8_1 = some r) (fun q => q.2) (0, n1) (Sub.lists [] rfl rfl ⟨⟨_, rfl, .sl _ _⟩, ⟨_, rfl, .val _⟩, ⟨_, rfl, .val _⟩, ⟨_, rfl, .val _⟩, trivial⟩ trivial) hg ?_
 rintro ⟨x8_1, n1⟩ hg
 obtain ⟨m1, o1, rfl, hg, hn1⟩ := iter_some (show iter (fun q' => g_slices_Index_string.l1 s v q') n1 x8_1 = some r from hg)
 replace hg : g_slices_Index_string.l1 s v x8_1 = some o1 := hg
 show awp _ _ _ _ (mk _ _ _)
 unfold g_slices_Index_string.l1 at hg
 refine sr_ 0 8 mk_U ?_
 refine c0_ rfl rfl r_lss rfl rfl ?_
 refine ch_n fun hU8_3 => ?_
 refine awp_seq ?_
 refine awp_cond rfl (fun h4 => ?_) (fun h4 => ?_)
 ·replace hg := cond_t h4 hg
  refine aw_s ?_
  refine awp_seq ?_
  refine awp_block ?_
  refine sr_ 8 24 hU8_3 ?_
  refine c0_ rfl rfl .move rfl rfl ?_
  refine c0_ rfl rfl .assign rfl rfl ?_
  refine ch_n fun hU24_5 => ?_
  refine sr_ 24 72 hU24_5 ?_
  iterate 3 refine c0_ rfl rfl .move rfl rfl ?_
  obtain ⟨e, he, hg⟩ := bind_some hg
  refine c0_ rfl rfl (r_idxS sl41 eS_len (getI_ix he) (getI_at he)) rfl rfl ?_
  refine c0_ rfl rfl (r_loadE1 ty9 (enc_cell eS_len (getI_at he) (o := 0) (c := .str e) rfl rfl)) rfl rfl ?_
  refine c0_ rfl rfl r_seql rfl rfl ?_
  refine ch_n fun hU72_6 => ?_
  refine awp_cond rfl (fun h7 => ?_) (fun h7 => ?_)
  ·replace hg := cond_t h7 hg
   refine sr_ 72 88 hU72_6 ?_
   refine c0_ rfl rfl .move rfl rfl ?_
   refine c0_ rfl rfl .assign rfl rfl ?_
   refine ch_n fun hU88_8 => ?_
   refine aw_r ?_
   replace hg := leave hg hn1
   obtain rfl := Option.some.inj hg
   exact ⟨[_], _, [], [], .cons (.tmp rfl) .nil, ⟨rfl, rfl⟩, .val _, trivial, rfl, rfl, rfl, rfl⟩
  ·replace hg := cond_f h7 hg
   refine aw_s ?_
   refine awp_region (sys _ _ []) 72 88 hU72_6 rfl rfl ?_
   refine c0_ rfl rfl r_add rfl rfl ?_
   refine c0_ rfl rfl .move rfl rfl ?_
   refine ch_n fun hU88_9 => ?_
   obtain rfl := Option.some.inj hg
   exact ⟨(W (x8_1 + 1), m1), Nat.lt_succ_self _, hn1, Sub.lists [] rfl rfl ⟨⟨_, rfl, .sl _ _⟩, ⟨_, rfl, .val _⟩, ⟨_, rfl, .val _⟩, ⟨_, rfl, .val _⟩, trivial⟩ trivial⟩
 ·replace hg := cond_f h4 hg
  refine awp_exit ?_
  repeat first | refine st_ ?_ | refine sn_ ?_
  replace hg := leave hg hn1
  refine sr_ 8 16 hU8_3 ?_
  refine c0_ rfl rfl .assign rfl rfl ?_
  refine ch_n fun hU16_10 => ?_
  refine aw_r ?_
  obtain rfl := Option.some.inj hg
  exact ⟨[_], _, [], [], .cons (.tmp rfl) .nil, ⟨rfl, rfl⟩, .val _, trivial, rfl, rfl, rfl, rfl⟩
theorem w_slices_Contains_string (s : (List ByteArray)) (v : ByteArray) (r : Bool) (hg : g_slices_Contains_string s v = some r) : Fn Try.prog 33 0 [.sl 1 (encL eS s), .val (.string v)] [] (fun d b => d = .val (.bool r) ∧ b = []) := by
 unfold g_slices_Contains_string at hg
 refine Fn.of Try.func33 rfl rfl rfl fun w0 I ρ0 => ?_
 show awp _ ⟨w0, I, ρ0, 0, 0, 9⟩ _ _ _
 refine sr_ 0 8 mk_U ?_
 refine c0_ rfl rfl .assign rfl rfl ?_
 refine ch_n fun hU8_1 => ?_
 refine sr_ 8 48 hU8_1 ?_
 refine c0_ rfl rfl .move rfl rfl ?_
 refine c0_ rfl rfl .move rfl rfl ?_
 obtain ⟨y, hy, hg⟩ := bind_some hg
 refine ch_callP (rd := []) (ps := []) (gs := []) false rfl (w_slices_Index_string s v _ hy) rfl rfl (.cons .sl (.cons .val .nil)) rfl rfl (by intro h; cases h) rfl rfl rfl rfl ?_
 refine c0_ rfl rfl r_geq rfl rfl ?_
 refine c0_ rfl rfl .assign rfl rfl ?_
 refine ch_n fun hU48_2 => ?_
 refine aw_r ?_
 obtain rfl := Option.some.inj hg
 exact ⟨[_], _, [], [], .cons (.tmp rfl) .nil, ⟨rfl, rfl⟩, .val _, trivial, rfl, rfl, rfl, rfl⟩
theorem w_chain_held (c : api_Certificate) (hashes : (List Int)) (day : Int) (e : Int) (r : Bool) (hg : g_chain_held c hashes day e = some r) : Fn Try.prog 35 0 [.agg [.val (.int .i64 c.Serial), .val (.string c.Issuer), .val (.string c.Subject), .val (.int .i64 c.Key.Alg), .val (.int .i64 c.Key.Bits), .val (.int .i64 c.KeyId), .val (.int .i64 c.Hash.Alg), .val (.int .i64 c.Hash.Bits), .val (.int .i64 c.From), .val (.int .i64 c.To), .val (.bool c.Authority), .val (.int .i64 c.Path), .sl 1 (encL eS c.Names), .val (.int .i64 c.Seal.Key), .val (.int .i64 c.Seal.Sum)], .sl 1 (encL eI hashes), .val (.int .i64 day), .val (.int .i64 e)] [] (fun d b => d = .val (.bool r) ∧ b = []) := by
 unfold g_chain_held at hg
 refine Fn.of Try.func35 rfl rfl rfl fun w0 I ρ0 => ?_
 show awp _ ⟨w0, I, ρ0, 0, 0, 27⟩ _ _ _
 refine sr_ 0 16 mk_U ?_
 refine c0_ rfl rfl (.box rfl) rfl rfl ?_
 refine c0_ rfl rfl .assign rfl rfl ?_
 refine ch_n fun hU16_1 => ?_
 refine awp_seq ?_
 refine sr_ 16 32 hU16_1 ?_
 refine c0_ rfl rfl .move rfl rfl ?_
 refine c0_ rfl rfl r_eql rfl rfl ?_
 refine ch_n fun hU32_2 => ?_
 refine awp_cond rfl (fun h3 => ?_) (fun h3 => ?_)
 ·replace hg := cond_t h3 hg
  refine sr_ 32 120 hU32_2 ?_
  refine c0_ rfl rfl .move rfl rfl ?_
  refine c0_ rfl rfl (.fieldP fd45_6 ty3 (by decide)) rfl rfl ?_
  refine ch_s (rd := [0]) rfl rfl (.loadB1 ty3 rfl) rfl rfl ?_
  refine c0_ rfl rfl r_lss rfl rfl ?_
  refine c0_ rfl rfl .move rfl rfl ?_
  rcases Bool.eq_false_or_eq_true (decide (day < c.From)) with h4 | h4
  ·replace hg := cond_t h4 hg
   iterate 4 refine ch_skip (gdv_f rfl rfl h4) rfl ?_
   refine c0_ rfl rfl (r_pickT h4) rfl rfl ?_
   refine c0_ rfl rfl .assign rfl rfl ?_
   refine ch_n fun hU120_5 => ?_
   refine aw_r ?_
   obtain rfl := Option.some.inj hg
   exact ⟨[_], _, [], [], .cons (.tmp rfl) .nil, ⟨rfl, rfl⟩, .val _, trivial, rfl, rfl, rfl, rfl⟩
  ·replace hg := cond_f h4 hg
   refine c0_ (gdv_t rfl rfl h4) rfl .move rfl rfl ?_
   refine c0_ (gdv_t rfl rfl h4) rfl (.fieldP fd45_7 ty3 (by decide)) rfl rfl ?_
   refine ch_s (rd := [0]) (gdv_t rfl rfl h4) rfl (.loadB1 ty3 rfl) rfl rfl ?_
   refine c0_ (gdv_t rfl rfl h4) rfl r_geq rfl rfl ?_
   refine c0_ rfl rfl (r_pickF h4) rfl rfl ?_
   refine c0_ rfl rfl .assign rfl rfl ?_
   refine ch_n fun hU120_6 => ?_
   refine aw_r ?_
   obtain rfl := Option.some.inj hg
   exact ⟨[_], _, [], [], .cons (.tmp rfl) .nil, ⟨rfl, rfl⟩, .val _, trivial, rfl, rfl, rfl, rfl⟩
 ·replace hg := cond_f h3 hg
  refine aw_s ?_
  refine sr_ 32 88 hU32_2 ?_
  refine c0_ rfl rfl .move rfl rfl ?_
  refine c0_ rfl rfl (.fieldP fd45_5 ty40 (by decide)) rfl rfl ?_
  refine c0_ rfl rfl (.fieldP fd40_0 ty3 (by decide)) rfl rfl ?_
  refine ch_s (rd := [0]) rfl rfl (.loadB1 ty3 rfl) rfl rfl ?_
  obtain ⟨y, hy, hg⟩ := bind_some hg
  refine ch_callP (rd := []) (ps := []) (gs := []) false rfl (w_slices_Contains_int hashes c.Hash.Alg _ hy) rfl rfl (.cons .sl (.cons .val .nil)) rfl rfl (by intro h; cases h) rfl rfl rfl rfl ?_
  refine c0_ rfl rfl r_not rfl rfl ?_
  refine c0_ rfl rfl .assign rfl rfl ?_
  refine ch_n fun hU88_7 => ?_
  refine aw_r ?_
  obtain rfl := Option.some.inj hg
  exact ⟨[_], _, [], [], .cons (.tmp rfl) .nil, ⟨rfl, rfl⟩, .val _, trivial, rfl, rfl, rfl, rfl⟩
theorem w_chain_Check_c2 (c : api_Certificate) (c0 : (List Int)) (c1 : Int) (c2 : Int) (r : Bool) (hg : g_chain_Check_c2 c c0 c1 c2 = some r) : Fn Try.prog 34 0 [.agg [.val (.int .i64 c.Serial), .val (.string c.Issuer), .val (.string c.Subject), .val (.int .i64 c.Key.Alg), .val (.int .i64 c.Key.Bits), .val (.int .i64 c.KeyId), .val (.int .i64 c.Hash.Alg), .val (.int .i64 c.Hash.Bits), .val (.int .i64 c.From), .val (.int .i64 c.To), .val (.bool c.Authority), .val (.int .i64 c.Path), .sl 1 (encL eS c.Names), .val (.int .i64 c.Seal.Key), .val (.int .i64 c.Seal.Sum)], .elt (([.sl 1 (encL eI c0)] : List C).drop 0), .elt (([.int .i64 c1] : List C).drop 0), .elt (([.int .i64 c2] : List C).drop 0)] [] (fun d b => d = .val (.bool r) ∧ b = []) := by
 unfold g_chain_Check_c2 at hg
 refine Fn.of Try.func34 rfl rfl rfl fun w0 I ρ0 => ?_
 show awp _ ⟨w0, I, ρ0, 0, 0, 11⟩ _ _ _
 refine sr_ 0 16 mk_U ?_
 refine c0_ rfl rfl (.box rfl) rfl rfl ?_
 refine c0_ rfl rfl .assign rfl rfl ?_
 refine ch_n fun hU16_1 => ?_
 refine sr_ 16 64 hU16_1 ?_
 refine ch_s (rd := [0]) rfl rfl (.loadBA ty45 (Nat.le_of_ble_eq_true rfl)) rfl rfl ?_
 refine c0_ rfl rfl (r_loadE1 ty22 (c := .sl 1 (encL eI c0)) rfl) rfl rfl ?_
 refine c0_ rfl rfl (r_loadE1 ty3 (c := .int .i64 c1) rfl) rfl rfl ?_
 refine c0_ rfl rfl (r_loadE1 ty35 (c := .int .i64 c2) rfl) rfl rfl ?_
 obtain ⟨y, hy, hg⟩ := bind_some hg
 refine ch_callP (rd := []) (ps := []) (gs := []) false rfl (w_chain_held c c0 c1 c2 _ hy) rfl rfl (.cons (.agg (.cons .val (.cons .val (.cons .val (.cons .val (.cons .val (.cons .val (.cons .val (.cons .val (.cons .val (.cons .val (.cons .val (.cons .val (.cons .sl (.cons .val (.cons .val .nil)))))))))))))))) (.cons .sl (.cons .val (.cons .val .nil)))) rfl rfl (by intro h; cases h) rfl rfl rfl rfl ?_
 refine c0_ rfl rfl .assign rfl rfl ?_
 refine ch_n fun hU64_2 => ?_
 refine aw_r ?_
 obtain rfl := Option.some.inj hg
 exact ⟨[_], _, [], [], .cons (.tmp rfl) .nil, ⟨rfl, rfl⟩, .val _, trivial, rfl, rfl, rfl, rfl⟩
theorem w_slices_IndexFunc_api_Certificate_clo_34_0_ref_22_ref_3_ref_35 (s : (List api_Certificate)) (f : api_Certificate → Option (Bool)) (f_c0 : (List Int)) (f_c1 : Int) (f_c2 : Int) (hf_f : ∀ (x0 : api_Certificate) (y : Bool), f x0 = some y → Fn Try.prog 34 0 [.agg [.val (.int .i64 x0.Serial), .val (.string x0.Issuer), .val (.string x0.Subject), .val (.int .i64 x0.Key.Alg), .val (.int .i64 x0.Key.Bits), .val (.int .i64 x0.KeyId), .val (.int .i64 x0.Hash.Alg), .val (.int .i64 x0.Hash.Bits), .val (.int .i64 x0.From), .val (.int .i64 x0.To), .val (.bool x0.Authority), .val (.int .i64 x0.Path), .sl 1 (encL eS x0.Names), .val (.int .i64 x0.Seal.Key), .val (.int .i64 x0.Seal.Sum)], .elt (([.sl 1 (encL eI f_c0)] : List C).drop 0), .elt (([.int .i64 f_c1] : List C).drop 0), .elt (([.int .i64 f_c2] : List C).drop 0)] [] (fun d b => d = .val (.bool y) ∧ b = [])) (r : Int) (hg : g_slices_IndexFunc_api_Certificate s f = some r) : Fn Try.prog 48 0 [.sl 15 (encL api_Certificate.enc s), .clo 34 0 [.elt (([.sl 1 (encL eI f_c0)] : List C).drop 0), .elt (([.int .i64 f_c1] : List C).drop 0), .elt (([.int .i64 f_c2] : List C).drop 0)]] [] (fun d b => d = .val (.int .i64 r) ∧ b = []) := by
 unfold g_slices_IndexFunc_api_Certificate at hg
 refine Fn.of Try.func48 rfl rfl rfl fun w0 I ρ0 => ?_
 show awp _ ⟨w0, I, ρ0, 0, 0, 19⟩ _ _ _
 refine sr_ 0 8 mk_U ?_
 refine c0_ rfl rfl .assign rfl rfl ?_
 refine ch_n fun hU8_1 => ?_
 refine awp_seq ?_
 refine sr_ 8 32 hU8_1 ?_
 refine c0_ rfl rfl .move rfl rfl ?_
 refine c0_ rfl rfl (r_lenS sl27 api_Certificate.enc_len) rfl rfl ?_
 refine c0_ rfl rfl .move rfl rfl ?_
 refine ch_n fun hU32_2 => ?_
 refine awp_block ?_
 obtain ⟨n1, hg⟩ := loop_some hg
 refine awp_loop (ι := (Int) × Nat) (fun ((x8_1, _) : (Int) × Nat) => mk [(0, .sl 15 (encL api_Certificate.enc s)), (1, .clo 34 0 [.elt (([.sl 1 (encL eI f_c0)] : List C).drop 0), .elt (([.int .i64 f_c1] : List C).drop 0), .elt (([.int .i64 f_c2] : List C).drop 0)]), (7, .val (.int .i64 (s.length : Int))), (8, .val (.int .i64 x8_1))] [] 0) (fun ((x8_1, nq') : (Int) × Nat) => iter (fun q' => g_slices_IndexFunc_api_Certificate.l1 s f q') nq' x8_1 = some r) (fun q => q.2) (0, n1) (Sub.lists [] rfl rfl ⟨⟨_, rfl, .sl _ _⟩, ⟨_, rfl, .clo _ _ (.cons (.elt _) (.cons (.elt _) (.cons (.elt _) .nil)))⟩, ⟨_, rfl, .val _⟩, ⟨_, rfl, .val _⟩, trivial⟩ trivial) hg ?_
 rintro ⟨x8_1, n1⟩ hg
 obtain ⟨m1, o1, rfl, hg, hn1⟩ := iter_some (show iter (fun q' => g_slices_IndexFunc_api_Certificate.l1 s f q') n1 x8_1 = some r from hg)
 replace hg : g_slices_IndexFunc_api_Certificate.l1 s f x8_1 = some o1 := hg
 show awp _ _ _ _ (mk _ _ _)
 unfold g_slices_IndexFunc_api_Certificate.l1 at hg
 refine sr_ 0 8 mk_U ?_
 refine c0_ rfl rfl r_lss rfl rfl ?_
 refine ch_n fun hU8_3 => ?_
 refine awp_seq ?_
 refine awp_cond rfl (fun h4 => ?_) (fun h4 => ?_)
 ·replace hg := cond_t h4 hg
  refine aw_s ?_
  refine awp_seq ?_
  refine awp_block ?_
  refine sr_ 8 24 hU8_3 ?_
  refine c0_ rfl rfl .move rfl rfl ?_
  refine c0_ rfl rfl .assign rfl rfl ?_
  refine ch_n fun hU24_5 => ?_
  refine sr_ 24 72 hU24_5 ?_
  iterate 3 refine c0_ rfl rfl .move rfl rfl ?_
  obtain ⟨e, he, hg⟩ := bind_some hg
  refine c0_ rfl rfl (r_idxS sl27 api_Certificate.enc_len (getI_ix he) (getI_at he)) rfl rfl ?_
  refine c0_ rfl rfl (r_loadEA ty45 (enc_cells api_Certificate.enc_len (getI_at he) (o := 0) (m := 15) (cs := [.int .i64 e.Serial, .str e.Issuer, .str e.Subject, .int .i64 e.Key.Alg, .int .i64 e.Key.Bits, .int .i64 e.KeyId, .int .i64 e.Hash.Alg, .int .i64 e.Hash.Bits, .int .i64 e.From, .int .i64 e.To, .bool e.Authority, .int .i64 e.Path, .sl 1 (encL eS e.Names), .int .i64 e.Seal.Key, .int .i64 e.Seal.Sum]) rfl (by decide) rfl) (enc_cells_le api_Certificate.enc_len (getI_at he) (o := 0) (m := 15) (by decide) rfl)) rfl rfl ?_
  obtain ⟨y, hy, hg⟩ := bind_some hg
  refine ch_callCP (rd := []) (ps := []) (gs := []) false rfl rfl (hf_f e _ hy) rfl rfl (.cons (.agg (.cons .val (.cons .val (.cons .val (.cons .val (.cons .val (.cons .val (.cons .val (.cons .val (.cons .val (.cons .val (.cons .val (.cons .val (.cons .sl (.cons .val (.cons .val .nil)))))))))))))))) (.cons .elt (.cons .elt (.cons .elt .nil)))) rfl rfl (by intro h; cases h) rfl rfl rfl rfl ?_
  refine ch_n fun hU72_6 => ?_
  refine awp_cond rfl (fun h7 => ?_) (fun h7 => ?_)
  ·replace hg := cond_t h7 hg
   refine sr_ 72 88 hU72_6 ?_
   refine c0_ rfl rfl .move rfl rfl ?_
   refine c0_ rfl rfl .assign rfl rfl ?_
   refine ch_n fun hU88_8 => ?_
   refine aw_r ?_
   replace hg := leave hg hn1
   obtain rfl := Option.some.inj hg
   exact ⟨[_], _, [], [], .cons (.tmp rfl) .nil, ⟨rfl, rfl⟩, .val _, trivial, rfl, rfl, rfl, rfl⟩
  ·replace hg := cond_f h7 hg
   refine aw_s ?_
   refine awp_region (sys _ _ []) 72 88 hU72_6 rfl rfl ?_
   refine c0_ rfl rfl r_add rfl rfl ?_
   refine c0_ rfl rfl .move rfl rfl ?_
   refine ch_n fun hU88_9 => ?_
   obtain rfl := Option.some.inj hg
   exact ⟨(W (x8_1 + 1), m1), Nat.lt_succ_self _, hn1, Sub.lists [] rfl rfl ⟨⟨_, rfl, .sl _ _⟩, ⟨_, rfl, .clo _ _ (.cons (.elt _) (.cons (.elt _) (.cons (.elt _) .nil)))⟩, ⟨_, rfl, .val _⟩, ⟨_, rfl, .val _⟩, trivial⟩ trivial⟩
 ·replace hg := cond_f h4 hg
  refine awp_exit ?_
  repeat first | refine st_ ?_ | refine sn_ ?_
  replace hg := leave hg hn1
  refine sr_ 8 16 hU8_3 ?_
  refine c0_ rfl rfl .assign rfl rfl ?_
  refine ch_n fun hU16_10 => ?_
  refine aw_r ?_
  obtain rfl := Option.some.inj hg
  exact ⟨[_], _, [], [], .cons (.tmp rfl) .nil, ⟨rfl, rfl⟩, .val _, trivial, rfl, rfl, rfl, rfl⟩
theorem w_slices_ContainsFunc_api_Certificate_clo_34_0_ref_22_ref_3_ref_35 (s : (List api_Certificate)) (f : api_Certificate → Option (Bool)) (f_c0 : (List Int)) (f_c1 : Int) (f_c2 : Int) (hf_f : ∀ (x0 : api_Certificate) (y : Bool), f x0 = some y → Fn Try.prog 34 0 [.agg [.val (.int .i64 x0.Serial), .val (.string x0.Issuer), .val (.string x0.Subject), .val (.int .i64 x0.Key.Alg), .val (.int .i64 x0.Key.Bits), .val (.int .i64 x0.KeyId), .val (.int .i64 x0.Hash.Alg), .val (.int .i64 x0.Hash.Bits), .val (.int .i64 x0.From), .val (.int .i64 x0.To), .val (.bool x0.Authority), .val (.int .i64 x0.Path), .sl 1 (encL eS x0.Names), .val (.int .i64 x0.Seal.Key), .val (.int .i64 x0.Seal.Sum)], .elt (([.sl 1 (encL eI f_c0)] : List C).drop 0), .elt (([.int .i64 f_c1] : List C).drop 0), .elt (([.int .i64 f_c2] : List C).drop 0)] [] (fun d b => d = .val (.bool y) ∧ b = [])) (r : Bool) (hg : g_slices_ContainsFunc_api_Certificate s f = some r) : Fn Try.prog 30 0 [.sl 15 (encL api_Certificate.enc s), .clo 34 0 [.elt (([.sl 1 (encL eI f_c0)] : List C).drop 0), .elt (([.int .i64 f_c1] : List C).drop 0), .elt (([.int .i64 f_c2] : List C).drop 0)]] [] (fun d b => d = .val (.bool r) ∧ b = []) := by
 unfold g_slices_ContainsFunc_api_Certificate at hg
 refine Fn.of Try.func30 rfl rfl rfl fun w0 I ρ0 => ?_
 show awp _ ⟨w0, I, ρ0, 0, 0, 9⟩ _ _ _
 refine sr_ 0 8 mk_U ?_
 refine c0_ rfl rfl .assign rfl rfl ?_
 refine ch_n fun hU8_1 => ?_
 refine sr_ 8 48 hU8_1 ?_
 refine c0_ rfl rfl .move rfl rfl ?_
 refine c0_ rfl rfl .move rfl rfl ?_
 obtain ⟨y, hy, hg⟩ := bind_some hg
 refine ch_callP (rd := []) (ps := []) (gs := []) false rfl (w_slices_IndexFunc_api_Certificate_clo_34_0_ref_22_ref_3_ref_35 s f f_c0 f_c1 f_c2 hf_f _ hy) rfl rfl (.cons .sl (.cons (.clo (.cons .elt (.cons .elt (.cons .elt .nil)))) .nil)) rfl rfl (by intro h; cases h) rfl rfl rfl rfl ?_
 refine c0_ rfl rfl r_geq rfl rfl ?_
 refine c0_ rfl rfl .assign rfl rfl ?_
 refine ch_n fun hU48_2 => ?_
 refine aw_r ?_
 obtain rfl := Option.some.inj hg
 exact ⟨[_], _, [], [], .cons (.tmp rfl) .nil, ⟨rfl, rfl⟩, .val _, trivial, rfl, rfl, rfl, rfl⟩
theorem w_chain_Path (l : (List api_Certificate)) (at' : Int) (r : Bool) (hg : g_chain_Path l at' = some r) : Fn Try.prog 13 0 [.sl 15 (encL api_Certificate.enc l), .val (.int .i64 at')] [] (fun d b => d = .val (.bool r) ∧ b = []) := by
 unfold g_chain_Path at hg
 refine Fn.of Try.func13 rfl rfl rfl fun w0 I ρ0 => ?_
 show awp _ ⟨w0, I, ρ0, 0, 0, 32⟩ _ _ _
 refine sr_ 0 8 mk_U ?_
 refine c0_ rfl rfl .assign rfl rfl ?_
 refine ch_n fun hU8_1 => ?_
 refine awp_seq ?_
 refine awp_cut (ι := Bool) (fun (x12_1 : Bool) => mk [(0, .sl 15 (encL api_Certificate.enc l)), (1, .val (.int .i64 at')), (12, .val (.bool x12_1))] [] 0) (fun (x12_1 : Bool) => g_chain_Path.j1 l at' x12_1 = some r) ?_ ?_
 ·refine awp_region (sys _ _ []) 8 72 hU8_1 rfl rfl ?_
  refine c0_ rfl rfl .move rfl rfl ?_
  refine c0_ rfl rfl r_lss rfl rfl ?_
  refine c0_ rfl rfl .move rfl rfl ?_
  rcases Bool.eq_false_or_eq_true (decide (at' < 0)) with h2 | h2
  ·replace hg := cond_t h2 hg
   iterate 4 refine ch_skip (gdv_f rfl rfl h2) rfl ?_
   refine c0_ rfl rfl (r_pickT h2) rfl rfl ?_
   refine ch_n fun hU72_3 => ?_
   exact ⟨true, hg, Sub.lists [] rfl rfl ⟨⟨_, rfl, .sl _ _⟩, ⟨_, rfl, .val _⟩, ⟨_, rfl, .val _⟩, trivial⟩ trivial⟩
  ·replace hg := cond_f h2 hg
   refine c0_ (gdv_t rfl rfl h2) rfl .move rfl rfl ?_
   refine c0_ (gdv_t rfl rfl h2) rfl .move rfl rfl ?_
   refine c0_ (gdv_t rfl rfl h2) rfl (r_lenS sl27 api_Certificate.enc_len) rfl rfl ?_
   refine c0_ (gdv_t rfl rfl h2) rfl r_geq rfl rfl ?_
   refine c0_ rfl rfl (r_pickF h2) rfl rfl ?_
   refine ch_n fun hU72_4 => ?_
   exact ⟨decide ((l.length : Int) ≤ at'), hg, Sub.lists [] rfl rfl ⟨⟨_, rfl, .sl _ _⟩, ⟨_, rfl, .val _⟩, ⟨_, rfl, .val _⟩, trivial⟩ trivial⟩
 ·rintro x12_1 hg
  replace hg : g_chain_Path.j1 l at' x12_1 = some r := hg
  show awp _ _ _ _ (mk _ _ _)
  unfold g_chain_Path.j1 at hg
  refine awp_cond rfl (fun h5 => ?_) (fun h5 => ?_)
  ·replace hg := cond_t h5 hg
   refine sr_ 0 8 mk_U ?_
   refine c0_ rfl rfl .assign rfl rfl ?_
   refine ch_n fun hU8_6 => ?_
   refine aw_r ?_
   obtain rfl := Option.some.inj hg
   exact ⟨[_], _, [], [], .cons (.tmp rfl) .nil, ⟨rfl, rfl⟩, .val _, trivial, rfl, rfl, rfl, rfl⟩
  ·replace hg := cond_f h5 hg
   refine aw_s ?_
   refine sr_ 0 160 mk_U ?_
   refine c0_ rfl rfl .move rfl rfl ?_
   refine c0_ rfl rfl r_eql rfl rfl ?_
   refine c0_ rfl rfl .move rfl rfl ?_
   rcases Bool.eq_false_or_eq_true (decide (at' = 0)) with h7 | h7
   ·replace hg := cond_t h7 hg
    iterate 6 refine ch_skip (gdv_f rfl rfl h7) rfl ?_
    iterate 8 refine ch_skip rfl rfl ?_
    refine ch_skip (gdv_f rfl rfl h7) rfl ?_
    refine c0_ rfl rfl (r_pickT h7) rfl rfl ?_
    refine c0_ rfl rfl .assign rfl rfl ?_
    refine ch_n fun hU160_8 => ?_
    refine aw_r ?_
    obtain rfl := Option.some.inj hg
    exact ⟨[_], _, [], [], .cons (.tmp rfl) .nil, ⟨rfl, rfl⟩, .val _, trivial, rfl, rfl, rfl, rfl⟩
   ·replace hg := cond_f h7 hg
    refine c0_ (gdv_t rfl rfl h7) rfl .move rfl rfl ?_
    refine c0_ (gdv_t rfl rfl h7) rfl .move rfl rfl ?_
    obtain ⟨e, he, hg⟩ := bind_some hg
    refine c0_ (gdv_t rfl rfl h7) rfl (r_idxS sl27 api_Certificate.enc_len (getI_ix he) (getI_at he)) rfl rfl ?_
    refine c0_ (gdv_t rfl rfl h7) rfl (r_fieldE fd45_8 ty4 (by decide) (enc_lt api_Certificate.enc_len (getI_at he) (o := 10) (by decide) rfl)) rfl rfl ?_
    refine c0_ (gdv_t rfl rfl h7) rfl (r_loadE1 ty4 (enc_cell api_Certificate.enc_len (getI_at he) (o := 10) (c := .bool e.Authority) rfl rfl)) rfl rfl ?_
    refine c0_ (gdv_t rfl rfl h7) rfl .move rfl rfl ?_
    rcases Bool.eq_false_or_eq_true (e.Authority) with h9 | h9
    ·replace hg := cond_t h9 hg
     refine c0_ (gdv_t rfl rfl h9) rfl .move rfl rfl ?_
     refine c0_ (gdv_t rfl rfl h9) rfl .move rfl rfl ?_
     refine c0_ (gdv_t rfl rfl h9) rfl (r_idxS sl27 api_Certificate.enc_len (getI_ix he) (getI_at he)) rfl rfl ?_
     refine c0_ (gdv_t rfl rfl h9) rfl (r_fieldE fd45_9 ty3 (by decide) (enc_lt api_Certificate.enc_len (getI_at he) (o := 11) (by decide) rfl)) rfl rfl ?_
     refine c0_ (gdv_t rfl rfl h9) rfl (r_loadE1 ty3 (enc_cell api_Certificate.enc_len (getI_at he) (o := 11) (c := .int .i64 e.Path) rfl rfl)) rfl rfl ?_
     refine c0_ (gdv_t rfl rfl h9) rfl .move rfl rfl ?_
     refine c0_ (gdv_t rfl rfl h9) rfl r_sub rfl rfl ?_
     refine c0_ (gdv_t rfl rfl h9) rfl r_geq rfl rfl ?_
     refine c0_ (gdv_t rfl rfl h7) rfl (r_pickT h9) rfl rfl ?_
     refine c0_ rfl rfl (r_pickF h7) rfl rfl ?_
     refine c0_ rfl rfl .assign rfl rfl ?_
     refine ch_n fun hU160_10 => ?_
     refine aw_r ?_
     obtain rfl := Option.some.inj hg
     exact ⟨[_], _, [], [], .cons (.tmp rfl) .nil, ⟨rfl, rfl⟩, .val _, trivial, rfl, rfl, rfl, rfl⟩
    ·replace hg := cond_f h9 hg
     iterate 8 refine ch_skip (gdv_f rfl rfl h9) rfl ?_
     refine c0_ (gdv_t rfl rfl h7) rfl (r_pickF h9) rfl rfl ?_
     refine c0_ rfl rfl (r_pickF h7) rfl rfl ?_
     refine c0_ rfl rfl .assign rfl rfl ?_
     refine ch_n fun hU160_11 => ?_
     refine aw_r ?_
     obtain rfl := Option.some.inj hg
     exact ⟨[_], _, [], [], .cons (.tmp rfl) .nil, ⟨rfl, rfl⟩, .val _, trivial, rfl, rfl, rfl, rfl⟩
theorem w_chain_sealer (l : (List api_Certificate)) (at' : Int) (r : Int) (hg : g_chain_sealer l at' = some r) : Fn Try.prog 52 0 [.sl 15 (encL api_Certificate.enc l), .val (.int .i64 at')] [] (fun d b => d = .val (.int .i64 r) ∧ b = []) := by
 unfold g_chain_sealer at hg
 refine Fn.of Try.func52 rfl rfl rfl fun w0 I ρ0 => ?_
 show awp _ ⟨w0, I, ρ0, 0, 0, 22⟩ _ _ _
 refine sr_ 0 8 mk_U ?_
 refine c0_ rfl rfl .assign rfl rfl ?_
 refine ch_n fun hU8_1 => ?_
 refine awp_seq ?_
 refine sr_ 8 48 hU8_1 ?_
 refine c0_ rfl rfl .move rfl rfl ?_
 refine c0_ rfl rfl r_add rfl rfl ?_
 refine c0_ rfl rfl .move rfl rfl ?_
 refine c0_ rfl rfl (r_lenS sl27 api_Certificate.enc_len) rfl rfl ?_
 refine c0_ rfl rfl r_lss rfl rfl ?_
 refine ch_n fun hU48_2 => ?_
 refine awp_cond rfl (fun h3 => ?_) (fun h3 => ?_)
 ·replace hg := cond_t h3 hg
  refine sr_ 48 104 hU48_2 ?_
  refine c0_ rfl rfl .move rfl rfl ?_
  refine c0_ rfl rfl .move rfl rfl ?_
  refine c0_ rfl rfl r_add rfl rfl ?_
  obtain ⟨e, he, hg⟩ := bind_some hg
  refine c0_ rfl rfl (r_idxS sl27 api_Certificate.enc_len (getI_ix he) (getI_at he)) rfl rfl ?_
  refine c0_ rfl rfl (r_fieldE fd45_4 ty3 (by decide) (enc_lt api_Certificate.enc_len (getI_at he) (o := 5) (by decide) rfl)) rfl rfl ?_
  refine c0_ rfl rfl (r_loadE1 ty3 (enc_cell api_Certificate.enc_len (getI_at he) (o := 5) (c := .int .i64 e.KeyId) rfl rfl)) rfl rfl ?_
  refine c0_ rfl rfl .assign rfl rfl ?_
  refine ch_n fun hU104_4 => ?_
  refine aw_r ?_
  obtain rfl := Option.some.inj hg
  exact ⟨[_], _, [], [], .cons (.tmp rfl) .nil, ⟨rfl, rfl⟩, .val _, trivial, rfl, rfl, rfl, rfl⟩
 ·replace hg := cond_f h3 hg
  refine aw_s ?_
  refine sr_ 48 104 hU48_2 ?_
  refine c0_ rfl rfl .move rfl rfl ?_
  refine c0_ rfl rfl .move rfl rfl ?_
  obtain ⟨e_2, he_2, hg⟩ := bind_some hg
  refine c0_ rfl rfl (r_idxS sl27 api_Certificate.enc_len (getI_ix he_2) (getI_at he_2)) rfl rfl ?_
  refine c0_ rfl rfl (r_fieldE fd45_11 ty43 (by decide) (enc_lt api_Certificate.enc_len (getI_at he_2) (o := 13) (by decide) rfl)) rfl rfl ?_
  refine c0_ rfl rfl (r_fieldE fd43_0 ty3 (by decide) (enc_lt api_Certificate.enc_len (getI_at he_2) (o := 13) (by decide) rfl)) rfl rfl ?_
  refine c0_ rfl rfl (r_loadE1 ty3 (enc_cell api_Certificate.enc_len (getI_at he_2) (o := 13) (c := .int .i64 e_2.Seal.Key) rfl rfl)) rfl rfl ?_
  refine c0_ rfl rfl .assign rfl rfl ?_
  refine ch_n fun hU104_5 => ?_
  refine aw_r ?_
  obtain rfl := Option.some.inj hg
  exact ⟨[_], _, [], [], .cons (.tmp rfl) .nil, ⟨rfl, rfl⟩, .val _, trivial, rfl, rfl, rfl, rfl⟩
theorem w_der_Text (s : ByteArray) (r : api_Value) (hg : g_der_Text s = some r) : Fn Try.prog 95 0 [.val (.string s)] [] (fun d b => d = .agg [.val (.int .i64 r.Tag), .sl 1 (encL e8 r.Bytes), .val (.bool r.Nested), .sl 4 (encL api_Value.enc r.Elements)] ∧ b = []) := by
 unfold g_der_Text at hg
 refine Fn.of Try.func95 rfl rfl rfl fun w0 I ρ0 => ?_
 show awp _ ⟨w0, I, ρ0, 0, 0, 6⟩ _ _ _
 refine sr_ 0 8 mk_U ?_
 refine c0_ rfl rfl (.alloc z97) rfl rfl ?_
 refine ch_n fun hU8_1 => ?_
 refine sr_ 8 40 hU8_1 ?_
 refine c0_ rfl rfl .move rfl rfl ?_
 refine c0_ rfl rfl (r_convB und9 und82 und5) rfl rfl ?_
 refine c0_ rfl rfl (.build (r := [.val (.int .i64 12), .sl 1 (encL e8 (toB s)), .val (.bool false), .val (.slice none 0 0)]) und97 pl97 z97 (by kernel_rfl) rfl) rfl rfl ?_
 refine ch_s (rd := [0]) rfl rfl (r_storeB (ds' := [.val (.int .i64 12), .sl 1 (encL e8 (toB s)), .val (.bool false), .val (.slice none 0 0)]) ty97 rfl (Nat.le_of_ble_eq_true rfl) rfl rfl) rfl rfl ?_
 refine ch_n fun hU40_2 => ?_
 refine aw_r ?_
 obtain rfl := Option.some.inj hg
 exact ⟨[_], _, [], [], .cons (.cellA rfl rfl ty97 rfl) .nil, ⟨rfl, rfl⟩, .agg (.cons (.val _) (.cons (.sl _ _) (.cons (.val _) (.cons (.nils _) .nil)))), trivial, rfl, rfl, rfl, rfl⟩
theorem w_der_Int (n : Int) (r : api_Value) (hg : g_der_Int n = some r) : Fn Try.prog 97 0 [.val (.int .i64 n)] [] (fun d b => d = .agg [.val (.int .i64 r.Tag), .sl 1 (encL e8 r.Bytes), .val (.bool r.Nested), .sl 4 (encL api_Value.enc r.Elements)] ∧ b = []) := by
 unfold g_der_Int at hg
 refine Fn.of Try.func97 rfl rfl rfl fun w0 I ρ0 => ?_
 show awp _ ⟨w0, I, ρ0, 0, 0, 48⟩ _ _ _
 refine sr_ 0 8 mk_U ?_
 refine c0_ rfl rfl (.alloc z97) rfl rfl ?_
 refine ch_n fun hU8_1 => ?_
 refine sr_ 8 16 hU8_1 ?_
 refine c0_ rfl rfl .assign rfl rfl ?_
 refine ch_n fun hU16_2 => ?_
 refine awp_seq ?_
 refine sr_ 16 24 hU16_2 ?_
 refine c0_ rfl rfl .assign rfl rfl ?_
 refine ch_n fun hU24_3 => ?_
 refine awp_block ?_
 obtain ⟨n1, hg⟩ := loop_some hg
 refine awp_loop (ι := (Int × List UInt8) × Nat) (fun (((i_1, b_1), _) : (Int × List UInt8) × Nat) => mk [(0, .val (.int .i64 n)), (2, .ptr 0 0), (3, .row 1), (4, .val (.int .i64 i_1))] [(0, .box [.val (.int .i64 0), .val (.slice none 0 0), .val (.bool false), .val (.slice none 0 0)] 97), (1, .row 5 1 (encL e8 b_1))] 2) (fun (((i_1, b_1), nq') : (Int × List UInt8) × Nat) => iter (fun q' => g_der_Int.l1 n q'.1 q'.2) nq' (i_1, b_1) = some r) (fun q => q.2) ((56, ([] : List UInt8)), n1) (Sub.lists [(0, 0)] rfl rfl ⟨⟨_, rfl, .val _⟩, ⟨_, rfl, .ptr rfl⟩, ⟨_, rfl, .nil rfl⟩, ⟨_, rfl, .val _⟩, trivial⟩ ⟨.inl ⟨0, _, rfl, rfl, ⟨rfl, .cons (.val _) (.cons (.val _) (.cons (.val _) (.cons (.val _) .nil)))⟩⟩, .inr ⟨rfl, _, _, rfl⟩, trivial⟩) hg ?_
 rintro ⟨⟨i_1, b_1⟩, n1⟩ hg
 obtain ⟨m1, o1, rfl, hg, hn1⟩ := iter_some (show iter (fun q' => g_der_Int.l1 n q'.1 q'.2) n1 (i_1, b_1) = some r from hg)
 replace hg : g_der_Int.l1 n i_1 b_1 = some o1 := hg
 show awp _ _ _ _ (mk _ _ _)
 unfold g_der_Int.l1 at hg
 refine awp_seq ?_
 refine sr_ 2 18 mk_U ?_
 refine c0_ rfl rfl .move rfl rfl ?_
 refine c0_ rfl rfl r_geq rfl rfl ?_
 refine ch_n fun hU18_4 => ?_
 refine awp_cond rfl (fun h5 => ?_) (fun h5 => ?_)
 ·replace hg := cond_t h5 hg
  refine aw_s ?_
  refine awp_seq ?_
  refine awp_block ?_
  refine awp_region (sys _ _ []) 18 90 hU18_4 rfl rfl ?_
  refine c0_ rfl rfl .move rfl rfl ?_
  refine c0_ rfl rfl .move rfl rfl ?_
  refine c0_ rfl rfl (r_convK und3 und129) rfl rfl ?_
  refine c0_ rfl rfl .move rfl rfl ?_
  obtain ⟨q, hq, hg⟩ := bind_some hg
  refine c0_ rfl rfl (r_shrK hq) rfl rfl ?_
  refine c0_ rfl rfl (r_conv_u8 und129 und5) rfl rfl ?_
  refine c0_ rfl rfl (r_buildFull sl82 z5 (by decide) rfl rfl rfl rfl ck5 (cs := [.int .u8 ((u8 q).toNat : Int)]) (.cons .int .nil) rfl (l := ([(u8 q)] : List UInt8)) (f := e8) rfl) rfl rfl ?_
  obtain ⟨l, hl, hg⟩ := bind_some hg
  refine ch_s (rd := [1, 66]) rfl rfl (r_append sl82 e8_len .row rfl .row rfl hl rfl) rfl rfl ?_
  refine c0_ rfl rfl .assign rfl rfl ?_
  refine ch_n fun hU90_6 => ?_
  refine awp_region (sys _ _ []) 90 114 hU90_6 rfl rfl ?_
  refine c0_ rfl rfl .move rfl rfl ?_
  refine c0_ rfl rfl r_sub rfl rfl ?_
  refine c0_ rfl rfl .assign rfl rfl ?_
  refine ch_n fun hU114_7 => ?_
  obtain rfl := Option.some.inj hg
  exact ⟨((W (i_1 - 8), l), m1), Nat.lt_succ_self _, hn1, Sub.lists [(0, 0), (1, 74)] rfl rfl ⟨⟨_, rfl, .val _⟩, ⟨_, rfl, .ptr rfl⟩, ⟨_, rfl, .row rfl⟩, ⟨_, rfl, .val _⟩, trivial⟩ ⟨.inl ⟨0, _, rfl, rfl, ⟨rfl, .cons (.val _) (.cons (.val _) (.cons (.val _) (.cons (.val _) .nil)))⟩⟩, .inl ⟨74, _, rfl, rfl, ⟨rfl, rfl, rfl⟩⟩, trivial⟩⟩
 ·replace hg := cond_f h5 hg
  refine awp_exit ?_
  repeat first | refine st_ ?_ | refine sn_ ?_
  replace hg := leave hg hn1
  refine awp_seq ?_
  refine awp_block ?_
  obtain ⟨n2, hg⟩ := loop_some hg
  refine awp_loop (ι := (List UInt8) × Nat) (fun ((b_2, _) : (List UInt8) × Nat) => mk [(2, .ptr 0 0), (3, .sl 1 (encL e8 b_2))] [(0, .box [.val (.int .i64 0), .val (.slice none 0 0), .val (.bool false), .val (.slice none 0 0)] 97)] 1) (fun ((b_2, nq') : (List UInt8) × Nat) => iter (fun q' => g_der_Int.l2 q') nq' b_2 = some r) (fun q => q.2) (b_1, n2) (Sub.lists [(0, 0)] rfl rfl ⟨⟨_, rfl, .ptr rfl⟩, ⟨_, rfl, .frz rfl (look_ne rfl)⟩, trivial⟩ ⟨.inl ⟨0, _, rfl, rfl, ⟨rfl, .cons (.val _) (.cons (.val _) (.cons (.val _) (.cons (.val _) .nil)))⟩⟩, trivial⟩) hg ?_
  rintro ⟨b_2, n2⟩ hg
  obtain ⟨m2, o2, rfl, hg, hn2⟩ := iter_some (show iter (fun q' => g_der_Int.l2 q') n2 b_2 = some r from hg)
  replace hg : g_der_Int.l2 b_2 = some o2 := hg
  show awp _ _ _ _ (mk _ _ _)
  unfold g_der_Int.l2 at hg
  refine awp_seq ?_
  refine awp_cut (ι := Bool) (fun (x43_3 : Bool) => mk [(2, .ptr 0 0), (3, .sl 1 (encL e8 b_2)), (43, .val (.bool x43_3))] [(0, .box [.val (.int .i64 0), .val (.slice none 0 0), .val (.bool false), .val (.slice none 0 0)] 97)] 1) (fun (x43_3 : Bool) => g_der_Int.j3 b_2 x43_3 = some o2) ?_ ?_
  ·refine awp_region (sys _ _ []) 1 217 mk_U rfl rfl ?_
   refine c0_ rfl rfl .move rfl rfl ?_
   refine c0_ rfl rfl (r_lenS sl82 e8_len) rfl rfl ?_
   refine c0_ rfl rfl r_gtr rfl rfl ?_
   refine c0_ rfl rfl .move rfl rfl ?_
   rcases Bool.eq_false_or_eq_true (decide (1 < (b_2.length : Int))) with h8 | h8
   ·replace hg := cond_t h8 hg
    refine c0_ (gdv_t rfl rfl h8) rfl .move rfl rfl ?_
    obtain ⟨e, he, hg⟩ := bind_some hg
    refine c0_ (gdv_t rfl rfl h8) rfl (r_idxS sl82 e8_len (getI_ix he) (getI_at he)) rfl rfl ?_
    refine c0_ (gdv_t rfl rfl h8) rfl (r_loadE1 ty5 (enc_cell e8_len (getI_at he) (o := 0) (c := .int .u8 (e.toNat : Int)) rfl rfl)) rfl rfl ?_
    refine c0_ (gdv_t rfl rfl h8) rfl r_eql rfl rfl ?_
    refine c0_ (gdv_t rfl rfl h8) rfl .move rfl rfl ?_
    rcases Bool.eq_false_or_eq_true (decide ((e.toNat : Int) = 0)) with h9 | h9
    ·replace hg := cond_t h9 hg
     refine c0_ (gdv_t rfl rfl h9) rfl .move rfl rfl ?_
     obtain ⟨e_2, he_2, hg⟩ := bind_some hg
     refine c0_ (gdv_t rfl rfl h9) rfl (r_idxS sl82 e8_len (getI_ix he_2) (getI_at he_2)) rfl rfl ?_
     refine c0_ (gdv_t rfl rfl h9) rfl (r_loadE1 ty5 (enc_cell e8_len (getI_at he_2) (o := 0) (c := .int .u8 (e_2.toNat : Int)) rfl rfl)) rfl rfl ?_
     refine c0_ (gdv_t rfl rfl h9) rfl r_lss rfl rfl ?_
     refine c0_ (gdv_t rfl rfl h8) rfl (r_pickT h9) rfl rfl ?_
     refine c0_ (gdv_t rfl rfl h8) rfl .move rfl rfl ?_
     rcases Bool.eq_false_or_eq_true (decide ((e_2.toNat : Int) < 128)) with h10 | h10
     ·replace hg := cond_t h10 hg
      iterate 5 refine ch_skip (gdv_f rfl rfl h10) rfl ?_
      iterate 4 refine ch_skip rfl rfl ?_
      refine ch_skip (gdv_f rfl rfl h10) rfl ?_
      refine c0_ (gdv_t rfl rfl h8) rfl (r_pickT h10) rfl rfl ?_
      refine c0_ rfl rfl (r_pickT h8) rfl rfl ?_
      refine ch_n fun hU217_11 => ?_
      exact ⟨true, hg, Sub.lists [(0, 0)] rfl rfl ⟨⟨_, rfl, .ptr rfl⟩, ⟨_, rfl, .sl _ _⟩, ⟨_, rfl, .val _⟩, trivial⟩ ⟨.inl ⟨0, _, rfl, rfl, ⟨rfl, .cons (.val _) (.cons (.val _) (.cons (.val _) (.cons (.val _) .nil)))⟩⟩, trivial⟩⟩
     ·replace hg := cond_f h10 hg
      refine c0_ (gdv_t rfl rfl h10) rfl .move rfl rfl ?_
      refine c0_ (gdv_t rfl rfl h10) rfl (r_idxS sl82 e8_len (getI_ix he) (getI_at he)) rfl rfl ?_
      refine c0_ (gdv_t rfl rfl h10) rfl (r_loadE1 ty5 (enc_cell e8_len (getI_at he) (o := 0) (c := .int .u8 (e.toNat : Int)) rfl rfl)) rfl rfl ?_
      refine c0_ (gdv_t rfl rfl h10) rfl r_eql rfl rfl ?_
      refine c0_ (gdv_t rfl rfl h10) rfl .move rfl rfl ?_
      rcases Bool.eq_false_or_eq_true (decide ((e.toNat : Int) = 255)) with h12 | h12
      ·replace hg := cond_t h12 hg
       refine c0_ (gdv_t rfl rfl h12) rfl .move rfl rfl ?_
       refine c0_ (gdv_t rfl rfl h12) rfl (r_idxS sl82 e8_len (getI_ix he_2) (getI_at he_2)) rfl rfl ?_
       refine c0_ (gdv_t rfl rfl h12) rfl (r_loadE1 ty5 (enc_cell e8_len (getI_at he_2) (o := 0) (c := .int .u8 (e_2.toNat : Int)) rfl rfl)) rfl rfl ?_
       refine c0_ (gdv_t rfl rfl h12) rfl r_geq rfl rfl ?_
       refine c0_ (gdv_t rfl rfl h10) rfl (r_pickT h12) rfl rfl ?_
       refine c0_ (gdv_t rfl rfl h8) rfl (r_pickF h10) rfl rfl ?_
       refine c0_ rfl rfl (r_pickT h8) rfl rfl ?_
       refine ch_n fun hU217_13 => ?_
       exact ⟨decide (128 ≤ (e_2.toNat : Int)), hg, Sub.lists [(0, 0)] rfl rfl ⟨⟨_, rfl, .ptr rfl⟩, ⟨_, rfl, .sl _ _⟩, ⟨_, rfl, .val _⟩, trivial⟩ ⟨.inl ⟨0, _, rfl, rfl, ⟨rfl, .cons (.val _) (.cons (.val _) (.cons (.val _) (.cons (.val _) .nil)))⟩⟩, trivial⟩⟩
      ·replace hg := cond_f h12 hg
       iterate 4 refine ch_skip (gdv_f rfl rfl h12) rfl ?_
       refine c0_ (gdv_t rfl rfl h10) rfl (r_pickF h12) rfl rfl ?_
       refine c0_ (gdv_t rfl rfl h8) rfl (r_pickF h10) rfl rfl ?_
       refine c0_ rfl rfl (r_pickT h8) rfl rfl ?_
       refine ch_n fun hU217_14 => ?_
       exact ⟨false, hg, Sub.lists [(0, 0)] rfl rfl ⟨⟨_, rfl, .ptr rfl⟩, ⟨_, rfl, .sl _ _⟩, ⟨_, rfl, .val _⟩, trivial⟩ ⟨.inl ⟨0, _, rfl, rfl, ⟨rfl, .cons (.val _) (.cons (.val _) (.cons (.val _) (.cons (.val _) .nil)))⟩⟩, trivial⟩⟩
    ·replace hg := cond_f h9 hg
     iterate 4 refine ch_skip (gdv_f rfl rfl h9) rfl ?_
     refine c0_ (gdv_t rfl rfl h8) rfl (r_pickF h9) rfl rfl ?_
     refine c0_ (gdv_t rfl rfl h8) rfl .move rfl rfl ?_
     refine c0_ (gdv_t rfl rfl rfl) rfl .move rfl rfl ?_
     refine c0_ (gdv_t rfl rfl rfl) rfl (r_idxS sl82 e8_len (getI_ix he) (getI_at he)) rfl rfl ?_
     refine c0_ (gdv_t rfl rfl rfl) rfl (r_loadE1 ty5 (enc_cell e8_len (getI_at he) (o := 0) (c := .int .u8 (e.toNat : Int)) rfl rfl)) rfl rfl ?_
     refine c0_ (gdv_t rfl rfl rfl) rfl r_eql rfl rfl ?_
     refine c0_ (gdv_t rfl rfl rfl) rfl .move rfl rfl ?_
     rcases Bool.eq_false_or_eq_true (decide ((e.toNat : Int) = 255)) with h15 | h15
     ·replace hg := cond_t h15 hg
      refine c0_ (gdv_t rfl rfl h15) rfl .move rfl rfl ?_
      obtain ⟨e_3, he_3, hg⟩ := bind_some hg
      refine c0_ (gdv_t rfl rfl h15) rfl (r_idxS sl82 e8_len (getI_ix he_3) (getI_at he_3)) rfl rfl ?_
      refine c0_ (gdv_t rfl rfl h15) rfl (r_loadE1 ty5 (enc_cell e8_len (getI_at he_3) (o := 0) (c := .int .u8 (e_3.toNat : Int)) rfl rfl)) rfl rfl ?_
      refine c0_ (gdv_t rfl rfl h15) rfl r_geq rfl rfl ?_
      refine c0_ (gdv_t rfl rfl rfl) rfl (r_pickT h15) rfl rfl ?_
      refine c0_ (gdv_t rfl rfl h8) rfl (r_pickF rfl) rfl rfl ?_
      refine c0_ rfl rfl (r_pickT h8) rfl rfl ?_
      refine ch_n fun hU217_16 => ?_
      exact ⟨decide (128 ≤ (e_3.toNat : Int)), hg, Sub.lists [(0, 0)] rfl rfl ⟨⟨_, rfl, .ptr rfl⟩, ⟨_, rfl, .sl _ _⟩, ⟨_, rfl, .val _⟩, trivial⟩ ⟨.inl ⟨0, _, rfl, rfl, ⟨rfl, .cons (.val _) (.cons (.val _) (.cons (.val _) (.cons (.val _) .nil)))⟩⟩, trivial⟩⟩
     ·replace hg := cond_f h15 hg
      iterate 4 refine ch_skip (gdv_f rfl rfl h15) rfl ?_
      refine c0_ (gdv_t rfl rfl rfl) rfl (r_pickF h15) rfl rfl ?_
      refine c0_ (gdv_t rfl rfl h8) rfl (r_pickF rfl) rfl rfl ?_
      refine c0_ rfl rfl (r_pickT h8) rfl rfl ?_
      refine ch_n fun hU217_17 => ?_
      exact ⟨false, hg, Sub.lists [(0, 0)] rfl rfl ⟨⟨_, rfl, .ptr rfl⟩, ⟨_, rfl, .sl _ _⟩, ⟨_, rfl, .val _⟩, trivial⟩ ⟨.inl ⟨0, _, rfl, rfl, ⟨rfl, .cons (.val _) (.cons (.val _) (.cons (.val _) (.cons (.val _) .nil)))⟩⟩, trivial⟩⟩
   ·replace hg := cond_f h8 hg
    iterate 5 refine ch_skip (gdv_f rfl rfl h8) rfl ?_
    iterate 4 refine ch_skip rfl rfl ?_
    refine ch_skip (gdv_f rfl rfl h8) rfl ?_
    refine ch_skip (gdv_f rfl rfl h8) rfl ?_
    iterate 10 refine ch_skip rfl rfl ?_
    refine ch_skip (gdv_f rfl rfl h8) rfl ?_
    refine c0_ rfl rfl (r_pickF h8) rfl rfl ?_
    refine ch_n fun hU217_18 => ?_
    exact ⟨false, hg, Sub.lists [(0, 0)] rfl rfl ⟨⟨_, rfl, .ptr rfl⟩, ⟨_, rfl, .sl _ _⟩, ⟨_, rfl, .val _⟩, trivial⟩ ⟨.inl ⟨0, _, rfl, rfl, ⟨rfl, .cons (.val _) (.cons (.val _) (.cons (.val _) (.cons (.val _) .nil)))⟩⟩, trivial⟩⟩
  ·rintro x43_3 hg
   replace hg : g_der_Int.j3 b_2 x43_3 = some o2 := hg
   show awp _ _ _ _ (mk _ _ _)
   unfold g_der_Int.j3 at hg
   refine awp_cond rfl (fun h19 => ?_) (fun h19 => ?_)
   ·replace hg := cond_t h19 hg
    refine aw_s ?_
    refine awp_block ?_
    refine awp_region (sys _ _ []) 1 25 mk_U rfl rfl ?_
    refine c0_ rfl rfl .move rfl rfl ?_
    obtain ⟨l_2, hl_2, hg⟩ := bind_some hg
    refine c0_ rfl rfl (r_sliS_lo sl82 e8_len hl_2) rfl rfl ?_
    refine c0_ rfl rfl .assign rfl rfl ?_
    refine ch_n fun hU25_20 => ?_
    obtain rfl := Option.some.inj hg
    exact ⟨(l_2, m2), Nat.lt_succ_self _, hn2, Sub.lists [(0, 0)] rfl rfl ⟨⟨_, rfl, .ptr rfl⟩, ⟨_, rfl, .sl _ _⟩, trivial⟩ ⟨.inl ⟨0, _, rfl, rfl, ⟨rfl, .cons (.val _) (.cons (.val _) (.cons (.val _) (.cons (.val _) .nil)))⟩⟩, trivial⟩⟩
   ·replace hg := cond_f h19 hg
    refine awp_exit ?_
    repeat first | refine st_ ?_ | refine sn_ ?_
    replace hg := leave hg hn2
    refine sr_ 1 25 mk_U ?_
    refine c0_ rfl rfl .move rfl rfl ?_
    refine c0_ rfl rfl (.build (r := [.val (.int .i64 2), .sl 1 (encL e8 b_2), .val (.bool false), .val (.slice none 0 0)]) und97 pl97 z97 (by kernel_rfl) rfl) rfl rfl ?_
    refine ch_s (rd := [0]) rfl rfl (r_storeB (ds' := [.val (.int .i64 2), .sl 1 (encL e8 b_2), .val (.bool false), .val (.slice none 0 0)]) ty97 rfl (Nat.le_of_ble_eq_true rfl) rfl rfl) rfl rfl ?_
    refine ch_n fun hU25_21 => ?_
    refine aw_r ?_
    obtain rfl := Option.some.inj hg
    exact ⟨[_], _, [], [], .cons (.cellA rfl rfl ty97 rfl) .nil, ⟨rfl, rfl⟩, .agg (.cons (.val _) (.cons (.sl _ _) (.cons (.val _) (.cons (.nils _) .nil)))), trivial, rfl, rfl, rfl, rfl⟩
theorem w_bytes_Clone (b : (List UInt8)) (r : (List UInt8)) (hg : g_bytes_Clone b = some r) : Fn Try.prog 110 0 [.sl 1 (encL e8 b)] [] (fun d b => d = .sl 1 (encL e8 r) ∧ b = []) := by
 unfold g_bytes_Clone at hg
 refine Fn.of Try.func110 rfl rfl rfl fun w0 I ρ0 => ?_
 show awp _ ⟨w0, I, ρ0, 0, 0, 8⟩ _ _ _
 refine sr_ 0 8 mk_U ?_
 refine c0_ rfl rfl .assign rfl rfl ?_
 refine ch_n fun hU8_1 => ?_
 refine awp_seq ?_
 refine awp_cut (ι := Bool) (fun (x4_1 : Bool) => mk [(0, .sl 1 (encL e8 b)), (4, .val (.bool x4_1))] [] 0) (fun (x4_1 : Bool) => g_bytes_Clone.j1 b x4_1 = some r) ?_ ?_
 ·refine awp_region (sys _ _ []) 8 24 hU8_1 rfl rfl ?_
  refine c0_ rfl rfl .move rfl rfl ?_
  refine ch_nilE rfl rfl ⟨_, und82⟩ rfl ?_
  intro bz hz2
  rcases bz with _ | _
  ·replace hg := nilC_f hg
   refine ch_n fun hU24_4 => ?_
   exact ⟨false, hg, Sub.lists [] rfl rfl ⟨⟨_, rfl, .sl _ _⟩, ⟨_, rfl, .val _⟩, trivial⟩ trivial⟩
  ·replace hg := nilC_t ((nil_of_enc e8_len (by decide) (hz2 rfl))) hg
   refine ch_n fun hU24_3 => ?_
   exact ⟨true, hg, Sub.lists [] rfl rfl ⟨⟨_, rfl, .sl _ _⟩, ⟨_, rfl, .val _⟩, trivial⟩ trivial⟩
 ·rintro x4_1 hg
  replace hg : g_bytes_Clone.j1 b x4_1 = some r := hg
  show awp _ _ _ _ (mk _ _ _)
  unfold g_bytes_Clone.j1 at hg
  refine awp_cond rfl (fun h5 => ?_) (fun h5 => ?_)
  ·replace hg := cond_t h5 hg
   refine sr_ 0 8 mk_U ?_
   refine c0_ rfl rfl .assign rfl rfl ?_
   refine ch_n fun hU8_6 => ?_
   refine aw_r ?_
   obtain rfl := Option.some.inj hg
   exact ⟨[_], _, [], [], .cons (.tmp rfl) .nil, ⟨rfl, rfl⟩, .nils _, trivial, rfl, rfl, rfl, rfl⟩
  ·replace hg := cond_f h5 hg
   refine aw_s ?_
   refine sr_ 0 32 mk_U ?_
   refine c0_ rfl rfl (r_buildFull sl82 z5 (by decide) rfl rfl rfl rfl ck5 (cs := []) .nil rfl (l := ([] : List UInt8)) (f := e8) rfl) rfl rfl ?_
   refine c0_ rfl rfl .move rfl rfl ?_
   obtain ⟨l, hl, hg⟩ := bind_some hg
   refine ch_s (rd := [0]) rfl rfl (r_append sl82 e8_len .row rfl .sl rfl hl rfl) rfl rfl ?_
   refine c0_ rfl rfl .assign rfl rfl ?_
   refine ch_n fun hU32_7 => ?_
   refine aw_r ?_
   obtain rfl := Option.some.inj hg
   exact ⟨[_], _, [], [], .cons (.tmp rfl) .nil, ⟨rfl, rfl⟩, .frz rfl (look_ne rfl), trivial, rfl, rfl, rfl, rfl⟩
theorem w_der_copied.F (rec : (List api_Value) → Option ((List api_Value))) (hrec : ∀ (l : (List api_Value)) (r : (List api_Value)), rec l = some r → Fn Try.prog 108 0 [.sl 4 (encL api_Value.enc l)] [] (fun d b => d = .sl 4 (encL api_Value.enc r) ∧ b = [])) (l : (List api_Value)) (r : (List api_Value)) (hg : g_der_copied.F rec l = some r) : Fn Try.prog 108 0 [.sl 4 (encL api_Value.enc l)] [] (fun d b => d = .sl 4 (encL api_Value.enc r) ∧ b = []) := by
 unfold g_der_copied.F at hg
 refine Fn.of Try.func108 rfl rfl rfl fun w0 I ρ0 => ?_
 show awp _ ⟨w0, I, ρ0, 0, 0, 26⟩ _ _ _
 refine sr_ 0 8 mk_U ?_
 refine c0_ rfl rfl .assign rfl rfl ?_
 refine ch_n fun hU8_1 => ?_
 refine sr_ 8 16 hU8_1 ?_
 refine c0_ rfl rfl .assign rfl rfl ?_
 refine ch_n fun hU16_2 => ?_
 refine awp_seq ?_
 refine sr_ 16 40 hU16_2 ?_
 refine c0_ rfl rfl .move rfl rfl ?_
 refine c0_ rfl rfl (r_lenS sl95 api_Value.enc_len) rfl rfl ?_
 refine c0_ rfl rfl .move rfl rfl ?_
 refine ch_n fun hU40_3 => ?_
 refine awp_block ?_
 obtain ⟨n1, hg⟩ := loop_some hg
 refine awp_loop (ι := (Int × List api_Value) × Nat) (fun (((x8_1, out_1), _) : (Int × List api_Value) × Nat) => mk [(3, .row 0), (6, .sl 4 (encL api_Value.enc l)), (7, .val (.int .i64 (l.length : Int))), (8, .val (.int .i64 x8_1))] [(0, .row 97 4 (encL api_Value.enc out_1))] 1) (fun (((x8_1, out_1), nq') : (Int × List api_Value) × Nat) => iter (fun q' => g_der_copied.l1 rec l q'.1 q'.2) nq' (x8_1, out_1) = some r) (fun q => q.2) ((0, ([] : List api_Value)), n1) (Sub.lists [] rfl rfl ⟨⟨_, rfl, .nil rfl⟩, ⟨_, rfl, .sl _ _⟩, ⟨_, rfl, .val _⟩, ⟨_, rfl, .val _⟩, trivial⟩ ⟨.inr ⟨rfl, _, _, rfl⟩, trivial⟩) hg ?_
 rintro ⟨⟨x8_1, out_1⟩, n1⟩ hg
 obtain ⟨m1, o1, rfl, hg, hn1⟩ := iter_some (show iter (fun q' => g_der_copied.l1 rec l q'.1 q'.2) n1 (x8_1, out_1) = some r from hg)
 replace hg : g_der_copied.l1 rec l x8_1 out_1 = some o1 := hg
 show awp _ _ _ _ (mk _ _ _)
 unfold g_der_copied.l1 at hg
 refine sr_ 1 9 mk_U ?_
 refine c0_ rfl rfl r_lss rfl rfl ?_
 refine ch_n fun hU9_4 => ?_
 refine awp_seq ?_
 refine awp_cond rfl (fun h5 => ?_) (fun h5 => ?_)
 ·replace hg := cond_t h5 hg
  refine aw_s ?_
  refine awp_seq ?_
  refine awp_block ?_
  refine sr_ 9 41 hU9_4 ?_
  obtain ⟨e, he, hg⟩ := bind_some hg
  refine c0_ rfl rfl (r_idxS sl95 api_Value.enc_len (getI_ix he) (getI_at he)) rfl rfl ?_
  refine c0_ rfl rfl (r_loadEA ty97 (enc_cells api_Value.enc_len (getI_at he) (o := 0) (m := 4) (cs := [.int .i64 e.Tag, .sl 1 (encL e8 e.Bytes), .bool e.Nested, .sl 4 (encL api_Value.enc e.Elements)]) (by simp only [api_Value.enc_eq]; rfl) (by decide) rfl) (enc_cells_le api_Value.enc_len (getI_at he) (o := 0) (m := 4) (by decide) rfl)) rfl rfl ?_
  refine c0_ rfl rfl (.alloc z97) rfl rfl ?_
  refine ch_s (rd := [25]) rfl rfl (r_storeB (ds' := [.val (.int .i64 e.Tag), .sl 1 (encL e8 e.Bytes), .val (.bool e.Nested), .sl 4 (encL api_Value.enc e.Elements)]) ty97 rfl (Nat.le_of_ble_eq_true rfl) rfl rfl) rfl rfl ?_
  refine ch_n fun hU41_6 => ?_
  refine awp_seq ?_
  refine awp_draw (sys _ _ []) (by kernel_rfl) [0, 1, 3, 0, 8, 31, 31, 127, 255, 511] 41 121 hU41_6 rfl rfl (by kernel_rfl) ?_
  refine c0_ rfl rfl (.fieldP fd97_1 ty82 (by decide)) rfl rfl ?_
  refine ch_s (rd := [25]) rfl rfl (.loadB1 ty82 rfl) rfl rfl ?_
  obtain ⟨y, hy, hg⟩ := bind_some hg
  refine ch_callP (rd := []) (ps := []) (gs := []) false rfl (w_bytes_Clone e.Bytes _ hy) rfl rfl (.cons .sl .nil) rfl rfl (by intro h; cases h) rfl rfl rfl rfl ?_
  refine c0_ rfl rfl (.fieldP fd97_3 ty95 (by decide)) rfl rfl ?_
  refine ch_s (rd := [25]) rfl rfl (.loadB1 ty95 rfl) rfl rfl ?_
  obtain ⟨y_2, hy_2, hg⟩ := bind_some hg
  refine ch_callP (rd := []) (ps := []) (gs := []) false rfl (hrec e.Elements _ hy_2) rfl rfl (.cons .sl .nil) rfl rfl (by intro h; cases h) rfl rfl rfl rfl ?_
  refine c0_ rfl rfl (.fieldP fd97_1 ty82 (by decide)) rfl rfl ?_
  refine ch_s (rd := [25]) rfl rfl (r_storeB (ds' := [.val (.int .i64 e.Tag), .sl 1 (encL e8 y), .val (.bool e.Nested), .sl 4 (encL api_Value.enc e.Elements)]) ty82 rfl (Nat.le_of_ble_eq_true rfl) rfl rfl) rfl rfl ?_
  refine c0_ rfl rfl (.fieldP fd97_3 ty95 (by decide)) rfl rfl ?_
  refine ch_s (rd := [25]) rfl rfl (r_storeB (ds' := [.val (.int .i64 e.Tag), .sl 1 (encL e8 y), .val (.bool e.Nested), .sl 4 (encL api_Value.enc y_2)]) ty95 rfl (Nat.le_of_ble_eq_true rfl) rfl rfl) rfl rfl ?_
  refine ch_n fun hU121_7 => ?_
  refine awp_region (sys _ _ []) 121 161 hU121_7 rfl rfl ?_
  refine c0_ rfl rfl .move rfl rfl ?_
  refine ch_s (rd := [25]) rfl rfl (.loadBA ty97 (Nat.le_of_ble_eq_true rfl)) rfl rfl ?_
  refine c0_ rfl rfl (r_buildFull sl95 z97 (by decide) rfl rfl rfl rfl ck97 (cs := [.int .i64 e.Tag, .sl 1 (encL e8 y), .bool e.Nested, .sl 4 (encL api_Value.enc y_2)]) (.cons .int (.cons .sl (.cons .bool (.cons .sl .nil)))) rfl (l := ([(api_Value.mk e.Tag y e.Nested y_2)] : List api_Value)) (f := api_Value.enc) (by simp only [encL, List.flatMap_cons, List.flatMap_nil, api_Value.enc_eq]; rfl)) rfl rfl ?_
  obtain ⟨l_2, hl_2, hg⟩ := bind_some hg
  refine ch_s (rd := [0, 137]) rfl rfl (r_append sl95 api_Value.enc_len .row rfl .row rfl hl_2 rfl) rfl rfl ?_
  refine c0_ rfl rfl .assign rfl rfl ?_
  refine ch_n fun hU161_8 => ?_
  refine awp_region (sys _ _ []) 161 177 hU161_8 rfl rfl ?_
  refine c0_ rfl rfl r_add rfl rfl ?_
  refine c0_ rfl rfl .move rfl rfl ?_
  refine ch_n fun hU177_9 => ?_
  obtain rfl := Option.some.inj hg
  exact ⟨((W (x8_1 + 1), l_2), m1), Nat.lt_succ_self _, hn1, Sub.lists [(0, 145)] rfl rfl ⟨⟨_, rfl, .row rfl⟩, ⟨_, rfl, .sl _ _⟩, ⟨_, rfl, .val _⟩, ⟨_, rfl, .val _⟩, trivial⟩ ⟨.inl ⟨145, _, rfl, rfl, ⟨rfl, rfl, rfl⟩⟩, trivial⟩⟩
 ·replace hg := cond_f h5 hg
  refine awp_exit ?_
  repeat first | refine st_ ?_ | refine sn_ ?_
  replace hg := leave hg hn1
  refine sr_ 9 25 hU9_4 ?_
  refine c0_ rfl rfl .move rfl rfl ?_
  refine c0_ rfl rfl .assign rfl rfl ?_
  refine ch_n fun hU25_10 => ?_
  refine aw_r ?_
  obtain rfl := Option.some.inj hg
  exact ⟨[_], _, [], [], .cons (.tmp rfl) .nil, ⟨rfl, rfl⟩, .frz rfl (look_ne rfl), trivial, rfl, rfl, rfl, rfl⟩
theorem w_der_copied (l : (List api_Value)) (r : (List api_Value)) (hg : g_der_copied l = some r) : Fn Try.prog 108 0 [.sl 4 (encL api_Value.enc l)] [] (fun d b => d = .sl 4 (encL api_Value.enc r) ∧ b = []) :=
 fixT_ind (motive := fun (x : (List api_Value)) (r : (List api_Value)) => Fn Try.prog 108 0 [.sl 4 (encL api_Value.enc x)] [] (fun d b => d = .sl 4 (encL api_Value.enc r) ∧ b = [])) (fun rec hrec x r h => w_der_copied.F _ (fun l r h => hrec l r h) x r h) l r hg
theorem w_der_Of (l : (List api_Value)) (r : api_Value) (hg : g_der_Of l = some r) : Fn Try.prog 96 0 [.sl 4 (encL api_Value.enc l)] [] (fun d b => d = .agg [.val (.int .i64 r.Tag), .sl 1 (encL e8 r.Bytes), .val (.bool r.Nested), .sl 4 (encL api_Value.enc r.Elements)] ∧ b = []) := by
 unfold g_der_Of at hg
 refine Fn.of Try.func96 rfl rfl rfl fun w0 I ρ0 => ?_
 show awp _ ⟨w0, I, ρ0, 0, 0, 6⟩ _ _ _
 refine sr_ 0 8 mk_U ?_
 refine c0_ rfl rfl (.alloc z97) rfl rfl ?_
 refine ch_n fun hU8_1 => ?_
 refine sr_ 8 40 hU8_1 ?_
 refine c0_ rfl rfl .move rfl rfl ?_
 obtain ⟨y, hy, hg⟩ := bind_some hg
 refine ch_callP (rd := []) (ps := []) (gs := []) false rfl (w_der_copied l _ hy) rfl rfl (.cons .sl .nil) rfl rfl (by intro h; cases h) rfl rfl rfl rfl ?_
 refine c0_ rfl rfl (.build (r := [.val (.int .i64 48), .val (.slice none 0 0), .val (.bool true), .sl 4 (encL api_Value.enc y)]) und97 pl97 z97 (by kernel_rfl) rfl) rfl rfl ?_
 refine ch_s (rd := [0]) rfl rfl (r_storeB (ds' := [.val (.int .i64 48), .val (.slice none 0 0), .val (.bool true), .sl 4 (encL api_Value.enc y)]) ty97 rfl (Nat.le_of_ble_eq_true rfl) rfl rfl) rfl rfl ?_
 refine ch_n fun hU40_2 => ?_
 refine aw_r ?_
 obtain rfl := Option.some.inj hg
 exact ⟨[_], _, [], [], .cons (.cellA rfl rfl ty97 rfl) .nil, ⟨rfl, rfl⟩, .agg (.cons (.val _) (.cons (.nils _) (.cons (.val _) (.cons (.sl _ _) .nil)))), trivial, rfl, rfl, rfl, rfl⟩
theorem w_certificate_Use (u : api_Use) (r : api_Value) (hg : g_certificate_Use u = some r) : Fn Try.prog 98 0 [.agg [.val (.int .i64 u.Alg), .val (.int .i64 u.Bits)]] [] (fun d b => d = .agg [.val (.int .i64 r.Tag), .sl 1 (encL e8 r.Bytes), .val (.bool r.Nested), .sl 4 (encL api_Value.enc r.Elements)] ∧ b = []) := by
 unfold g_certificate_Use at hg
 refine Fn.of Try.func98 rfl rfl rfl fun w0 I ρ0 => ?_
 show awp _ ⟨w0, I, ρ0, 0, 0, 11⟩ _ _ _
 refine sr_ 0 16 mk_U ?_
 refine c0_ rfl rfl (.box rfl) rfl rfl ?_
 refine c0_ rfl rfl (.alloc z97) rfl rfl ?_
 refine ch_n fun hU16_1 => ?_
 refine awp_seq ?_
 refine awp_draw (sys _ _ [64]) (by kernel_rfl) [0, 1, 3, 0, 8, 31, 63, 127, 255] 16 88 hU16_1 rfl rfl (by kernel_rfl) ?_
 refine c0_ rfl rfl (.fieldP fd40_0 ty3 (by decide)) rfl rfl ?_
 refine ch_s (rd := [0]) rfl rfl (.loadB1 ty3 rfl) rfl rfl ?_
 obtain ⟨y, hy, hg⟩ := bind_some hg
 refine ch_callP (rd := []) (ps := []) (gs := []) false rfl (w_der_Int u.Alg _ hy) rfl rfl (.cons .val .nil) rfl rfl (by intro h; cases h) rfl rfl rfl rfl ?_
 refine c0_ rfl rfl (.fieldP fd40_1 ty3 (by decide)) rfl rfl ?_
 refine ch_s (rd := [0]) rfl rfl (.loadB1 ty3 rfl) rfl rfl ?_
 obtain ⟨y_2, hy_2, hg⟩ := bind_some hg
 refine ch_callP (rd := []) (ps := []) (gs := []) false rfl (w_der_Int u.Bits _ hy_2) rfl rfl (.cons .val .nil) rfl rfl (by intro h; cases h) rfl rfl rfl rfl ?_
 refine ch_z (rd := []) rfl rfl (r_buildFull sl95 z97 (by decide) rfl rfl rfl rfl ck97 (cs := [.int .i64 y.Tag, .sl 1 (encL e8 y.Bytes), .bool y.Nested, .sl 4 (encL api_Value.enc y.Elements), .int .i64 y_2.Tag, .sl 1 (encL e8 y_2.Bytes), .bool y_2.Nested, .sl 4 (encL api_Value.enc y_2.Elements)]) (.cons .int (.cons .sl (.cons .bool (.cons .sl (.cons .int (.cons .sl (.cons .bool (.cons .sl .nil)))))))) rfl (l := ([y, y_2] : List api_Value)) (f := api_Value.enc) (by simp only [encL, List.flatMap_cons, List.flatMap_nil, api_Value.enc_eq]; rfl)) rfl rfl rfl ?_
 obtain ⟨y_3, hy_3, hg⟩ := bind_some hg
 refine ch_callP (rd := []) (ps := []) (gs := []) false rfl (w_der_Of ([y, y_2] : List api_Value) _ hy_3) rfl rfl (.cons .sl .nil) rfl rfl (by intro h; cases h) rfl rfl rfl rfl ?_
 refine ch_s (rd := [8]) rfl rfl (r_storeB (ds' := [.val (.int .i64 y_3.Tag), .sl 1 (encL e8 y_3.Bytes), .val (.bool y_3.Nested), .sl 4 (encL api_Value.enc y_3.Elements)]) ty97 rfl (Nat.le_of_ble_eq_true rfl) rfl rfl) rfl rfl ?_
 refine ch_n fun hU88_2 => ?_
 refine aw_r ?_
 obtain rfl := Option.some.inj hg
 exact ⟨[_], _, [], [], .cons (.cellA rfl rfl ty97 rfl) .nil, ⟨rfl, rfl⟩, .agg (.cons (.val _) (.cons (.sl _ _) (.cons (.val _) (.cons (.sl _ _) .nil)))), trivial, rfl, rfl, rfl, rfl⟩
theorem w_der_Bool (b : Bool) (r : api_Value) (hg : g_der_Bool b = some r) : Fn Try.prog 99 0 [.val (.bool b)] [] (fun d b => d = .agg [.val (.int .i64 r.Tag), .sl 1 (encL e8 r.Bytes), .val (.bool r.Nested), .sl 4 (encL api_Value.enc r.Elements)] ∧ b = []) := by
 unfold g_der_Bool at hg
 refine Fn.of Try.func99 rfl rfl rfl fun w0 I ρ0 => ?_
 show awp _ ⟨w0, I, ρ0, 0, 0, 8⟩ _ _ _
 refine sr_ 0 8 mk_U ?_
 refine c0_ rfl rfl (.alloc z97) rfl rfl ?_
 refine ch_n fun hU8_1 => ?_
 refine awp_seq ?_
 refine sr_ 8 16 hU8_1 ?_
 refine c0_ rfl rfl .move rfl rfl ?_
 refine ch_n fun hU16_2 => ?_
 refine awp_cond rfl (fun h3 => ?_) (fun h3 => ?_)
 ·replace hg := cond_t h3 hg
  refine sr_ 16 40 hU16_2 ?_
  refine c0_ rfl rfl (r_buildFull sl82 z5 (by decide) rfl rfl rfl rfl ck5 (cs := [.int .u8 255]) (.cons .int .nil) rfl (l := ([(255 : UInt8)] : List UInt8)) (f := e8) rfl) rfl rfl ?_
  refine c0_ rfl rfl (.build (r := [.val (.int .i64 1), .row 16, .val (.bool false), .val (.slice none 0 0)]) und97 pl97 z97 (by kernel_rfl) rfl) rfl rfl ?_
  refine ch_s (rd := [0]) rfl rfl (r_storeB (ds' := [.val (.int .i64 1), .row 16, .val (.bool false), .val (.slice none 0 0)]) ty97 rfl (Nat.le_of_ble_eq_true rfl) rfl rfl) rfl rfl ?_
  refine ch_n fun hU40_4 => ?_
  refine aw_r ?_
  obtain rfl := Option.some.inj hg
  exact ⟨[_], _, [], [], .cons (.cellA rfl rfl ty97 rfl) .nil, ⟨rfl, rfl⟩, .agg (.cons (.val _) (.cons (.frz rfl (look_ne rfl)) (.cons (.val _) (.cons (.nils _) .nil)))), trivial, rfl, rfl, rfl, rfl⟩
 ·replace hg := cond_f h3 hg
  refine aw_s ?_
  refine sr_ 16 40 hU16_2 ?_
  refine c0_ rfl rfl (r_buildFull sl82 z5 (by decide) rfl rfl rfl rfl ck5 (cs := [.int .u8 0]) (.cons .int .nil) rfl (l := ([(0 : UInt8)] : List UInt8)) (f := e8) rfl) rfl rfl ?_
  refine c0_ rfl rfl (.build (r := [.val (.int .i64 1), .row 16, .val (.bool false), .val (.slice none 0 0)]) und97 pl97 z97 (by kernel_rfl) rfl) rfl rfl ?_
  refine ch_s (rd := [0]) rfl rfl (r_storeB (ds' := [.val (.int .i64 1), .row 16, .val (.bool false), .val (.slice none 0 0)]) ty97 rfl (Nat.le_of_ble_eq_true rfl) rfl rfl) rfl rfl ?_
  refine ch_n fun hU40_5 => ?_
  refine aw_r ?_
  obtain rfl := Option.some.inj hg
  exact ⟨[_], _, [], [], .cons (.cellA rfl rfl ty97 rfl) .nil, ⟨rfl, rfl⟩, .agg (.cons (.val _) (.cons (.frz rfl (look_ne rfl)) (.cons (.val _) (.cons (.nils _) .nil)))), trivial, rfl, rfl, rfl, rfl⟩
theorem w_der_List (l : (List api_Value)) (r : api_Value) (hg : g_der_List l = some r) : Fn Try.prog 100 0 [.sl 4 (encL api_Value.enc l)] [] (fun d b => d = .agg [.val (.int .i64 r.Tag), .sl 1 (encL e8 r.Bytes), .val (.bool r.Nested), .sl 4 (encL api_Value.enc r.Elements)] ∧ b = []) := by
 unfold g_der_List at hg
 refine Fn.of Try.func100 rfl rfl rfl fun w0 I ρ0 => ?_
 show awp _ ⟨w0, I, ρ0, 0, 0, 5⟩ _ _ _
 refine sr_ 0 8 mk_U ?_
 refine c0_ rfl rfl (.alloc z97) rfl rfl ?_
 refine ch_n fun hU8_1 => ?_
 refine sr_ 8 32 hU8_1 ?_
 refine c0_ rfl rfl .move rfl rfl ?_
 obtain ⟨y, hy, hg⟩ := bind_some hg
 refine ch_callP (rd := []) (ps := []) (gs := []) false rfl (w_der_Of l _ hy) rfl rfl (.cons .sl .nil) rfl rfl (by intro h; cases h) rfl rfl rfl rfl ?_
 refine ch_s (rd := [0]) rfl rfl (r_storeB (ds' := [.val (.int .i64 y.Tag), .sl 1 (encL e8 y.Bytes), .val (.bool y.Nested), .sl 4 (encL api_Value.enc y.Elements)]) ty97 rfl (Nat.le_of_ble_eq_true rfl) rfl rfl) rfl rfl ?_
 refine ch_n fun hU32_2 => ?_
 refine aw_r ?_
 obtain rfl := Option.some.inj hg
 exact ⟨[_], _, [], [], .cons (.cellA rfl rfl ty97 rfl) .nil, ⟨rfl, rfl⟩, .agg (.cons (.val _) (.cons (.sl _ _) (.cons (.val _) (.cons (.sl _ _) .nil)))), trivial, rfl, rfl, rfl, rfl⟩
theorem w_certificate_body (c : api_Certificate) (r : api_Value) (hg : g_certificate_body c = some r) : Fn Try.prog 83 0 [.agg [.val (.int .i64 c.Serial), .val (.string c.Issuer), .val (.string c.Subject), .val (.int .i64 c.Key.Alg), .val (.int .i64 c.Key.Bits), .val (.int .i64 c.KeyId), .val (.int .i64 c.Hash.Alg), .val (.int .i64 c.Hash.Bits), .val (.int .i64 c.From), .val (.int .i64 c.To), .val (.bool c.Authority), .val (.int .i64 c.Path), .sl 1 (encL eS c.Names), .val (.int .i64 c.Seal.Key), .val (.int .i64 c.Seal.Sum)]] [] (fun d b => d = .agg [.val (.int .i64 r.Tag), .sl 1 (encL e8 r.Bytes), .val (.bool r.Nested), .sl 4 (encL api_Value.enc r.Elements)] ∧ b = []) := by
 unfold g_certificate_body at hg
 refine Fn.of Try.func83 rfl rfl rfl fun w0 I ρ0 => ?_
 show awp _ ⟨w0, I, ρ0, 0, 0, 53⟩ _ _ _
 refine sr_ 0 16 mk_U ?_
 refine c0_ rfl rfl (.box rfl) rfl rfl ?_
 refine c0_ rfl rfl (.alloc z97) rfl rfl ?_
 refine ch_n fun hU16_1 => ?_
 refine sr_ 16 24 hU16_1 ?_
 refine c0_ rfl rfl .assign rfl rfl ?_
 refine ch_n fun hU24_2 => ?_
 refine awp_seq ?_
 refine sr_ 24 56 hU24_2 ?_
 refine c0_ rfl rfl (.fieldP fd45_10 ty41 (by decide)) rfl rfl ?_
 refine ch_s (rd := [0]) rfl rfl (.loadB1 ty41 rfl) rfl rfl ?_
 refine c0_ rfl rfl (r_lenS sl41 eS_len) rfl rfl ?_
 refine c0_ rfl rfl .move rfl rfl ?_
 refine ch_n fun hU56_3 => ?_
 refine awp_block ?_
 obtain ⟨n1, hg⟩ := loop_some hg
 refine awp_loop (ι := (Int × List api_Value) × Nat) (fun (((x9_1, names_1), _) : (Int × List api_Value) × Nat) => mk [(1, .ptr 0 0), (2, .ptr 1 0), (3, .row 2), (7, .sl 1 (encL eS c.Names)), (8, .val (.int .i64 (c.Names.length : Int))), (9, .val (.int .i64 x9_1))] [(0, .box [.val (.int .i64 c.Serial), .val (.string c.Issuer), .val (.string c.Subject), .val (.int .i64 c.Key.Alg), .val (.int .i64 c.Key.Bits), .val (.int .i64 c.KeyId), .val (.int .i64 c.Hash.Alg), .val (.int .i64 c.Hash.Bits), .val (.int .i64 c.From), .val (.int .i64 c.To), .val (.bool c.Authority), .val (.int .i64 c.Path), .sl 1 (encL eS c.Names), .val (.int .i64 c.Seal.Key), .val (.int .i64 c.Seal.Sum)] 45), (1, .box [.val (.int .i64 0), .val (.slice none 0 0), .val (.bool false), .val (.slice none 0 0)] 97), (2, .row 97 4 (encL api_Value.enc names_1))] 3) (fun (((x9_1, names_1), nq') : (Int × List api_Value) × Nat) => iter (fun q' => g_certificate_body.l1 c q'.1 q'.2) nq' (x9_1, names_1) = some r) (fun q => q.2) ((0, ([] : List api_Value)), n1) (Sub.lists [(0, 0), (1, 8)] rfl rfl ⟨⟨_, rfl, .ptr rfl⟩, ⟨_, rfl, .ptr rfl⟩, ⟨_, rfl, .nil rfl⟩, ⟨_, rfl, .sl _ _⟩, ⟨_, rfl, .val _⟩, ⟨_, rfl, .val _⟩, trivial⟩ ⟨.inl ⟨0, _, rfl, rfl, ⟨rfl, .cons (.val _) (.cons (.val _) (.cons (.val _) (.cons (.val _) (.cons (.val _) (.cons (.val _) (.cons (.val _) (.cons (.val _) (.cons (.val _) (.cons (.val _) (.cons (.val _) (.cons (.val _) (.cons (.sl _ _) (.cons (.val _) (.cons (.val _) .nil))))))))))))))⟩⟩, .inl ⟨8, _, rfl, rfl, ⟨rfl, .cons (.val _) (.cons (.val _) (.cons (.val _) (.cons (.val _) .nil)))⟩⟩, .inr ⟨rfl, _, _, rfl⟩, trivial⟩) hg ?_
 rintro ⟨⟨x9_1, names_1⟩, n1⟩ hg
 obtain ⟨m1, o1, rfl, hg, hn1⟩ := iter_some (show iter (fun q' => g_certificate_body.l1 c q'.1 q'.2) n1 (x9_1, names_1) = some r from hg)
 replace hg : g_certificate_body.l1 c x9_1 names_1 = some o1 := hg
 show awp _ _ _ _ (mk _ _ _)
 unfold g_certificate_body.l1 at hg
 refine sr_ 3 11 mk_U ?_
 refine c0_ rfl rfl r_lss rfl rfl ?_
 refine ch_n fun hU11_4 => ?_
 refine awp_seq ?_
 refine awp_cond rfl (fun h5 => ?_) (fun h5 => ?_)
 ·replace hg := cond_t h5 hg
  refine aw_s ?_
  refine awp_seq ?_
  refine awp_block ?_
  refine sr_ 11 35 hU11_4 ?_
  obtain ⟨e, he, hg⟩ := bind_some hg
  refine c0_ rfl rfl (r_idxS sl41 eS_len (getI_ix he) (getI_at he)) rfl rfl ?_
  refine c0_ rfl rfl (r_loadE1 ty9 (enc_cell eS_len (getI_at he) (o := 0) (c := .str e) rfl rfl)) rfl rfl ?_
  refine c0_ rfl rfl .assign rfl rfl ?_
  refine ch_n fun hU35_6 => ?_
  refine awp_region (sys _ _ []) 35 83 hU35_6 rfl rfl ?_
  refine c0_ rfl rfl .move rfl rfl ?_
  refine c0_ rfl rfl .move rfl rfl ?_
  obtain ⟨y, hy, hg⟩ := bind_some hg
  refine ch_callP (rd := []) (ps := []) (gs := []) false rfl (w_der_Text e _ hy) rfl rfl (.cons .val .nil) rfl rfl (by intro h; cases h) rfl rfl rfl rfl ?_
  refine c0_ rfl rfl (r_buildFull sl95 z97 (by decide) rfl rfl rfl rfl ck97 (cs := [.int .i64 y.Tag, .sl 1 (encL e8 y.Bytes), .bool y.Nested, .sl 4 (encL api_Value.enc y.Elements)]) (.cons .int (.cons .sl (.cons .bool (.cons .sl .nil)))) rfl (l := ([y] : List api_Value)) (f := api_Value.enc) (by simp only [encL, List.flatMap_cons, List.flatMap_nil, api_Value.enc_eq]; rfl)) rfl rfl ?_
  obtain ⟨l, hl, hg⟩ := bind_some hg
  refine ch_s (rd := [2, 59]) rfl rfl (r_append sl95 api_Value.enc_len .row rfl .row rfl hl rfl) rfl rfl ?_
  refine c0_ rfl rfl .assign rfl rfl ?_
  refine ch_n fun hU83_7 => ?_
  refine awp_region (sys _ _ []) 83 99 hU83_7 rfl rfl ?_
  refine c0_ rfl rfl r_add rfl rfl ?_
  refine c0_ rfl rfl .move rfl rfl ?_
  refine ch_n fun hU99_8 => ?_
  obtain rfl := Option.some.inj hg
  exact ⟨((W (x9_1 + 1), l), m1), Nat.lt_succ_self _, hn1, Sub.lists [(0, 0), (1, 1), (2, 67)] rfl rfl ⟨⟨_, rfl, .ptr rfl⟩, ⟨_, rfl, .ptr rfl⟩, ⟨_, rfl, .row rfl⟩, ⟨_, rfl, .sl _ _⟩, ⟨_, rfl, .val _⟩, ⟨_, rfl, .val _⟩, trivial⟩ ⟨.inl ⟨0, _, rfl, rfl, ⟨rfl, .cons (.val _) (.cons (.val _) (.cons (.val _) (.cons (.val _) (.cons (.val _) (.cons (.val _) (.cons (.val _) (.cons (.val _) (.cons (.val _) (.cons (.val _) (.cons (.val _) (.cons (.val _) (.cons (.sl _ _) (.cons (.val _) (.cons (.val _) .nil))))))))))))))⟩⟩, .inl ⟨1, _, rfl, rfl, ⟨rfl, .cons (.val _) (.cons (.val _) (.cons (.val _) (.cons (.val _) .nil)))⟩⟩, .inl ⟨67, _, rfl, rfl, ⟨rfl, rfl, rfl⟩⟩, trivial⟩⟩
 ·replace hg := cond_f h5 hg
  refine awp_exit ?_
  repeat first | refine st_ ?_ | refine sn_ ?_
  replace hg := leave hg hn1
  refine awp_seq ?_
  refine awp_sub (σ' := mk [(1, .ptr 0 0), (2, .ptr 1 0), (3, .sl 4 (encL api_Value.enc names_1))] [(0, .box [.val (.int .i64 c.Serial), .val (.string c.Issuer), .val (.string c.Subject), .val (.int .i64 c.Key.Alg), .val (.int .i64 c.Key.Bits), .val (.int .i64 c.KeyId), .val (.int .i64 c.Hash.Alg), .val (.int .i64 c.Hash.Bits), .val (.int .i64 c.From), .val (.int .i64 c.To), .val (.bool c.Authority), .val (.int .i64 c.Path), .sl 1 (encL eS c.Names), .val (.int .i64 c.Seal.Key), .val (.int .i64 c.Seal.Sum)] 45), (1, .box [.val (.int .i64 0), .val (.slice none 0 0), .val (.bool false), .val (.slice none 0 0)] 97)] 2) (Sub.lists [(0, 0), (1, 1)] rfl rfl ⟨⟨_, rfl, .ptr rfl⟩, ⟨_, rfl, .ptr rfl⟩, ⟨_, rfl, .frz rfl (look_ne rfl)⟩, trivial⟩ ⟨.inl ⟨0, _, rfl, rfl, ⟨rfl, .cons (.val _) (.cons (.val _) (.cons (.val _) (.cons (.val _) (.cons (.val _) (.cons (.val _) (.cons (.val _) (.cons (.val _) (.cons (.val _) (.cons (.val _) (.cons (.val _) (.cons (.val _) (.cons (.sl _ _) (.cons (.val _) (.cons (.val _) .nil))))))))))))))⟩⟩, .inl ⟨1, _, rfl, rfl, ⟨rfl, .cons (.val _) (.cons (.val _) (.cons (.val _) (.cons (.val _) .nil)))⟩⟩, trivial⟩) ?_
  refine awp_draw (sys _ _ [258]) (by kernel_rfl) [0, 1, 3, 0, 8, 31, 0, 64, 255, 0, 512, 2047, 0, 4096, 16383, 0, 32768, 131071, 0, 262144, 1048575, 0, 2097152, 8388607, 0, 16777216, 67108863, 0, 134217728, 536870911, 0, 2147483647, 4294967295, 8589934591, 17179869183] 2 282 mk_U rfl rfl (by kernel_rfl) ?_
  refine c0_ rfl rfl (.fieldP fd45_0 ty3 (by decide)) rfl rfl ?_
  refine ch_s (rd := [0]) rfl rfl (.loadB1 ty3 rfl) rfl rfl ?_
  obtain ⟨y_12, hy_12, hg⟩ := bind_some hg
  refine ch_callP (rd := []) (ps := []) (gs := []) false rfl (w_der_Int c.Serial _ hy_12) rfl rfl (.cons .val .nil) rfl rfl (by intro h; cases h) rfl rfl rfl rfl ?_
  refine c0_ rfl rfl (.fieldP fd45_1 ty9 (by decide)) rfl rfl ?_
  refine ch_s (rd := [0]) rfl rfl (.loadB1 ty9 rfl) rfl rfl ?_
  obtain ⟨y_13, hy_13, hg⟩ := bind_some hg
  refine ch_callP (rd := []) (ps := []) (gs := []) false rfl (w_der_Text c.Issuer _ hy_13) rfl rfl (.cons .val .nil) rfl rfl (by intro h; cases h) rfl rfl rfl rfl ?_
  refine c0_ rfl rfl (.fieldP fd45_2 ty9 (by decide)) rfl rfl ?_
  refine ch_s (rd := [0]) rfl rfl (.loadB1 ty9 rfl) rfl rfl ?_
  obtain ⟨y_14, hy_14, hg⟩ := bind_some hg
  refine ch_callP (rd := []) (ps := []) (gs := []) false rfl (w_der_Text c.Subject _ hy_14) rfl rfl (.cons .val .nil) rfl rfl (by intro h; cases h) rfl rfl rfl rfl ?_
  refine c0_ rfl rfl (.fieldP fd45_3 ty40 (by decide)) rfl rfl ?_
  refine ch_s (rd := [0]) rfl rfl (.loadBA ty40 (Nat.le_of_ble_eq_true rfl)) rfl rfl ?_
  obtain ⟨y_15, hy_15, hg⟩ := bind_some hg
  refine ch_callP (rd := []) (ps := []) (gs := []) false rfl (w_certificate_Use c.Key _ hy_15) rfl rfl (.cons (.agg (.cons .val (.cons .val .nil))) .nil) rfl rfl (by intro h; cases h) rfl rfl rfl rfl ?_
  refine c0_ rfl rfl (.fieldP fd45_4 ty3 (by decide)) rfl rfl ?_
  refine ch_s (rd := [0]) rfl rfl (.loadB1 ty3 rfl) rfl rfl ?_
  obtain ⟨y_16, hy_16, hg⟩ := bind_some hg
  refine ch_callP (rd := []) (ps := []) (gs := []) false rfl (w_der_Int c.KeyId _ hy_16) rfl rfl (.cons .val .nil) rfl rfl (by intro h; cases h) rfl rfl rfl rfl ?_
  refine c0_ rfl rfl (.fieldP fd45_5 ty40 (by decide)) rfl rfl ?_
  refine ch_s (rd := [0]) rfl rfl (.loadBA ty40 (Nat.le_of_ble_eq_true rfl)) rfl rfl ?_
  obtain ⟨y_17, hy_17, hg⟩ := bind_some hg
  refine ch_callP (rd := []) (ps := []) (gs := []) false rfl (w_certificate_Use c.Hash _ hy_17) rfl rfl (.cons (.agg (.cons .val (.cons .val .nil))) .nil) rfl rfl (by intro h; cases h) rfl rfl rfl rfl ?_
  refine c0_ rfl rfl (.fieldP fd45_6 ty3 (by decide)) rfl rfl ?_
  refine ch_s (rd := [0]) rfl rfl (.loadB1 ty3 rfl) rfl rfl ?_
  obtain ⟨y_18, hy_18, hg⟩ := bind_some hg
  refine ch_callP (rd := []) (ps := []) (gs := []) false rfl (w_der_Int c.From _ hy_18) rfl rfl (.cons .val .nil) rfl rfl (by intro h; cases h) rfl rfl rfl rfl ?_
  refine c0_ rfl rfl (.fieldP fd45_7 ty3 (by decide)) rfl rfl ?_
  refine ch_s (rd := [0]) rfl rfl (.loadB1 ty3 rfl) rfl rfl ?_
  obtain ⟨y_19, hy_19, hg⟩ := bind_some hg
  refine ch_callP (rd := []) (ps := []) (gs := []) false rfl (w_der_Int c.To _ hy_19) rfl rfl (.cons .val .nil) rfl rfl (by intro h; cases h) rfl rfl rfl rfl ?_
  refine c0_ rfl rfl (.fieldP fd45_8 ty4 (by decide)) rfl rfl ?_
  refine ch_s (rd := [0]) rfl rfl (.loadB1 ty4 rfl) rfl rfl ?_
  obtain ⟨y_20, hy_20, hg⟩ := bind_some hg
  refine ch_callP (rd := []) (ps := []) (gs := []) false rfl (w_der_Bool c.Authority _ hy_20) rfl rfl (.cons .val .nil) rfl rfl (by intro h; cases h) rfl rfl rfl rfl ?_
  refine c0_ rfl rfl (.fieldP fd45_9 ty3 (by decide)) rfl rfl ?_
  refine ch_s (rd := [0]) rfl rfl (.loadB1 ty3 rfl) rfl rfl ?_
  obtain ⟨y_21, hy_21, hg⟩ := bind_some hg
  refine ch_callP (rd := []) (ps := []) (gs := []) false rfl (w_der_Int c.Path _ hy_21) rfl rfl (.cons .val .nil) rfl rfl (by intro h; cases h) rfl rfl rfl rfl ?_
  refine c0_ rfl rfl .move rfl rfl ?_
  obtain ⟨y_22, hy_22, hg⟩ := bind_some hg
  refine ch_callP (rd := []) (ps := []) (gs := []) false rfl (w_der_List names_1 _ hy_22) rfl rfl (.cons .sl .nil) rfl rfl (by intro h; cases h) rfl rfl rfl rfl ?_
  refine ch_z (rd := []) rfl rfl (r_buildFull sl95 z97 (by decide) rfl rfl rfl rfl ck97 (cs := [.int .i64 y_12.Tag, .sl 1 (encL e8 y_12.Bytes), .bool y_12.Nested, .sl 4 (encL api_Value.enc y_12.Elements), .int .i64 y_13.Tag, .sl 1 (encL e8 y_13.Bytes), .bool y_13.Nested, .sl 4 (encL api_Value.enc y_13.Elements), .int .i64 y_14.Tag, .sl 1 (encL e8 y_14.Bytes), .bool y_14.Nested, .sl 4 (encL api_Value.enc y_14.Elements), .int .i64 y_15.Tag, .sl 1 (encL e8 y_15.Bytes), .bool y_15.Nested, .sl 4 (encL api_Value.enc y_15.Elements), .int .i64 y_16.Tag, .sl 1 (encL e8 y_16.Bytes), .bool y_16.Nested, .sl 4 (encL api_Value.enc y_16.Elements), .int .i64 y_17.Tag, .sl 1 (encL e8 y_17.Bytes), .bool y_17.Nested, .sl 4 (encL api_Value.enc y_17.Elements), .int .i64 y_18.Tag, .sl 1 (encL e8 y_18.Bytes), .bool y_18.Nested, .sl 4 (encL api_Value.enc y_18.Elements), .int .i64 y_19.Tag, .sl 1 (encL e8 y_19.Bytes), .bool y_19.Nested, .sl 4 (encL api_Value.enc y_19.Elements), .int .i64 y_20.Tag, .sl 1 (encL e8 y_20.Bytes), .bool y_20.Nested, .sl 4 (encL api_Value.enc y_20.Elements), .int .i64 y_21.Tag, .sl 1 (encL e8 y_21.Bytes), .bool y_21.Nested, .sl 4 (encL api_Value.enc y_21.Elements), .int .i64 y_22.Tag, .sl 1 (encL e8 y_22.Bytes), .bool y_22.Nested, .sl 4 (encL api_Value.enc y_22.Elements)]) (.cons .int (.cons .sl (.cons .bool (.cons .sl (.cons .int (.cons .sl (.cons .bool (.cons .sl (.cons .int (.cons .sl (.cons .bool (.cons .sl (.cons .int (.cons .sl (.cons .bool (.cons .sl (.cons .int (.cons .sl (.cons .bool (.cons .sl (.cons .int (.cons .sl (.cons .bool (.cons .sl (.cons .int (.cons .sl (.cons .bool (.cons .sl (.cons .int (.cons .sl (.cons .bool (.cons .sl (.cons .int (.cons .sl (.cons .bool (.cons .sl (.cons .int (.cons .sl (.cons .bool (.cons .sl (.cons .int (.cons .sl (.cons .bool (.cons .sl .nil)))))))))))))))))))))))))))))))))))))))))))) rfl (l := ([y_12, y_13, y_14, y_15, y_16, y_17, y_18, y_19, y_20, y_21, y_22] : List api_Value)) (f := api_Value.enc) (by simp only [encL, List.flatMap_cons, List.flatMap_nil, api_Value.enc_eq]; rfl)) rfl rfl rfl ?_
  obtain ⟨y_23, hy_23, hg⟩ := bind_some hg
  refine ch_callP (rd := []) (ps := []) (gs := []) false rfl (w_der_Of ([y_12, y_13, y_14, y_15, y_16, y_17, y_18, y_19, y_20, y_21, y_22] : List api_Value) _ hy_23) rfl rfl (.cons .sl .nil) rfl rfl (by intro h; cases h) rfl rfl rfl rfl ?_
  refine ch_s (rd := [1]) rfl rfl (r_storeB (ds' := [.val (.int .i64 y_23.Tag), .sl 1 (encL e8 y_23.Bytes), .val (.bool y_23.Nested), .sl 4 (encL api_Value.enc y_23.Elements)]) ty97 rfl (Nat.le_of_ble_eq_true rfl) rfl rfl) rfl rfl ?_
  refine ch_n fun hU282_9 => ?_
  refine aw_r ?_
  obtain rfl := Option.some.inj hg
  exact ⟨[_], _, [], [], .cons (.cellA rfl rfl ty97 rfl) .nil, ⟨rfl, rfl⟩, .agg (.cons (.val _) (.cons (.sl _ _) (.cons (.val _) (.cons (.sl _ _) .nil)))), trivial, rfl, rfl, rfl, rfl⟩
theorem w_der_tag (n : Int) (r : Bool) (hg : g_der_tag n = some r) : Fn Try.prog 103 0 [.val (.int .i64 n)] [] (fun d b => d = .val (.bool r) ∧ b = []) := by
 unfold g_der_tag at hg
 refine Fn.of Try.func103 rfl rfl rfl fun w0 I ρ0 => ?_
 show awp _ ⟨w0, I, ρ0, 0, 0, 14⟩ _ _ _
 refine sr_ 0 8 mk_U ?_
 refine c0_ rfl rfl .assign rfl rfl ?_
 refine ch_n fun hU8_1 => ?_
 refine sr_ 8 104 hU8_1 ?_
 refine c0_ rfl rfl .move rfl rfl ?_
 refine c0_ rfl rfl r_geq rfl rfl ?_
 refine c0_ rfl rfl .move rfl rfl ?_
 rcases Bool.eq_false_or_eq_true (decide (1 ≤ n)) with h2 | h2
 ·replace hg := cond_t h2 hg
  refine c0_ (gdv_t rfl rfl h2) rfl .move rfl rfl ?_
  refine c0_ (gdv_t rfl rfl h2) rfl r_leq rfl rfl ?_
  refine c0_ rfl rfl (r_pickT h2) rfl rfl ?_
  refine c0_ rfl rfl .move rfl rfl ?_
  rcases Bool.eq_false_or_eq_true (decide (n ≤ 255)) with h3 | h3
  ·replace hg := cond_t h3 hg
   refine c0_ (gdv_t rfl rfl h3) rfl .move rfl rfl ?_
   refine c0_ (gdv_t rfl rfl h3) rfl r_andK rfl rfl ?_
   refine c0_ (gdv_t rfl rfl h3) rfl r_neq rfl rfl ?_
   refine c0_ rfl rfl (r_pickT h3) rfl rfl ?_
   refine c0_ rfl rfl .assign rfl rfl ?_
   refine ch_n fun hU104_4 => ?_
   refine aw_r ?_
   obtain rfl := Option.some.inj hg
   exact ⟨[_], _, [], [], .cons (.tmp rfl) .nil, ⟨rfl, rfl⟩, .val _, trivial, rfl, rfl, rfl, rfl⟩
  ·replace hg := cond_f h3 hg
   iterate 3 refine ch_skip (gdv_f rfl rfl h3) rfl ?_
   refine c0_ rfl rfl (r_pickF h3) rfl rfl ?_
   refine c0_ rfl rfl .assign rfl rfl ?_
   refine ch_n fun hU104_5 => ?_
   refine aw_r ?_
   obtain rfl := Option.some.inj hg
   exact ⟨[_], _, [], [], .cons (.tmp rfl) .nil, ⟨rfl, rfl⟩, .val _, trivial, rfl, rfl, rfl, rfl⟩
 ·replace hg := cond_f h2 hg
  refine ch_skip (gdv_f rfl rfl h2) rfl ?_
  refine ch_skip (gdv_f rfl rfl h2) rfl ?_
  refine c0_ rfl rfl (r_pickF h2) rfl rfl ?_
  refine c0_ rfl rfl .move rfl rfl ?_
  iterate 3 refine ch_skip (gdv_f rfl rfl rfl) rfl ?_
  refine c0_ rfl rfl (r_pickF rfl) rfl rfl ?_
  refine c0_ rfl rfl .assign rfl rfl ?_
  refine ch_n fun hU104_6 => ?_
  refine aw_r ?_
  obtain rfl := Option.some.inj hg
  exact ⟨[_], _, [], [], .cons (.tmp rfl) .nil, ⟨rfl, rfl⟩, .val _, trivial, rfl, rfl, rfl, rfl⟩
theorem w_der_formed_c1 (rec : api_Value → Option (Bool)) (hrec : ∀ (v : api_Value) (r : Bool), rec v = some r → Fn Try.prog 92 0 [.agg [.val (.int .i64 v.Tag), .sl 1 (encL e8 v.Bytes), .val (.bool v.Nested), .sl 4 (encL api_Value.enc v.Elements)]] [] (fun d b => d = .val (.bool r) ∧ b = [])) (x' : api_Value) (r : Bool) (hg : g_der_formed_c1 rec x' = some r) : Fn Try.prog 105 0 [.agg [.val (.int .i64 x'.Tag), .sl 1 (encL e8 x'.Bytes), .val (.bool x'.Nested), .sl 4 (encL api_Value.enc x'.Elements)]] [] (fun d b => d = .val (.bool r) ∧ b = []) := by
 unfold g_der_formed_c1 at hg
 refine Fn.of Try.func105 rfl rfl rfl fun w0 I ρ0 => ?_
 show awp _ ⟨w0, I, ρ0, 0, 0, 6⟩ _ _ _
 refine sr_ 0 16 mk_U ?_
 refine c0_ rfl rfl (.box rfl) rfl rfl ?_
 refine c0_ rfl rfl .assign rfl rfl ?_
 refine ch_n fun hU16_1 => ?_
 refine sr_ 16 48 hU16_1 ?_
 refine ch_s (rd := [0]) rfl rfl (.loadBA ty97 (Nat.le_of_ble_eq_true rfl)) rfl rfl ?_
 obtain ⟨y, hy, hg⟩ := bind_some hg
 refine ch_callP (rd := []) (ps := []) (gs := []) false rfl (hrec x' _ hy) rfl rfl (.cons (.agg (.cons .val (.cons .sl (.cons .val (.cons .sl .nil))))) .nil) rfl rfl (by intro h; cases h) rfl rfl rfl rfl ?_
 refine c0_ rfl rfl r_not rfl rfl ?_
 refine c0_ rfl rfl .assign rfl rfl ?_
 refine ch_n fun hU48_2 => ?_
 refine aw_r ?_
 obtain rfl := Option.some.inj hg
 exact ⟨[_], _, [], [], .cons (.tmp rfl) .nil, ⟨rfl, rfl⟩, .val _, trivial, rfl, rfl, rfl, rfl⟩
theorem w_slices_IndexFunc_api_Value_clo_105_0_ (rec : api_Value → Option (Bool)) (hrec : ∀ (v : api_Value) (r : Bool), rec v = some r → Fn Try.prog 92 0 [.agg [.val (.int .i64 v.Tag), .sl 1 (encL e8 v.Bytes), .val (.bool v.Nested), .sl 4 (encL api_Value.enc v.Elements)]] [] (fun d b => d = .val (.bool r) ∧ b = [])) (s : (List api_Value)) (f : api_Value → Option (Bool)) (hf_f : ∀ (x0 : api_Value) (y : Bool), f x0 = some y → Fn Try.prog 105 0 [.agg [.val (.int .i64 x0.Tag), .sl 1 (encL e8 x0.Bytes), .val (.bool x0.Nested), .sl 4 (encL api_Value.enc x0.Elements)]] [] (fun d b => d = .val (.bool y) ∧ b = [])) (r : Int) (hg : g_slices_IndexFunc_api_Value rec s f = some r) : Fn Try.prog 109 0 [.sl 4 (encL api_Value.enc s), .clo 105 0 []] [] (fun d b => d = .val (.int .i64 r) ∧ b = []) := by
 unfold g_slices_IndexFunc_api_Value at hg
 refine Fn.of Try.func109 rfl rfl rfl fun w0 I ρ0 => ?_
 show awp _ ⟨w0, I, ρ0, 0, 0, 19⟩ _ _ _
 refine sr_ 0 8 mk_U ?_
 refine c0_ rfl rfl .assign rfl rfl ?_
 refine ch_n fun hU8_1 => ?_
 refine awp_seq ?_
 refine sr_ 8 32 hU8_1 ?_
 refine c0_ rfl rfl .move rfl rfl ?_
 refine c0_ rfl rfl (r_lenS sl95 api_Value.enc_len) rfl rfl ?_
 refine c0_ rfl rfl .move rfl rfl ?_
 refine ch_n fun hU32_2 => ?_
 refine awp_block ?_
 obtain ⟨n1, hg⟩ := loop_some hg
 refine awp_loop (ι := (Int) × Nat) (fun ((x8_1, _) : (Int) × Nat) => mk [(0, .sl 4 (encL api_Value.enc s)), (1, .clo 105 0 []), (7, .val (.int .i64 (s.length : Int))), (8, .val (.int .i64 x8_1))] [] 0) (fun ((x8_1, nq') : (Int) × Nat) => iter (fun q' => g_slices_IndexFunc_api_Value.l1 s f q') nq' x8_1 = some r) (fun q => q.2) (0, n1) (Sub.lists [] rfl rfl ⟨⟨_, rfl, .sl _ _⟩, ⟨_, rfl, .clo _ _ (.nil)⟩, ⟨_, rfl, .val _⟩, ⟨_, rfl, .val _⟩, trivial⟩ trivial) hg ?_
 rintro ⟨x8_1, n1⟩ hg
 obtain ⟨m1, o1, rfl, hg, hn1⟩ := iter_some (show iter (fun q' => g_slices_IndexFunc_api_Value.l1 s f q') n1 x8_1 = some r from hg)
 replace hg : g_slices_IndexFunc_api_Value.l1 s f x8_1 = some o1 := hg
 show awp _ _ _ _ (mk _ _ _)
 unfold g_slices_IndexFunc_api_Value.l1 at hg
 refine sr_ 0 8 mk_U ?_
 refine c0_ rfl rfl r_lss rfl rfl ?_
 refine ch_n fun hU8_3 => ?_
 refine awp_seq ?_
 refine awp_cond rfl (fun h4 => ?_) (fun h4 => ?_)
 ·replace hg := cond_t h4 hg
  refine aw_s ?_
  refine awp_seq ?_
  refine awp_block ?_
  refine sr_ 8 24 hU8_3 ?_
  refine c0_ rfl rfl .move rfl rfl ?_
  refine c0_ rfl rfl .assign rfl rfl ?_
  refine ch_n fun hU24_5 => ?_
  refine sr_ 24 72 hU24_5 ?_
  iterate 3 refine c0_ rfl rfl .move rfl rfl ?_
  obtain ⟨e, he, hg⟩ := bind_some hg
  refine c0_ rfl rfl (r_idxS sl95 api_Value.enc_len (getI_ix he) (getI_at he)) rfl rfl ?_
  refine c0_ rfl rfl (r_loadEA ty97 (enc_cells api_Value.enc_len (getI_at he) (o := 0) (m := 4) (cs := [.int .i64 e.Tag, .sl 1 (encL e8 e.Bytes), .bool e.Nested, .sl 4 (encL api_Value.enc e.Elements)]) (by simp only [api_Value.enc_eq]; rfl) (by decide) rfl) (enc_cells_le api_Value.enc_len (getI_at he) (o := 0) (m := 4) (by decide) rfl)) rfl rfl ?_
  obtain ⟨y, hy, hg⟩ := bind_some hg
  refine ch_callCP (rd := []) (ps := []) (gs := []) false rfl rfl (hf_f e _ hy) rfl rfl (.cons (.agg (.cons .val (.cons .sl (.cons .val (.cons .sl .nil))))) .nil) rfl rfl (by intro h; cases h) rfl rfl rfl rfl ?_
  refine ch_n fun hU72_6 => ?_
  refine awp_cond rfl (fun h7 => ?_) (fun h7 => ?_)
  ·replace hg := cond_t h7 hg
   refine sr_ 72 88 hU72_6 ?_
   refine c0_ rfl rfl .move rfl rfl ?_
   refine c0_ rfl rfl .assign rfl rfl ?_
   refine ch_n fun hU88_8 => ?_
   refine aw_r ?_
   replace hg := leave hg hn1
   obtain rfl := Option.some.inj hg
   exact ⟨[_], _, [], [], .cons (.tmp rfl) .nil, ⟨rfl, rfl⟩, .val _, trivial, rfl, rfl, rfl, rfl⟩
  ·replace hg := cond_f h7 hg
   refine aw_s ?_
   refine awp_region (sys _ _ []) 72 88 hU72_6 rfl rfl ?_
   refine c0_ rfl rfl r_add rfl rfl ?_
   refine c0_ rfl rfl .move rfl rfl ?_
   refine ch_n fun hU88_9 => ?_
   obtain rfl := Option.some.inj hg
   exact ⟨(W (x8_1 + 1), m1), Nat.lt_succ_self _, hn1, Sub.lists [] rfl rfl ⟨⟨_, rfl, .sl _ _⟩, ⟨_, rfl, .clo _ _ (.nil)⟩, ⟨_, rfl, .val _⟩, ⟨_, rfl, .val _⟩, trivial⟩ trivial⟩
 ·replace hg := cond_f h4 hg
  refine awp_exit ?_
  repeat first | refine st_ ?_ | refine sn_ ?_
  replace hg := leave hg hn1
  refine sr_ 8 16 hU8_3 ?_
  refine c0_ rfl rfl .assign rfl rfl ?_
  refine ch_n fun hU16_10 => ?_
  refine aw_r ?_
  obtain rfl := Option.some.inj hg
  exact ⟨[_], _, [], [], .cons (.tmp rfl) .nil, ⟨rfl, rfl⟩, .val _, trivial, rfl, rfl, rfl, rfl⟩
end Go.Proofs.Ytadjcdhcdmiifaa
