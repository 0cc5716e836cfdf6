/- The program computes the plain functions. -/
import Derived.Test.YtadjcdhcdmiifaaT1
set_option linter.unusedVariables false
set_option linter.unusedSimpArgs false
set_option maxRecDepth 100000
set_option maxHeartbeats 1600000
namespace Go.Proofs.Ytadjcdhcdmiifaa
open Go.RowKit
theorem w_ref03_Copy (c : api_Certificate) (r : api_Certificate) (hg : g_ref03_Copy c = some r) : Fn Try.prog 44 0 [.agg [.val (.int .i64 c.Serial), .val (.string c.Issuer), .val (.string c.Subject), .val (.int .i64 c.Key.Alg), .val (.int .i64 c.Key.Bits), .val (.int .i64 c.KeyId), .val (.int .i64 c.Hash.Alg), .val (.int .i64 c.Hash.Bits), .val (.int .i64 c.From), .val (.int .i64 c.To), .val (.bool c.Authority), .val (.int .i64 c.Path), .sl 1 (encL eS c.Names), .val (.int .i64 c.Seal.Key), .val (.int .i64 c.Seal.Sum)]] [] (fun d b => d = .agg [.val (.int .i64 r.Serial), .val (.string r.Issuer), .val (.string r.Subject), .val (.int .i64 r.Key.Alg), .val (.int .i64 r.Key.Bits), .val (.int .i64 r.KeyId), .val (.int .i64 r.Hash.Alg), .val (.int .i64 r.Hash.Bits), .val (.int .i64 r.From), .val (.int .i64 r.To), .val (.bool r.Authority), .val (.int .i64 r.Path), .sl 1 (encL eS r.Names), .val (.int .i64 r.Seal.Key), .val (.int .i64 r.Seal.Sum)] ∧ b = []) := by
 unfold g_ref03_Copy at hg
 refine Fn.of Try.func44 rfl rfl rfl fun w0 I ρ0 => ?_
 show awp _ ⟨w0, I, ρ0, 0, 0, 9⟩ _ _ _
 refine sr_ 0 16 mk_U ?_
 refine c0_ rfl rfl (.box rfl) rfl rfl ?_
 refine c0_ rfl rfl (.alloc z45) rfl rfl ?_
 refine ch_n fun hU16_1 => ?_
 refine sr_ 16 64 hU16_1 ?_
 refine c0_ rfl rfl (r_buildFull sl41 z9 (by decide) rfl rfl rfl rfl ck9 (cs := []) .nil rfl (l := ([] : List ByteArray)) (f := eS) rfl) rfl rfl ?_
 refine c0_ rfl rfl (.fieldP fd45_10 ty41 (by decide)) rfl rfl ?_
 refine ch_s (rd := [0]) rfl rfl (.loadB1 ty41 rfl) rfl rfl ?_
 obtain ⟨l, hl, hg⟩ := bind_some hg
 refine ch_s (rd := [16]) rfl rfl (r_append sl41 eS_len .row rfl .sl rfl hl rfl) rfl rfl ?_
 refine c0_ rfl rfl (.fieldP fd45_10 ty41 (by decide)) rfl rfl ?_
 refine ch_s (rd := [0, 40]) rfl rfl (r_storeB (ds' := [.val (.int .i64 c.Serial), .val (.string c.Issuer), .val (.string c.Subject), .val (.int .i64 c.Key.Alg), .val (.int .i64 c.Key.Bits), .val (.int .i64 c.KeyId), .val (.int .i64 c.Hash.Alg), .val (.int .i64 c.Hash.Bits), .val (.int .i64 c.From), .val (.int .i64 c.To), .val (.bool c.Authority), .val (.int .i64 c.Path), .row 40, .val (.int .i64 c.Seal.Key), .val (.int .i64 c.Seal.Sum)]) ty41 rfl (Nat.le_of_ble_eq_true rfl) rfl rfl) rfl rfl ?_
 refine ch_n fun hU64_2 => ?_
 refine sr_ 64 80 hU64_2 ?_
 refine ch_s (rd := [0]) rfl rfl (.loadBA ty45 (Nat.le_of_ble_eq_true rfl)) rfl rfl ?_
 refine ch_s (rd := [8]) rfl rfl (r_storeB (ds' := [.val (.int .i64 c.Serial), .val (.string c.Issuer), .val (.string c.Subject), .val (.int .i64 c.Key.Alg), .val (.int .i64 c.Key.Bits), .val (.int .i64 c.KeyId), .val (.int .i64 c.Hash.Alg), .val (.int .i64 c.Hash.Bits), .val (.int .i64 c.From), .val (.int .i64 c.To), .val (.bool c.Authority), .val (.int .i64 c.Path), .row 40, .val (.int .i64 c.Seal.Key), .val (.int .i64 c.Seal.Sum)]) ty45 rfl (Nat.le_of_ble_eq_true rfl) rfl rfl) rfl rfl ?_
 refine ch_n fun hU80_3 => ?_
 refine aw_r ?_
 obtain rfl := Option.some.inj hg
 exact ⟨[_], _, [], [], .cons (.cellA rfl rfl ty45 rfl) .nil, ⟨rfl, rfl⟩, .agg (.cons (.val _) (.cons (.val _) (.cons (.val _) (.cons (.val _) (.cons (.val _) (.cons (.val _) (.cons (.val _) (.cons (.val _) (.cons (.val _) (.cons (.val _) (.cons (.val _) (.cons (.val _) (.cons (.frz rfl (look_ne rfl)) (.cons (.val _) (.cons (.val _) .nil))))))))))))))), trivial, rfl, rfl, rfl, rfl⟩
theorem w_ref03_Name (s : ByteArray) (r : Bool) (hg : g_ref03_Name s = some r) : Fn Try.prog 57 0 [.val (.string s)] [] (fun d b => d = .val (.bool r) ∧ b = []) := by
 unfold g_ref03_Name at hg
 refine Fn.of Try.func57 rfl rfl rfl fun w0 I ρ0 => ?_
 show awp _ ⟨w0, I, ρ0, 0, 0, 28⟩ _ _ _
 refine sr_ 0 8 mk_U ?_
 refine c0_ rfl rfl .assign rfl rfl ?_
 refine ch_n fun hU8_1 => ?_
 refine awp_seq ?_
 refine awp_cut (ι := Bool) (fun (x11_1 : Bool) => mk [(0, .val (.string s)), (11, .val (.bool x11_1))] [] 0) (fun (x11_1 : Bool) => g_ref03_Name.j1 s x11_1 = some r) ?_ ?_
 ·refine awp_region (sys _ _ []) 8 72 hU8_1 rfl rfl ?_
  refine c0_ rfl rfl .move rfl rfl ?_
  refine c0_ rfl rfl (r_lenT und9) rfl rfl ?_
  refine c0_ rfl rfl r_lss rfl rfl ?_
  refine c0_ rfl rfl .move rfl rfl ?_
  rcases Bool.eq_false_or_eq_true (decide ((s.size : Int) < 1)) with h2 | h2
  ·replace hg := cond_t h2 hg
   iterate 3 refine ch_skip (gdv_f rfl rfl h2) rfl ?_
   refine c0_ rfl rfl (r_pickT h2) rfl rfl ?_
   refine ch_n fun hU72_3 => ?_
   exact ⟨true, hg, Sub.lists [] rfl rfl ⟨⟨_, rfl, .val _⟩, ⟨_, rfl, .val _⟩, trivial⟩ trivial⟩
  ·replace hg := cond_f h2 hg
   refine c0_ (gdv_t rfl rfl h2) rfl .move rfl rfl ?_
   refine c0_ (gdv_t rfl rfl h2) rfl (r_lenT und9) rfl rfl ?_
   refine c0_ (gdv_t rfl rfl h2) rfl r_gtr rfl rfl ?_
   refine c0_ rfl rfl (r_pickF h2) rfl rfl ?_
   refine ch_n fun hU72_4 => ?_
   exact ⟨decide (32 < (s.size : Int)), hg, Sub.lists [] rfl rfl ⟨⟨_, rfl, .val _⟩, ⟨_, rfl, .val _⟩, trivial⟩ trivial⟩
 ·rintro x11_1 hg
  replace hg : g_ref03_Name.j1 s x11_1 = some r := hg
  show awp _ _ _ _ (mk _ _ _)
  unfold g_ref03_Name.j1 at hg
  refine awp_cond rfl (fun h5 => ?_) (fun h5 => ?_)
  ·replace hg := cond_t h5 hg
   refine sr_ 0 8 mk_U ?_
   refine c0_ rfl rfl .assign rfl rfl ?_
   refine ch_n fun hU8_6 => ?_
   refine aw_r ?_
   obtain rfl := Option.some.inj hg
   exact ⟨[_], _, [], [], .cons (.tmp rfl) .nil, ⟨rfl, rfl⟩, .val _, trivial, rfl, rfl, rfl, rfl⟩
  ·replace hg := cond_f h5 hg
   refine aw_s ?_
   refine awp_seq ?_
   refine sr_ 0 8 mk_U ?_
   refine c0_ rfl rfl .assign rfl rfl ?_
   refine ch_n fun hU8_7 => ?_
   refine awp_block ?_
   obtain ⟨n2, hg⟩ := loop_some hg
   refine awp_loop (ι := (Int) × Nat) (fun ((i_2, _) : (Int) × Nat) => mk [(0, .val (.string s)), (3, .val (.int .i64 i_2))] [] 0) (fun ((i_2, nq') : (Int) × Nat) => iter (fun q' => g_ref03_Name.l2 s q') nq' i_2 = some r) (fun q => q.2) (0, n2) (Sub.lists [] rfl rfl ⟨⟨_, rfl, .val _⟩, ⟨_, rfl, .val _⟩, trivial⟩ trivial) hg ?_
   rintro ⟨i_2, n2⟩ hg
   obtain ⟨m2, o2, rfl, hg, hn2⟩ := iter_some (show iter (fun q' => g_ref03_Name.l2 s q') n2 i_2 = some r from hg)
   replace hg : g_ref03_Name.l2 s i_2 = some o2 := hg
   show awp _ _ _ _ (mk _ _ _)
   unfold g_ref03_Name.l2 at hg
   refine awp_seq ?_
   refine sr_ 0 32 mk_U ?_
   refine c0_ rfl rfl .move rfl rfl ?_
   refine c0_ rfl rfl .move rfl rfl ?_
   refine c0_ rfl rfl (r_lenT und9) rfl rfl ?_
   refine c0_ rfl rfl r_lss rfl rfl ?_
   refine ch_n fun hU32_8 => ?_
   refine awp_cond rfl (fun h9 => ?_) (fun h9 => ?_)
   ·replace hg := cond_t h9 hg
    refine aw_s ?_
    refine awp_seq ?_
    refine awp_block ?_
    refine awp_cut (ι := Bool) (fun (x27_3 : Bool) => mk [(0, .val (.string s)), (3, .val (.int .i64 i_2)), (27, .val (.bool x27_3))] [] 0) (fun (x27_3 : Bool) => g_ref03_Name.j3 i_2 x27_3 = some o2) ?_ ?_
    ·refine awp_region (sys _ _ []) 32 112 hU32_8 rfl rfl ?_
     refine c0_ rfl rfl .move rfl rfl ?_
     refine c0_ rfl rfl .move rfl rfl ?_
     obtain ⟨c, hc, hg⟩ := bind_some hg
     refine c0_ rfl rfl (r_idxT und9 hc) rfl rfl ?_
     refine c0_ rfl rfl r_lss rfl rfl ?_
     refine c0_ rfl rfl .move rfl rfl ?_
     rcases Bool.eq_false_or_eq_true (decide ((c.toNat : Int) < 33)) with h10 | h10
     ·replace hg := cond_t h10 hg
      iterate 4 refine ch_skip (gdv_f rfl rfl h10) rfl ?_
      refine c0_ rfl rfl (r_pickT h10) rfl rfl ?_
      refine ch_n fun hU112_11 => ?_
      exact ⟨true, hg, Sub.lists [] rfl rfl ⟨⟨_, rfl, .val _⟩, ⟨_, rfl, .val _⟩, ⟨_, rfl, .val _⟩, trivial⟩ trivial⟩
     ·replace hg := cond_f h10 hg
      refine c0_ (gdv_t rfl rfl h10) rfl .move rfl rfl ?_
      refine c0_ (gdv_t rfl rfl h10) rfl .move rfl rfl ?_
      obtain ⟨c_2, hc_2, hg⟩ := bind_some hg
      refine c0_ (gdv_t rfl rfl h10) rfl (r_idxT und9 hc_2) rfl rfl ?_
      refine c0_ (gdv_t rfl rfl h10) rfl r_gtr rfl rfl ?_
      refine c0_ rfl rfl (r_pickF h10) rfl rfl ?_
      refine ch_n fun hU112_12 => ?_
      exact ⟨decide (126 < (c_2.toNat : Int)), hg, Sub.lists [] rfl rfl ⟨⟨_, rfl, .val _⟩, ⟨_, rfl, .val _⟩, ⟨_, rfl, .val _⟩, trivial⟩ trivial⟩
    ·rintro x27_3 hg
     replace hg : g_ref03_Name.j3 i_2 x27_3 = some o2 := hg
     show awp _ _ _ _ (mk _ _ _)
     unfold g_ref03_Name.j3 at hg
     refine awp_cond rfl (fun h13 => ?_) (fun h13 => ?_)
     ·replace hg := cond_t h13 hg
      refine sr_ 0 8 mk_U ?_
      refine c0_ rfl rfl .assign rfl rfl ?_
      refine ch_n fun hU8_14 => ?_
      refine aw_r ?_
      replace hg := leave hg hn2
      obtain rfl := Option.some.inj hg
      exact ⟨[_], _, [], [], .cons (.tmp rfl) .nil, ⟨rfl, rfl⟩, .val _, trivial, rfl, rfl, rfl, rfl⟩
     ·replace hg := cond_f h13 hg
      refine aw_s ?_
      refine awp_region (sys _ _ []) 0 24 mk_U rfl rfl ?_
      refine c0_ rfl rfl .move rfl rfl ?_
      refine c0_ rfl rfl r_add rfl rfl ?_
      refine c0_ rfl rfl .assign rfl rfl ?_
      refine ch_n fun hU24_15 => ?_
      obtain rfl := Option.some.inj hg
      exact ⟨(W (i_2 + 1), m2), Nat.lt_succ_self _, hn2, Sub.lists [] rfl rfl ⟨⟨_, rfl, .val _⟩, ⟨_, rfl, .val _⟩, trivial⟩ trivial⟩
   ·replace hg := cond_f h9 hg
    refine awp_exit ?_
    repeat first | refine st_ ?_ | refine sn_ ?_
    replace hg := leave hg hn2
    refine sr_ 32 40 hU32_8 ?_
    refine c0_ rfl rfl .assign rfl rfl ?_
    refine ch_n fun hU40_16 => ?_
    refine aw_r ?_
    obtain rfl := Option.some.inj hg
    exact ⟨[_], _, [], [], .cons (.tmp rfl) .nil, ⟨rfl, rfl⟩, .val _, trivial, rfl, rfl, rfl, rfl⟩
theorem w_ref02_modulus (b : Int) (r : Int) (hg : g_ref02_modulus b = some r) : Fn Try.prog 84 0 [.val (.int .i64 b)] [] (fun d b => d = .val (.int .i64 r) ∧ b = []) := by
 unfold g_ref02_modulus at hg
 refine Fn.of Try.func84 rfl rfl rfl fun w0 I ρ0 => ?_
 show awp _ ⟨w0, I, ρ0, 0, 0, 25⟩ _ _ _
 refine sr_ 0 8 mk_U ?_
 refine c0_ rfl rfl .assign rfl rfl ?_
 refine ch_n fun hU8_1 => ?_
 refine awp_seq ?_
 refine awp_block ?_
 refine awp_cut (ι := Bool) (fun (x3_1 : Bool) => mk [(0, .val (.int .i64 b)), (3, .val (.bool x3_1))] [] 0) (fun (x3_1 : Bool) => g_ref02_modulus.j1 b x3_1 = some r) ?_ ?_
 ·refine awp_region (sys _ _ []) 8 64 hU8_1 rfl rfl ?_
  refine c0_ rfl rfl .move rfl rfl ?_
  refine c0_ rfl rfl r_lss rfl rfl ?_
  refine c0_ rfl rfl .move rfl rfl ?_
  rcases Bool.eq_false_or_eq_true (decide (b < 512)) with h2 | h2
  ·replace hg := cond_t h2 hg
   refine ch_skip (gdv_f rfl rfl h2) rfl ?_
   refine ch_skip (gdv_f rfl rfl h2) rfl ?_
   refine c0_ rfl rfl (r_pickT h2) rfl rfl ?_
   refine c0_ rfl rfl .assign rfl rfl ?_
   refine ch_n fun hU64_3 => ?_
   exact ⟨true, hg, Sub.lists [] rfl rfl ⟨⟨_, rfl, .val _⟩, ⟨_, rfl, .val _⟩, trivial⟩ trivial⟩
  ·replace hg := cond_f h2 hg
   refine c0_ (gdv_t rfl rfl h2) rfl .move rfl rfl ?_
   refine c0_ (gdv_t rfl rfl h2) rfl r_gtr rfl rfl ?_
   refine c0_ rfl rfl (r_pickF h2) rfl rfl ?_
   refine c0_ rfl rfl .assign rfl rfl ?_
   refine ch_n fun hU64_4 => ?_
   exact ⟨decide (16384 < b), hg, Sub.lists [] rfl rfl ⟨⟨_, rfl, .val _⟩, ⟨_, rfl, .val _⟩, trivial⟩ trivial⟩
 ·rintro x3_1 hg
  replace hg : g_ref02_modulus.j1 b x3_1 = some r := hg
  show awp _ _ _ _ (mk _ _ _)
  unfold g_ref02_modulus.j1 at hg
  refine awp_cond rfl (fun h5 => ?_) (fun h5 => ?_)
  ·replace hg := cond_t h5 hg
   refine sr_ 0 8 mk_U ?_
   refine c0_ rfl rfl .assign rfl rfl ?_
   refine ch_n fun hU8_6 => ?_
   refine aw_r ?_
   obtain rfl := Option.some.inj hg
   exact ⟨[_], _, [], [], .cons (.tmp rfl) .nil, ⟨rfl, rfl⟩, .val _, trivial, rfl, rfl, rfl, rfl⟩
  ·replace hg := cond_f h5 hg
   refine sr_ 0 24 mk_U ?_
   refine c0_ rfl rfl .move rfl rfl ?_
   refine c0_ rfl rfl r_lss rfl rfl ?_
   refine c0_ rfl rfl .assign rfl rfl ?_
   refine ch_n fun hU24_7 => ?_
   refine awp_cond rfl (fun h8 => ?_) (fun h8 => ?_)
   ·replace hg := cond_t h8 hg
    refine sr_ 24 32 hU24_7 ?_
    refine c0_ rfl rfl .assign rfl rfl ?_
    refine ch_n fun hU32_9 => ?_
    refine aw_r ?_
    obtain rfl := Option.some.inj hg
    exact ⟨[_], _, [], [], .cons (.tmp rfl) .nil, ⟨rfl, rfl⟩, .val _, trivial, rfl, rfl, rfl, rfl⟩
   ·replace hg := cond_f h8 hg
    refine sr_ 24 48 hU24_7 ?_
    refine c0_ rfl rfl .move rfl rfl ?_
    refine c0_ rfl rfl r_lss rfl rfl ?_
    refine c0_ rfl rfl .assign rfl rfl ?_
    refine ch_n fun hU48_10 => ?_
    refine awp_cond rfl (fun h11 => ?_) (fun h11 => ?_)
    ·replace hg := cond_t h11 hg
     refine sr_ 48 56 hU48_10 ?_
     refine c0_ rfl rfl .assign rfl rfl ?_
     refine ch_n fun hU56_12 => ?_
     refine aw_r ?_
     obtain rfl := Option.some.inj hg
     exact ⟨[_], _, [], [], .cons (.tmp rfl) .nil, ⟨rfl, rfl⟩, .val _, trivial, rfl, rfl, rfl, rfl⟩
    ·replace hg := cond_f h11 hg
     refine sr_ 48 72 hU48_10 ?_
     refine c0_ rfl rfl .move rfl rfl ?_
     refine c0_ rfl rfl r_lss rfl rfl ?_
     refine c0_ rfl rfl .assign rfl rfl ?_
     refine ch_n fun hU72_13 => ?_
     refine awp_cond rfl (fun h14 => ?_) (fun h14 => ?_)
     ·replace hg := cond_t h14 hg
      refine sr_ 72 80 hU72_13 ?_
      refine c0_ rfl rfl .assign rfl rfl ?_
      refine ch_n fun hU80_15 => ?_
      refine aw_r ?_
      obtain rfl := Option.some.inj hg
      exact ⟨[_], _, [], [], .cons (.tmp rfl) .nil, ⟨rfl, rfl⟩, .val _, trivial, rfl, rfl, rfl, rfl⟩
     ·replace hg := cond_f h14 hg
      refine sr_ 72 96 hU72_13 ?_
      refine c0_ rfl rfl .move rfl rfl ?_
      refine c0_ rfl rfl r_lss rfl rfl ?_
      refine c0_ rfl rfl .assign rfl rfl ?_
      refine ch_n fun hU96_16 => ?_
      refine awp_cond rfl (fun h17 => ?_) (fun h17 => ?_)
      ·replace hg := cond_t h17 hg
       refine sr_ 96 104 hU96_16 ?_
       refine c0_ rfl rfl .assign rfl rfl ?_
       refine ch_n fun hU104_18 => ?_
       refine aw_r ?_
       obtain rfl := Option.some.inj hg
       exact ⟨[_], _, [], [], .cons (.tmp rfl) .nil, ⟨rfl, rfl⟩, .val _, trivial, rfl, rfl, rfl, rfl⟩
      ·replace hg := cond_f h17 hg
       refine sr_ 96 120 hU96_16 ?_
       refine c0_ rfl rfl .move rfl rfl ?_
       refine c0_ rfl rfl r_lss rfl rfl ?_
       refine c0_ rfl rfl .assign rfl rfl ?_
       refine ch_n fun hU120_19 => ?_
       refine awp_cond rfl (fun h20 => ?_) (fun h20 => ?_)
       ·replace hg := cond_t h20 hg
        refine sr_ 120 128 hU120_19 ?_
        refine c0_ rfl rfl .assign rfl rfl ?_
        refine ch_n fun hU128_21 => ?_
        refine aw_r ?_
        obtain rfl := Option.some.inj hg
        exact ⟨[_], _, [], [], .cons (.tmp rfl) .nil, ⟨rfl, rfl⟩, .val _, trivial, rfl, rfl, rfl, rfl⟩
       ·replace hg := cond_f h20 hg
        refine aw_s ?_
        refine sr_ 120 128 hU120_19 ?_
        refine c0_ rfl rfl .assign rfl rfl ?_
        refine ch_n fun hU128_22 => ?_
        refine aw_r ?_
        obtain rfl := Option.some.inj hg
        exact ⟨[_], _, [], [], .cons (.tmp rfl) .nil, ⟨rfl, rfl⟩, .val _, trivial, rfl, rfl, rfl, rfl⟩
theorem w_ref02_among (b : Int) (sizes : (List Int)) (strengths : (List Int)) (r : Int) (hg : g_ref02_among b sizes strengths = some r) : Fn Try.prog 85 0 [.val (.int .i64 b), .sl 1 (encL eI sizes), .sl 1 (encL eI strengths)] [] (fun d b => d = .val (.int .i64 r) ∧ b = []) := by
 unfold g_ref02_among at hg
 refine Fn.of Try.func85 rfl rfl rfl fun w0 I ρ0 => ?_
 show awp _ ⟨w0, I, ρ0, 0, 0, 24⟩ _ _ _
 refine sr_ 0 8 mk_U ?_
 refine c0_ rfl rfl .assign rfl rfl ?_
 refine ch_n fun hU8_1 => ?_
 refine awp_seq ?_
 refine sr_ 8 16 hU8_1 ?_
 refine c0_ rfl rfl .assign rfl rfl ?_
 refine ch_n fun hU16_2 => ?_
 refine awp_block ?_
 obtain ⟨n1, hg⟩ := loop_some hg
 refine awp_loop (ι := (Int) × Nat) (fun ((i_1, _) : (Int) × Nat) => mk [(0, .val (.int .i64 b)), (1, .sl 1 (encL eI sizes)), (2, .sl 1 (encL eI strengths)), (7, .val (.int .i64 i_1))] [] 0) (fun ((i_1, nq') : (Int) × Nat) => iter (fun q' => g_ref02_among.l1 b sizes strengths q') nq' i_1 = some r) (fun q => q.2) (0, n1) (Sub.lists [] rfl rfl ⟨⟨_, rfl, .val _⟩, ⟨_, rfl, .sl _ _⟩, ⟨_, rfl, .sl _ _⟩, ⟨_, rfl, .val _⟩, trivial⟩ trivial) hg ?_
 rintro ⟨i_1, n1⟩ hg
 obtain ⟨m1, o1, rfl, hg, hn1⟩ := iter_some (show iter (fun q' => g_ref02_among.l1 b sizes strengths q') n1 i_1 = some r from hg)
 replace hg : g_ref02_among.l1 b sizes strengths i_1 = some o1 := hg
 show awp _ _ _ _ (mk _ _ _)
 unfold g_ref02_among.l1 at hg
 refine awp_seq ?_
 refine sr_ 0 32 mk_U ?_
 refine c0_ rfl rfl .move rfl rfl ?_
 refine c0_ rfl rfl .move rfl rfl ?_
 refine c0_ rfl rfl (r_lenS sl22 eI_len) rfl rfl ?_
 refine c0_ rfl rfl r_lss rfl rfl ?_
 refine ch_n fun hU32_3 => ?_
 refine awp_cond rfl (fun h4 => ?_) (fun h4 => ?_)
 ·replace hg := cond_t h4 hg
  refine aw_s ?_
  refine awp_seq ?_
  refine awp_block ?_
  refine sr_ 32 80 hU32_3 ?_
  refine c0_ rfl rfl .move rfl rfl ?_
  refine c0_ rfl rfl .move rfl rfl ?_
  obtain ⟨e, he, hg⟩ := bind_some hg
  refine c0_ rfl rfl (r_idxS sl22 eI_len (getI_ix he) (getI_at he)) rfl rfl ?_
  refine c0_ rfl rfl (r_loadE1 ty3 (enc_cell eI_len (getI_at he) (o := 0) (c := .int .i64 e) rfl rfl)) rfl rfl ?_
  refine c0_ rfl rfl .move rfl rfl ?_
  refine c0_ rfl rfl r_eql rfl rfl ?_
  refine ch_n fun hU80_5 => ?_
  refine awp_cond rfl (fun h6 => ?_) (fun h6 => ?_)
  ·replace hg := cond_t h6 hg
   refine sr_ 80 120 hU80_5 ?_
   refine c0_ rfl rfl .move rfl rfl ?_
   refine c0_ rfl rfl .move rfl rfl ?_
   obtain ⟨e_2, he_2, hg⟩ := bind_some hg
   refine c0_ rfl rfl (r_idxS sl22 eI_len (getI_ix he_2) (getI_at he_2)) rfl rfl ?_
   refine c0_ rfl rfl (r_loadE1 ty3 (enc_cell eI_len (getI_at he_2) (o := 0) (c := .int .i64 e_2) rfl rfl)) rfl rfl ?_
   refine c0_ rfl rfl .assign rfl rfl ?_
   refine ch_n fun hU120_7 => ?_
   refine aw_r ?_
   replace hg := leave hg hn1
   obtain rfl := Option.some.inj hg
   exact ⟨[_], _, [], [], .cons (.tmp rfl) .nil, ⟨rfl, rfl⟩, .val _, trivial, rfl, rfl, rfl, rfl⟩
  ·replace hg := cond_f h6 hg
   refine aw_s ?_
   refine awp_region (sys _ _ []) 80 104 hU80_5 rfl rfl ?_
   refine c0_ rfl rfl .move rfl rfl ?_
   refine c0_ rfl rfl r_add rfl rfl ?_
   refine c0_ rfl rfl .assign rfl rfl ?_
   refine ch_n fun hU104_8 => ?_
   obtain rfl := Option.some.inj hg
   exact ⟨(W (i_1 + 1), m1), Nat.lt_succ_self _, hn1, Sub.lists [] rfl rfl ⟨⟨_, rfl, .val _⟩, ⟨_, rfl, .sl _ _⟩, ⟨_, rfl, .sl _ _⟩, ⟨_, rfl, .val _⟩, trivial⟩ trivial⟩
 ·replace hg := cond_f h4 hg
  refine awp_exit ?_
  repeat first | refine st_ ?_ | refine sn_ ?_
  replace hg := leave hg hn1
  refine sr_ 32 40 hU32_3 ?_
  refine c0_ rfl rfl .assign rfl rfl ?_
  refine ch_n fun hU40_9 => ?_
  refine aw_r ?_
  obtain rfl := Option.some.inj hg
  exact ⟨[_], _, [], [], .cons (.tmp rfl) .nil, ⟨rfl, rfl⟩, .val _, trivial, rfl, rfl, rfl, rfl⟩
theorem w_ref02_single (alg : Int) (r : Int) (hg : g_ref02_single alg = some r) : Fn Try.prog 86 0 [.val (.int .i64 alg)] [] (fun d b => d = .val (.int .i64 r) ∧ b = []) := by
 unfold g_ref02_single at hg
 refine Fn.of Try.func86 rfl rfl rfl fun w0 I ρ0 => ?_
 show awp _ ⟨w0, I, ρ0, 0, 0, 21⟩ _ _ _
 refine sr_ 0 8 mk_U ?_
 refine c0_ rfl rfl .assign rfl rfl ?_
 refine ch_n fun hU8_1 => ?_
 refine awp_seq ?_
 refine sr_ 8 16 hU8_1 ?_
 refine c0_ rfl rfl .move rfl rfl ?_
 refine ch_n fun hU16_2 => ?_
 refine awp_block ?_
 refine sr_ 16 32 hU16_2 ?_
 refine c0_ rfl rfl r_eql rfl rfl ?_
 refine c0_ rfl rfl .assign rfl rfl ?_
 refine ch_n fun hU32_3 => ?_
 refine awp_cond rfl (fun h4 => ?_) (fun h4 => ?_)
 ·replace hg := cond_t h4 hg
  refine sr_ 32 40 hU32_3 ?_
  refine c0_ rfl rfl .assign rfl rfl ?_
  refine ch_n fun hU40_5 => ?_
  refine aw_r ?_
  obtain rfl := Option.some.inj hg
  exact ⟨[_], _, [], [], .cons (.tmp rfl) .nil, ⟨rfl, rfl⟩, .val _, trivial, rfl, rfl, rfl, rfl⟩
 ·replace hg := cond_f h4 hg
  refine sr_ 32 48 hU32_3 ?_
  refine c0_ rfl rfl r_eql rfl rfl ?_
  refine c0_ rfl rfl .assign rfl rfl ?_
  refine ch_n fun hU48_6 => ?_
  refine awp_cond rfl (fun h7 => ?_) (fun h7 => ?_)
  ·replace hg := cond_t h7 hg
   refine sr_ 48 56 hU48_6 ?_
   refine c0_ rfl rfl .assign rfl rfl ?_
   refine ch_n fun hU56_8 => ?_
   refine aw_r ?_
   obtain rfl := Option.some.inj hg
   exact ⟨[_], _, [], [], .cons (.tmp rfl) .nil, ⟨rfl, rfl⟩, .val _, trivial, rfl, rfl, rfl, rfl⟩
  ·replace hg := cond_f h7 hg
   refine awp_cut (ι := Bool) (fun (x8_1 : Bool) => mk [(3, .val (.int .i64 alg)), (8, .val (.bool x8_1))] [] 0) (fun (x8_1 : Bool) => g_ref02_single.j1 alg x8_1 = some r) ?_ ?_
   ·refine awp_seq ?_
    refine awp_region (sys _ _ []) 48 64 hU48_6 rfl rfl ?_
    refine c0_ rfl rfl r_eql rfl rfl ?_
    refine c0_ rfl rfl .assign rfl rfl ?_
    refine ch_n fun hU64_9 => ?_
    refine awp_cond rfl (fun h10 => ?_) (fun h10 => ?_)
    ·replace hg := cond_t h10 hg
     refine aw_s ?_
     exact ⟨decide (alg = 3), hg, Sub.lists [] rfl rfl ⟨⟨_, rfl, .val _⟩, ⟨_, rfl, .val _⟩, trivial⟩ trivial⟩
    ·replace hg := cond_f h10 hg
     refine sr_ 64 80 hU64_9 ?_
     refine c0_ rfl rfl r_eql rfl rfl ?_
     refine c0_ rfl rfl .assign rfl rfl ?_
     refine ch_n fun hU80_11 => ?_
     refine awp_cond rfl (fun h12 => ?_) (fun h12 => ?_)
     ·replace hg := cond_t h12 hg
      refine aw_s ?_
      exact ⟨decide (alg = 8), hg, Sub.lists [] rfl rfl ⟨⟨_, rfl, .val _⟩, ⟨_, rfl, .val _⟩, trivial⟩ trivial⟩
     ·replace hg := cond_f h12 hg
      refine awp_region (sys _ _ []) 80 96 hU80_11 rfl rfl ?_
      refine c0_ rfl rfl r_eql rfl rfl ?_
      refine c0_ rfl rfl .assign rfl rfl ?_
      refine ch_n fun hU96_13 => ?_
      exact ⟨decide (alg = 21), hg, Sub.lists [] rfl rfl ⟨⟨_, rfl, .val _⟩, ⟨_, rfl, .val _⟩, trivial⟩ trivial⟩
   ·rintro x8_1 hg
    replace hg : g_ref02_single.j1 alg x8_1 = some r := hg
    show awp _ _ _ _ (mk _ _ _)
    unfold g_ref02_single.j1 at hg
    refine awp_cond rfl (fun h14 => ?_) (fun h14 => ?_)
    ·replace hg := cond_t h14 hg
     refine sr_ 0 8 mk_U ?_
     refine c0_ rfl rfl .assign rfl rfl ?_
     refine ch_n fun hU8_15 => ?_
     refine aw_r ?_
     obtain rfl := Option.some.inj hg
     exact ⟨[_], _, [], [], .cons (.tmp rfl) .nil, ⟨rfl, rfl⟩, .val _, trivial, rfl, rfl, rfl, rfl⟩
    ·replace hg := cond_f h14 hg
     refine sr_ 0 16 mk_U ?_
     refine c0_ rfl rfl r_eql rfl rfl ?_
     refine c0_ rfl rfl .assign rfl rfl ?_
     refine ch_n fun hU16_16 => ?_
     refine awp_cond rfl (fun h17 => ?_) (fun h17 => ?_)
     ·replace hg := cond_t h17 hg
      refine sr_ 16 24 hU16_16 ?_
      refine c0_ rfl rfl .assign rfl rfl ?_
      refine ch_n fun hU24_18 => ?_
      refine aw_r ?_
      obtain rfl := Option.some.inj hg
      exact ⟨[_], _, [], [], .cons (.tmp rfl) .nil, ⟨rfl, rfl⟩, .val _, trivial, rfl, rfl, rfl, rfl⟩
     ·replace hg := cond_f h17 hg
      refine awp_cut (ι := Bool) (fun (x14_2 : Bool) => mk [(3, .val (.int .i64 alg)), (14, .val (.bool x14_2))] [] 0) (fun (x14_2 : Bool) => g_ref02_single.j2 alg x14_2 = some r) ?_ ?_
      ·refine awp_seq ?_
       refine awp_region (sys _ _ []) 16 32 hU16_16 rfl rfl ?_
       refine c0_ rfl rfl r_eql rfl rfl ?_
       refine c0_ rfl rfl .assign rfl rfl ?_
       refine ch_n fun hU32_19 => ?_
       refine awp_cond rfl (fun h20 => ?_) (fun h20 => ?_)
       ·replace hg := cond_t h20 hg
        refine aw_s ?_
        exact ⟨decide (alg = 18), hg, Sub.lists [] rfl rfl ⟨⟨_, rfl, .val _⟩, ⟨_, rfl, .val _⟩, trivial⟩ trivial⟩
       ·replace hg := cond_f h20 hg
        refine awp_region (sys _ _ []) 32 48 hU32_19 rfl rfl ?_
        refine c0_ rfl rfl r_eql rfl rfl ?_
        refine c0_ rfl rfl .assign rfl rfl ?_
        refine ch_n fun hU48_21 => ?_
        exact ⟨decide (alg = 22), hg, Sub.lists [] rfl rfl ⟨⟨_, rfl, .val _⟩, ⟨_, rfl, .val _⟩, trivial⟩ trivial⟩
      ·rintro x14_2 hg
       replace hg : g_ref02_single.j2 alg x14_2 = some r := hg
       show awp _ _ _ _ (mk _ _ _)
       unfold g_ref02_single.j2 at hg
       refine awp_cond rfl (fun h22 => ?_) (fun h22 => ?_)
       ·replace hg := cond_t h22 hg
        refine sr_ 0 8 mk_U ?_
        refine c0_ rfl rfl .assign rfl rfl ?_
        refine ch_n fun hU8_23 => ?_
        refine aw_r ?_
        obtain rfl := Option.some.inj hg
        exact ⟨[_], _, [], [], .cons (.tmp rfl) .nil, ⟨rfl, rfl⟩, .val _, trivial, rfl, rfl, rfl, rfl⟩
       ·replace hg := cond_f h22 hg
        refine sr_ 0 16 mk_U ?_
        refine c0_ rfl rfl r_eql rfl rfl ?_
        refine c0_ rfl rfl .assign rfl rfl ?_
        refine ch_n fun hU16_24 => ?_
        refine awp_cond rfl (fun h25 => ?_) (fun h25 => ?_)
        ·replace hg := cond_t h25 hg
         refine sr_ 16 24 hU16_24 ?_
         refine c0_ rfl rfl .assign rfl rfl ?_
         refine ch_n fun hU24_26 => ?_
         refine aw_r ?_
         obtain rfl := Option.some.inj hg
         exact ⟨[_], _, [], [], .cons (.tmp rfl) .nil, ⟨rfl, rfl⟩, .val _, trivial, rfl, rfl, rfl, rfl⟩
        ·replace hg := cond_f h25 hg
         refine sr_ 16 32 hU16_24 ?_
         refine c0_ rfl rfl r_eql rfl rfl ?_
         refine c0_ rfl rfl .assign rfl rfl ?_
         refine ch_n fun hU32_27 => ?_
         refine awp_cond rfl (fun h28 => ?_) (fun h28 => ?_)
         ·replace hg := cond_t h28 hg
          refine sr_ 32 40 hU32_27 ?_
          refine c0_ rfl rfl .assign rfl rfl ?_
          refine ch_n fun hU40_29 => ?_
          refine aw_r ?_
          obtain rfl := Option.some.inj hg
          exact ⟨[_], _, [], [], .cons (.tmp rfl) .nil, ⟨rfl, rfl⟩, .val _, trivial, rfl, rfl, rfl, rfl⟩
         ·replace hg := cond_f h28 hg
          refine aw_s ?_
          refine sr_ 32 40 hU32_27 ?_
          refine c0_ rfl rfl .assign rfl rfl ?_
          refine ch_n fun hU40_30 => ?_
          refine aw_r ?_
          obtain rfl := Option.some.inj hg
          exact ⟨[_], _, [], [], .cons (.tmp rfl) .nil, ⟨rfl, rfl⟩, .val _, trivial, rfl, rfl, rfl, rfl⟩
theorem w_ref02_Strength (u : api_Use) (r : Int) (hg : g_ref02_Strength u = some r) : Fn Try.prog 70 0 [.agg [.val (.int .i64 u.Alg), .val (.int .i64 u.Bits)]] [] (fun d b => d = .val (.int .i64 r) ∧ b = []) := by
 unfold g_ref02_Strength at hg
 refine Fn.of Try.func70 rfl rfl rfl fun w0 I ρ0 => ?_
 show awp _ ⟨w0, I, ρ0, 0, 0, 76⟩ _ _ _
 refine sr_ 0 16 mk_U ?_
 refine c0_ rfl rfl (.box rfl) rfl rfl ?_
 refine c0_ rfl rfl .assign rfl rfl ?_
 refine ch_n fun hU16_1 => ?_
 refine sr_ 16 40 hU16_1 ?_
 refine c0_ rfl rfl (.fieldP fd40_1 ty3 (by decide)) rfl rfl ?_
 refine ch_s (rd := [0]) rfl rfl (.loadB1 ty3 rfl) rfl rfl ?_
 refine c0_ rfl rfl .assign rfl rfl ?_
 refine ch_n fun hU40_2 => ?_
 refine awp_seq ?_
 refine sr_ 40 56 hU40_2 ?_
 refine c0_ rfl rfl (.fieldP fd40_0 ty3 (by decide)) rfl rfl ?_
 refine ch_s (rd := [0]) rfl rfl (.loadB1 ty3 rfl) rfl rfl ?_
 refine ch_n fun hU56_3 => ?_
 refine awp_block ?_
 refine awp_cut (ι := Bool) (fun (x8_1 : Bool) => mk [(1, .ptr 0 0), (3, .val (.int .i64 u.Bits)), (7, .val (.int .i64 u.Alg)), (8, .val (.bool x8_1))] [(0, .box [.val (.int .i64 u.Alg), .val (.int .i64 u.Bits)] 40)] 1) (fun (x8_1 : Bool) => g_ref02_Strength.j1 u x8_1 = some r) ?_ ?_
 ·refine awp_seq ?_
  refine awp_region (sys _ _ []) 56 72 hU56_3 rfl rfl ?_
  refine c0_ rfl rfl r_eql rfl rfl ?_
  refine c0_ rfl rfl .assign rfl rfl ?_
  refine ch_n fun hU72_4 => ?_
  refine awp_cond rfl (fun h5 => ?_) (fun h5 => ?_)
  ·replace hg := cond_t h5 hg
   refine aw_s ?_
   exact ⟨decide (u.Alg = 5), hg, Sub.lists [(0, 0)] rfl rfl ⟨⟨_, rfl, .ptr rfl⟩, ⟨_, rfl, .val _⟩, ⟨_, rfl, .val _⟩, ⟨_, rfl, .val _⟩, trivial⟩ ⟨.inl ⟨0, _, rfl, rfl, ⟨rfl, .cons (.val _) (.cons (.val _) .nil)⟩⟩, trivial⟩⟩
  ·replace hg := cond_f h5 hg
   refine sr_ 72 88 hU72_4 ?_
   refine c0_ rfl rfl r_eql rfl rfl ?_
   refine c0_ rfl rfl .assign rfl rfl ?_
   refine ch_n fun hU88_6 => ?_
   refine awp_cond rfl (fun h7 => ?_) (fun h7 => ?_)
   ·replace hg := cond_t h7 hg
    refine aw_s ?_
    exact ⟨decide (u.Alg = 6), hg, Sub.lists [(0, 0)] rfl rfl ⟨⟨_, rfl, .ptr rfl⟩, ⟨_, rfl, .val _⟩, ⟨_, rfl, .val _⟩, ⟨_, rfl, .val _⟩, trivial⟩ ⟨.inl ⟨0, _, rfl, rfl, ⟨rfl, .cons (.val _) (.cons (.val _) .nil)⟩⟩, trivial⟩⟩
   ·replace hg := cond_f h7 hg
    refine sr_ 88 104 hU88_6 ?_
    refine c0_ rfl rfl r_eql rfl rfl ?_
    refine c0_ rfl rfl .assign rfl rfl ?_
    refine ch_n fun hU104_8 => ?_
    refine awp_cond rfl (fun h9 => ?_) (fun h9 => ?_)
    ·replace hg := cond_t h9 hg
     refine aw_s ?_
     exact ⟨decide (u.Alg = 10), hg, Sub.lists [(0, 0)] rfl rfl ⟨⟨_, rfl, .ptr rfl⟩, ⟨_, rfl, .val _⟩, ⟨_, rfl, .val _⟩, ⟨_, rfl, .val _⟩, trivial⟩ ⟨.inl ⟨0, _, rfl, rfl, ⟨rfl, .cons (.val _) (.cons (.val _) .nil)⟩⟩, trivial⟩⟩
    ·replace hg := cond_f h9 hg
     refine awp_region (sys _ _ []) 104 120 hU104_8 rfl rfl ?_
     refine c0_ rfl rfl r_eql rfl rfl ?_
     refine c0_ rfl rfl .assign rfl rfl ?_
     refine ch_n fun hU120_10 => ?_
     exact ⟨decide (u.Alg = 11), hg, Sub.lists [(0, 0)] rfl rfl ⟨⟨_, rfl, .ptr rfl⟩, ⟨_, rfl, .val _⟩, ⟨_, rfl, .val _⟩, ⟨_, rfl, .val _⟩, trivial⟩ ⟨.inl ⟨0, _, rfl, rfl, ⟨rfl, .cons (.val _) (.cons (.val _) .nil)⟩⟩, trivial⟩⟩
 ·rintro x8_1 hg
  replace hg : g_ref02_Strength.j1 u x8_1 = some r := hg
  show awp _ _ _ _ (mk _ _ _)
  unfold g_ref02_Strength.j1 at hg
  refine awp_cond rfl (fun h11 => ?_) (fun h11 => ?_)
  ·replace hg := cond_t h11 hg
   refine sr_ 1 25 mk_U ?_
   refine c0_ rfl rfl .move rfl rfl ?_
   obtain ⟨y, hy, hg⟩ := bind_some hg
   refine ch_callP (rd := []) (ps := []) (gs := []) false rfl (w_ref02_modulus u.Bits _ hy) rfl rfl (.cons .val .nil) rfl rfl (by intro h; cases h) rfl rfl rfl rfl ?_
   refine c0_ rfl rfl .assign rfl rfl ?_
   refine ch_n fun hU25_12 => ?_
   refine aw_r ?_
   obtain rfl := Option.some.inj hg
   exact ⟨[_], _, [], [], .cons (.tmp rfl) .nil, ⟨rfl, rfl⟩, .val _, trivial, rfl, rfl, rfl, rfl⟩
  ·replace hg := cond_f h11 hg
   refine awp_cut (ι := Bool) (fun (x15_2 : Bool) => mk [(1, .ptr 0 0), (3, .val (.int .i64 u.Bits)), (7, .val (.int .i64 u.Alg)), (15, .val (.bool x15_2))] [(0, .box [.val (.int .i64 u.Alg), .val (.int .i64 u.Bits)] 40)] 1) (fun (x15_2 : Bool) => g_ref02_Strength.j2 u x15_2 = some r) ?_ ?_
   ·refine awp_seq ?_
    refine awp_region (sys _ _ []) 1 17 mk_U rfl rfl ?_
    refine c0_ rfl rfl r_eql rfl rfl ?_
    refine c0_ rfl rfl .assign rfl rfl ?_
    refine ch_n fun hU17_13 => ?_
    refine awp_cond rfl (fun h14 => ?_) (fun h14 => ?_)
    ·replace hg := cond_t h14 hg
     refine aw_s ?_
     exact ⟨decide (u.Alg = 7), hg, Sub.lists [(0, 0)] rfl rfl ⟨⟨_, rfl, .ptr rfl⟩, ⟨_, rfl, .val _⟩, ⟨_, rfl, .val _⟩, ⟨_, rfl, .val _⟩, trivial⟩ ⟨.inl ⟨0, _, rfl, rfl, ⟨rfl, .cons (.val _) (.cons (.val _) .nil)⟩⟩, trivial⟩⟩
    ·replace hg := cond_f h14 hg
     refine awp_region (sys _ _ []) 17 33 hU17_13 rfl rfl ?_
     refine c0_ rfl rfl r_eql rfl rfl ?_
     refine c0_ rfl rfl .assign rfl rfl ?_
     refine ch_n fun hU33_15 => ?_
     exact ⟨decide (u.Alg = 12), hg, Sub.lists [(0, 0)] rfl rfl ⟨⟨_, rfl, .ptr rfl⟩, ⟨_, rfl, .val _⟩, ⟨_, rfl, .val _⟩, ⟨_, rfl, .val _⟩, trivial⟩ ⟨.inl ⟨0, _, rfl, rfl, ⟨rfl, .cons (.val _) (.cons (.val _) .nil)⟩⟩, trivial⟩⟩
   ·rintro x15_2 hg
    replace hg : g_ref02_Strength.j2 u x15_2 = some r := hg
    show awp _ _ _ _ (mk _ _ _)
    unfold g_ref02_Strength.j2 at hg
    refine awp_cond rfl (fun h16 => ?_) (fun h16 => ?_)
    ·replace hg := cond_t h16 hg
     refine awp_seq ?_
     refine awp_cut (ι := Bool) (fun (x35_3 : Bool) => mk [(3, .val (.int .i64 u.Bits)), (35, .val (.bool x35_3))] [] 0) (fun (x35_3 : Bool) => g_ref02_Strength.j3 u x35_3 = some r) ?_ ?_
     ·refine awp_region (sys _ _ []) 1 145 mk_U rfl rfl ?_
      refine c0_ rfl rfl .move rfl rfl ?_
      refine c0_ rfl rfl r_eql rfl rfl ?_
      refine c0_ rfl rfl .move rfl rfl ?_
      rcases Bool.eq_false_or_eq_true (decide (u.Bits = 160)) with h17 | h17
      ·replace hg := cond_t h17 hg
       refine ch_skip (gdv_f rfl rfl h17) rfl ?_
       refine ch_skip (gdv_f rfl rfl h17) rfl ?_
       refine c0_ rfl rfl (r_pickT h17) rfl rfl ?_
       refine c0_ rfl rfl .move rfl rfl ?_
       refine ch_skip (gdv_f rfl rfl rfl) rfl ?_
       refine ch_skip (gdv_f rfl rfl rfl) rfl ?_
       refine c0_ rfl rfl (r_pickT rfl) rfl rfl ?_
       refine c0_ rfl rfl .move rfl rfl ?_
       refine ch_skip (gdv_f rfl rfl rfl) rfl ?_
       refine ch_skip (gdv_f rfl rfl rfl) rfl ?_
       refine c0_ rfl rfl (r_pickT rfl) rfl rfl ?_
       refine c0_ rfl rfl .move rfl rfl ?_
       refine ch_skip (gdv_f rfl rfl rfl) rfl ?_
       refine ch_skip (gdv_f rfl rfl rfl) rfl ?_
       refine c0_ rfl rfl (r_pickT rfl) rfl rfl ?_
       refine ch_n fun hU145_18 => ?_
       exact ⟨true, hg, Sub.lists [] rfl rfl ⟨⟨_, rfl, .val _⟩, ⟨_, rfl, .val _⟩, trivial⟩ trivial⟩
      ·replace hg := cond_f h17 hg
       refine c0_ (gdv_t rfl rfl h17) rfl .move rfl rfl ?_
       refine c0_ (gdv_t rfl rfl h17) rfl r_eql rfl rfl ?_
       refine c0_ rfl rfl (r_pickF h17) rfl rfl ?_
       refine c0_ rfl rfl .move rfl rfl ?_
       rcases Bool.eq_false_or_eq_true (decide (u.Bits = 224)) with h19 | h19
       ·replace hg := cond_t h19 hg
        refine ch_skip (gdv_f rfl rfl h19) rfl ?_
        refine ch_skip (gdv_f rfl rfl h19) rfl ?_
        refine c0_ rfl rfl (r_pickT h19) rfl rfl ?_
        refine c0_ rfl rfl .move rfl rfl ?_
        refine ch_skip (gdv_f rfl rfl rfl) rfl ?_
        refine ch_skip (gdv_f rfl rfl rfl) rfl ?_
        refine c0_ rfl rfl (r_pickT rfl) rfl rfl ?_
        refine c0_ rfl rfl .move rfl rfl ?_
        refine ch_skip (gdv_f rfl rfl rfl) rfl ?_
        refine ch_skip (gdv_f rfl rfl rfl) rfl ?_
        refine c0_ rfl rfl (r_pickT rfl) rfl rfl ?_
        refine ch_n fun hU145_20 => ?_
        exact ⟨true, hg, Sub.lists [] rfl rfl ⟨⟨_, rfl, .val _⟩, ⟨_, rfl, .val _⟩, trivial⟩ trivial⟩
       ·replace hg := cond_f h19 hg
        refine c0_ (gdv_t rfl rfl h19) rfl .move rfl rfl ?_
        refine c0_ (gdv_t rfl rfl h19) rfl r_eql rfl rfl ?_
        refine c0_ rfl rfl (r_pickF h19) rfl rfl ?_
        refine c0_ rfl rfl .move rfl rfl ?_
        rcases Bool.eq_false_or_eq_true (decide (u.Bits = 256)) with h21 | h21
        ·replace hg := cond_t h21 hg
         refine ch_skip (gdv_f rfl rfl h21) rfl ?_
         refine ch_skip (gdv_f rfl rfl h21) rfl ?_
         refine c0_ rfl rfl (r_pickT h21) rfl rfl ?_
         refine c0_ rfl rfl .move rfl rfl ?_
         refine ch_skip (gdv_f rfl rfl rfl) rfl ?_
         refine ch_skip (gdv_f rfl rfl rfl) rfl ?_
         refine c0_ rfl rfl (r_pickT rfl) rfl rfl ?_
         refine ch_n fun hU145_22 => ?_
         exact ⟨true, hg, Sub.lists [] rfl rfl ⟨⟨_, rfl, .val _⟩, ⟨_, rfl, .val _⟩, trivial⟩ trivial⟩
        ·replace hg := cond_f h21 hg
         refine c0_ (gdv_t rfl rfl h21) rfl .move rfl rfl ?_
         refine c0_ (gdv_t rfl rfl h21) rfl r_eql rfl rfl ?_
         refine c0_ rfl rfl (r_pickF h21) rfl rfl ?_
         refine c0_ rfl rfl .move rfl rfl ?_
         rcases Bool.eq_false_or_eq_true (decide (u.Bits = 384)) with h23 | h23
         ·replace hg := cond_t h23 hg
          refine ch_skip (gdv_f rfl rfl h23) rfl ?_
          refine ch_skip (gdv_f rfl rfl h23) rfl ?_
          refine c0_ rfl rfl (r_pickT h23) rfl rfl ?_
          refine ch_n fun hU145_24 => ?_
          exact ⟨true, hg, Sub.lists [] rfl rfl ⟨⟨_, rfl, .val _⟩, ⟨_, rfl, .val _⟩, trivial⟩ trivial⟩
         ·replace hg := cond_f h23 hg
          refine c0_ (gdv_t rfl rfl h23) rfl .move rfl rfl ?_
          refine c0_ (gdv_t rfl rfl h23) rfl r_eql rfl rfl ?_
          refine c0_ rfl rfl (r_pickF h23) rfl rfl ?_
          refine ch_n fun hU145_25 => ?_
          exact ⟨decide (u.Bits = 521), hg, Sub.lists [] rfl rfl ⟨⟨_, rfl, .val _⟩, ⟨_, rfl, .val _⟩, trivial⟩ trivial⟩
     ·rintro x35_3 hg
      replace hg : g_ref02_Strength.j3 u x35_3 = some r := hg
      show awp _ _ _ _ (mk _ _ _)
      unfold g_ref02_Strength.j3 at hg
      refine awp_cond rfl (fun h26 => ?_) (fun h26 => ?_)
      ·replace hg := cond_t h26 hg
       refine sr_ 0 24 mk_U ?_
       refine c0_ rfl rfl .move rfl rfl ?_
       obtain ⟨q, hq, hg⟩ := bind_some hg
       refine c0_ rfl rfl (r_quo hq) rfl rfl ?_
       refine c0_ rfl rfl .assign rfl rfl ?_
       refine ch_n fun hU24_27 => ?_
       refine aw_r ?_
       obtain rfl := Option.some.inj hg
       exact ⟨[_], _, [], [], .cons (.tmp rfl) .nil, ⟨rfl, rfl⟩, .val _, trivial, rfl, rfl, rfl, rfl⟩
      ·replace hg := cond_f h26 hg
       refine aw_s ?_
       refine sr_ 0 8 mk_U ?_
       refine c0_ rfl rfl .assign rfl rfl ?_
       refine ch_n fun hU8_28 => ?_
       refine aw_r ?_
       obtain rfl := Option.some.inj hg
       exact ⟨[_], _, [], [], .cons (.tmp rfl) .nil, ⟨rfl, rfl⟩, .val _, trivial, rfl, rfl, rfl, rfl⟩
    ·replace hg := cond_f h16 hg
     refine sr_ 1 17 mk_U ?_
     refine c0_ rfl rfl r_eql rfl rfl ?_
     refine c0_ rfl rfl .assign rfl rfl ?_
     refine ch_n fun hU17_29 => ?_
     refine awp_cond rfl (fun h30 => ?_) (fun h30 => ?_)
     ·replace hg := cond_t h30 hg
      refine sr_ 17 57 hU17_29 ?_
      refine c0_ rfl rfl .move rfl rfl ?_
      refine c0_ rfl rfl (r_buildFull sl22 z3 (by decide) rfl rfl rfl rfl ck3 (cs := [.int .i64 44, .int .i64 65, .int .i64 87]) (.cons .int (.cons .int (.cons .int .nil))) rfl (l := ([44, 65, 87] : List Int)) (f := eI) rfl) rfl rfl ?_
      refine c0_ rfl rfl (r_buildFull sl22 z3 (by decide) rfl rfl rfl rfl ck3 (cs := [.int .i64 128, .int .i64 192, .int .i64 256]) (.cons .int (.cons .int (.cons .int .nil))) rfl (l := ([128, 192, 256] : List Int)) (f := eI) rfl) rfl rfl ?_
      obtain ⟨y_2, hy_2, hg⟩ := bind_some hg
      refine ch_callP (rd := [25, 33]) (ps := []) (gs := []) true rfl (w_ref02_among u.Bits ([44, 65, 87] : List Int) ([128, 192, 256] : List Int) _ hy_2) rfl rfl (.cons .val (.cons (.row rfl (.head _) rfl) (.cons (.row rfl (.tail _ (.head _)) rfl) .nil))) rfl rfl (fun _ => ⟨by simp [flatD, flatDs], by simp [flatB, flatDs, flatD]⟩) rfl rfl rfl rfl ?_
      refine c0_ rfl rfl .assign rfl rfl ?_
      refine ch_n fun hU57_31 => ?_
      refine aw_r ?_
      obtain rfl := Option.some.inj hg
      exact ⟨[_], _, [], [], .cons (.tmp rfl) .nil, ⟨rfl, rfl⟩, .val _, trivial, rfl, rfl, rfl, rfl⟩
     ·replace hg := cond_f h30 hg
      refine sr_ 17 33 hU17_29 ?_
      refine c0_ rfl rfl r_eql rfl rfl ?_
      refine c0_ rfl rfl .assign rfl rfl ?_
      refine ch_n fun hU33_32 => ?_
      refine awp_cond rfl (fun h33 => ?_) (fun h33 => ?_)
      ·replace hg := cond_t h33 hg
       refine sr_ 33 73 hU33_32 ?_
       refine c0_ rfl rfl .move rfl rfl ?_
       refine c0_ rfl rfl (r_buildFull sl22 z3 (by decide) rfl rfl rfl rfl ck3 (cs := [.int .i64 512, .int .i64 768, .int .i64 1024]) (.cons .int (.cons .int (.cons .int .nil))) rfl (l := ([512, 768, 1024] : List Int)) (f := eI) rfl) rfl rfl ?_
       refine c0_ rfl rfl (r_buildFull sl22 z3 (by decide) rfl rfl rfl rfl ck3 (cs := [.int .i64 128, .int .i64 192, .int .i64 256]) (.cons .int (.cons .int (.cons .int .nil))) rfl (l := ([128, 192, 256] : List Int)) (f := eI) rfl) rfl rfl ?_
       obtain ⟨y_3, hy_3, hg⟩ := bind_some hg
       refine ch_callP (rd := [41, 49]) (ps := []) (gs := []) true rfl (w_ref02_among u.Bits ([512, 768, 1024] : List Int) ([128, 192, 256] : List Int) _ hy_3) rfl rfl (.cons .val (.cons (.row rfl (.head _) rfl) (.cons (.row rfl (.tail _ (.head _)) rfl) .nil))) rfl rfl (fun _ => ⟨by simp [flatD, flatDs], by simp [flatB, flatDs, flatD]⟩) rfl rfl rfl rfl ?_
       refine c0_ rfl rfl .assign rfl rfl ?_
       refine ch_n fun hU73_34 => ?_
       refine aw_r ?_
       obtain rfl := Option.some.inj hg
       exact ⟨[_], _, [], [], .cons (.tmp rfl) .nil, ⟨rfl, rfl⟩, .val _, trivial, rfl, rfl, rfl, rfl⟩
      ·replace hg := cond_f h33 hg
       refine sr_ 33 49 hU33_32 ?_
       refine c0_ rfl rfl r_eql rfl rfl ?_
       refine c0_ rfl rfl .assign rfl rfl ?_
       refine ch_n fun hU49_35 => ?_
       refine awp_cond rfl (fun h36 => ?_) (fun h36 => ?_)
       ·replace hg := cond_t h36 hg
        refine sr_ 49 89 hU49_35 ?_
        refine c0_ rfl rfl .move rfl rfl ?_
        refine c0_ rfl rfl (r_buildFull sl22 z3 (by decide) rfl rfl rfl rfl ck3 (cs := [.int .i64 40, .int .i64 128]) (.cons .int (.cons .int .nil)) rfl (l := ([40, 128] : List Int)) (f := eI) rfl) rfl rfl ?_
        refine c0_ rfl rfl (r_buildFull sl22 z3 (by decide) rfl rfl rfl rfl ck3 (cs := [.int .i64 40, .int .i64 60]) (.cons .int (.cons .int .nil)) rfl (l := ([40, 60] : List Int)) (f := eI) rfl) rfl rfl ?_
        obtain ⟨y_4, hy_4, hg⟩ := bind_some hg
        refine ch_callP (rd := [57, 65]) (ps := []) (gs := []) true rfl (w_ref02_among u.Bits ([40, 128] : List Int) ([40, 60] : List Int) _ hy_4) rfl rfl (.cons .val (.cons (.row rfl (.head _) rfl) (.cons (.row rfl (.tail _ (.head _)) rfl) .nil))) rfl rfl (fun _ => ⟨by simp [flatD, flatDs], by simp [flatB, flatDs, flatD]⟩) rfl rfl rfl rfl ?_
        refine c0_ rfl rfl .assign rfl rfl ?_
        refine ch_n fun hU89_37 => ?_
        refine aw_r ?_
        obtain rfl := Option.some.inj hg
        exact ⟨[_], _, [], [], .cons (.tmp rfl) .nil, ⟨rfl, rfl⟩, .val _, trivial, rfl, rfl, rfl, rfl⟩
       ·replace hg := cond_f h36 hg
        refine sr_ 49 65 hU49_35 ?_
        refine c0_ rfl rfl r_eql rfl rfl ?_
        refine c0_ rfl rfl .assign rfl rfl ?_
        refine ch_n fun hU65_38 => ?_
        refine awp_cond rfl (fun h39 => ?_) (fun h39 => ?_)
        ·replace hg := cond_t h39 hg
         refine sr_ 65 105 hU65_38 ?_
         refine c0_ rfl rfl .move rfl rfl ?_
         refine c0_ rfl rfl (r_buildFull sl22 z3 (by decide) rfl rfl rfl rfl ck3 (cs := [.int .i64 112, .int .i64 168]) (.cons .int (.cons .int .nil)) rfl (l := ([112, 168] : List Int)) (f := eI) rfl) rfl rfl ?_
         refine c0_ rfl rfl (r_buildFull sl22 z3 (by decide) rfl rfl rfl rfl ck3 (cs := [.int .i64 80, .int .i64 112]) (.cons .int (.cons .int .nil)) rfl (l := ([80, 112] : List Int)) (f := eI) rfl) rfl rfl ?_
         obtain ⟨y_5, hy_5, hg⟩ := bind_some hg
         refine ch_callP (rd := [73, 81]) (ps := []) (gs := []) true rfl (w_ref02_among u.Bits ([112, 168] : List Int) ([80, 112] : List Int) _ hy_5) rfl rfl (.cons .val (.cons (.row rfl (.head _) rfl) (.cons (.row rfl (.tail _ (.head _)) rfl) .nil))) rfl rfl (fun _ => ⟨by simp [flatD, flatDs], by simp [flatB, flatDs, flatD]⟩) rfl rfl rfl rfl ?_
         refine c0_ rfl rfl .assign rfl rfl ?_
         refine ch_n fun hU105_40 => ?_
         refine aw_r ?_
         obtain rfl := Option.some.inj hg
         exact ⟨[_], _, [], [], .cons (.tmp rfl) .nil, ⟨rfl, rfl⟩, .val _, trivial, rfl, rfl, rfl, rfl⟩
        ·replace hg := cond_f h39 hg
         refine awp_cut (ι := Bool) (fun (x62_4 : Bool) => mk [(1, .ptr 0 0), (3, .val (.int .i64 u.Bits)), (62, .val (.bool x62_4))] [(0, .box [.val (.int .i64 u.Alg), .val (.int .i64 u.Bits)] 40)] 1) (fun (x62_4 : Bool) => g_ref02_Strength.j4 u x62_4 = some r) ?_ ?_
         ·refine awp_seq ?_
          refine awp_region (sys _ _ []) 65 81 hU65_38 rfl rfl ?_
          refine c0_ rfl rfl r_eql rfl rfl ?_
          refine c0_ rfl rfl .assign rfl rfl ?_
          refine ch_n fun hU81_41 => ?_
          refine awp_cond rfl (fun h42 => ?_) (fun h42 => ?_)
          ·replace hg := cond_t h42 hg
           refine aw_s ?_
           exact ⟨decide (u.Alg = 16), hg, Sub.lists [(0, 0)] rfl rfl ⟨⟨_, rfl, .ptr rfl⟩, ⟨_, rfl, .val _⟩, ⟨_, rfl, .val _⟩, trivial⟩ ⟨.inl ⟨0, _, rfl, rfl, ⟨rfl, .cons (.val _) (.cons (.val _) .nil)⟩⟩, trivial⟩⟩
          ·replace hg := cond_f h42 hg
           refine awp_region (sys _ _ []) 81 97 hU81_41 rfl rfl ?_
           refine c0_ rfl rfl r_eql rfl rfl ?_
           refine c0_ rfl rfl .assign rfl rfl ?_
           refine ch_n fun hU97_43 => ?_
           exact ⟨decide (u.Alg = 17), hg, Sub.lists [(0, 0)] rfl rfl ⟨⟨_, rfl, .ptr rfl⟩, ⟨_, rfl, .val _⟩, ⟨_, rfl, .val _⟩, trivial⟩ ⟨.inl ⟨0, _, rfl, rfl, ⟨rfl, .cons (.val _) (.cons (.val _) .nil)⟩⟩, trivial⟩⟩
         ·rintro x62_4 hg
          replace hg : g_ref02_Strength.j4 u x62_4 = some r := hg
          show awp _ _ _ _ (mk _ _ _)
          unfold g_ref02_Strength.j4 at hg
          refine awp_cond rfl (fun h44 => ?_) (fun h44 => ?_)
          ·replace hg := cond_t h44 hg
           refine sr_ 1 41 mk_U ?_
           refine c0_ rfl rfl .move rfl rfl ?_
           refine c0_ rfl rfl (r_buildFull sl22 z3 (by decide) rfl rfl rfl rfl ck3 (cs := [.int .i64 128, .int .i64 256]) (.cons .int (.cons .int .nil)) rfl (l := ([128, 256] : List Int)) (f := eI) rfl) rfl rfl ?_
           refine c0_ rfl rfl (r_buildFull sl22 z3 (by decide) rfl rfl rfl rfl ck3 (cs := [.int .i64 128, .int .i64 256]) (.cons .int (.cons .int .nil)) rfl (l := ([128, 256] : List Int)) (f := eI) rfl) rfl rfl ?_
           obtain ⟨y_6, hy_6, hg⟩ := bind_some hg
           refine ch_callP (rd := [9, 17]) (ps := []) (gs := []) true rfl (w_ref02_among u.Bits ([128, 256] : List Int) ([128, 256] : List Int) _ hy_6) rfl rfl (.cons .val (.cons (.row rfl (.head _) rfl) (.cons (.row rfl (.tail _ (.head _)) rfl) .nil))) rfl rfl (fun _ => ⟨by simp [flatD, flatDs], by simp [flatB, flatDs, flatD]⟩) rfl rfl rfl rfl ?_
           refine c0_ rfl rfl .assign rfl rfl ?_
           refine ch_n fun hU41_45 => ?_
           refine aw_r ?_
           obtain rfl := Option.some.inj hg
           exact ⟨[_], _, [], [], .cons (.tmp rfl) .nil, ⟨rfl, rfl⟩, .val _, trivial, rfl, rfl, rfl, rfl⟩
          ·replace hg := cond_f h44 hg
           refine aw_s ?_
           refine sr_ 1 65 mk_U ?_
           refine c0_ rfl rfl .move rfl rfl ?_
           refine c0_ rfl rfl (r_buildFull sl22 z3 (by decide) rfl rfl rfl rfl ck3 (cs := [.int .i64 0]) (.cons .int .nil) rfl (l := ([0] : List Int)) (f := eI) rfl) rfl rfl ?_
           refine c0_ rfl rfl (.fieldP fd40_0 ty3 (by decide)) rfl rfl ?_
           refine ch_s (rd := [0]) rfl rfl (.loadB1 ty3 rfl) rfl rfl ?_
           obtain ⟨y_7, hy_7, hg⟩ := bind_some hg
           refine ch_callP (rd := []) (ps := []) (gs := []) false rfl (w_ref02_single u.Alg _ hy_7) rfl rfl (.cons .val .nil) rfl rfl (by intro h; cases h) rfl rfl rfl rfl ?_
           refine c0_ rfl rfl (r_buildFull sl22 z3 (by decide) rfl rfl rfl rfl ck3 (cs := [.int .i64 y_7]) (.cons .int .nil) rfl (l := ([y_7] : List Int)) (f := eI) rfl) rfl rfl ?_
           obtain ⟨y_8, hy_8, hg⟩ := bind_some hg
           refine ch_callP (rd := [9, 41]) (ps := []) (gs := []) true rfl (w_ref02_among u.Bits ([0] : List Int) ([y_7] : List Int) _ hy_8) rfl rfl (.cons .val (.cons (.row rfl (.head _) rfl) (.cons (.row rfl (.tail _ (.head _)) rfl) .nil))) rfl rfl (fun _ => ⟨by simp [flatD, flatDs], by simp [flatB, flatDs, flatD]⟩) rfl rfl rfl rfl ?_
           refine c0_ rfl rfl .assign rfl rfl ?_
           refine ch_n fun hU65_46 => ?_
           refine aw_r ?_
           obtain rfl := Option.some.inj hg
           exact ⟨[_], _, [], [], .cons (.tmp rfl) .nil, ⟨rfl, rfl⟩, .val _, trivial, rfl, rfl, rfl, rfl⟩
theorem w_ref02_Valid (u : api_Use) (r : Bool) (hg : g_ref02_Valid u = some r) : Fn Try.prog 59 0 [.agg [.val (.int .i64 u.Alg), .val (.int .i64 u.Bits)]] [] (fun d b => d = .val (.bool r) ∧ b = []) := by
 unfold g_ref02_Valid at hg
 refine Fn.of Try.func59 rfl rfl rfl fun w0 I ρ0 => ?_
 show awp _ ⟨w0, I, ρ0, 0, 0, 6⟩ _ _ _
 refine sr_ 0 16 mk_U ?_
 refine c0_ rfl rfl (.box rfl) rfl rfl ?_
 refine c0_ rfl rfl .assign rfl rfl ?_
 refine ch_n fun hU16_1 => ?_
 refine sr_ 16 48 hU16_1 ?_
 refine ch_s (rd := [0]) rfl rfl (.loadBA ty40 (Nat.le_of_ble_eq_true rfl)) rfl rfl ?_
 obtain ⟨y, hy, hg⟩ := bind_some hg
 refine ch_callP (rd := []) (ps := []) (gs := []) false rfl (w_ref02_Strength u _ hy) rfl rfl (.cons (.agg (.cons .val (.cons .val .nil))) .nil) rfl rfl (by intro h; cases h) rfl rfl rfl rfl ?_
 refine c0_ rfl rfl r_gtr rfl rfl ?_
 refine c0_ rfl rfl .assign rfl rfl ?_
 refine ch_n fun hU48_2 => ?_
 refine aw_r ?_
 obtain rfl := Option.some.inj hg
 exact ⟨[_], _, [], [], .cons (.tmp rfl) .nil, ⟨rfl, rfl⟩, .val _, trivial, rfl, rfl, rfl, rfl⟩
theorem w_ref02_rows  (r : (List cipherplanref02_row)) (hg : g_ref02_rows = some r) : Fn Try.prog 71 0 [] [] (fun d b => d = .sl 2 (encL cipherplanref02_row.enc r) ∧ b = []) := by
 unfold g_ref02_rows at hg
 refine Fn.of Try.func71 rfl rfl rfl fun w0 I ρ0 => ?_
 show awp _ ⟨w0, I, ρ0, 0, 0, 25⟩ _ _ _
 refine sr_ 0 8 mk_U ?_
 refine c0_ rfl rfl .assign rfl rfl ?_
 refine ch_n fun hU8_1 => ?_
 refine sr_ 8 208 hU8_1 ?_
 refine c0_ rfl rfl (.build (r := [.val (.string (⟨#[]⟩ : ByteArray)), .val (.int .i64 0)]) und104 pl104 z104 (by kernel_rfl) rfl) rfl rfl ?_
 refine c0_ rfl rfl (.build (r := [.val (.string (⟨#[109, 100, 53]⟩ : ByteArray)), .val (.int .i64 1)]) und104 pl104 z104 (by kernel_rfl) rfl) rfl rfl ?_
 refine c0_ rfl rfl (.build (r := [.val (.string (⟨#[115, 104, 97, 49]⟩ : ByteArray)), .val (.int .i64 1)]) und104 pl104 z104 (by kernel_rfl) rfl) rfl rfl ?_
 refine c0_ rfl rfl (.build (r := [.val (.string (⟨#[115, 104, 97, 50, 53, 54]⟩ : ByteArray)), .val (.int .i64 1)]) und104 pl104 z104 (by kernel_rfl) rfl) rfl rfl ?_
 refine c0_ rfl rfl (.build (r := [.val (.string (⟨#[115, 104, 97, 51, 56, 52]⟩ : ByteArray)), .val (.int .i64 1)]) und104 pl104 z104 (by kernel_rfl) rfl) rfl rfl ?_
 refine c0_ rfl rfl (.build (r := [.val (.string (⟨#[114, 115, 97]⟩ : ByteArray)), .val (.int .i64 2)]) und104 pl104 z104 (by kernel_rfl) rfl) rfl rfl ?_
 refine c0_ rfl rfl (.build (r := [.val (.string (⟨#[100, 115, 97]⟩ : ByteArray)), .val (.int .i64 2)]) und104 pl104 z104 (by kernel_rfl) rfl) rfl rfl ?_
 refine c0_ rfl rfl (.build (r := [.val (.string (⟨#[101, 99, 100, 115, 97]⟩ : ByteArray)), .val (.int .i64 2)]) und104 pl104 z104 (by kernel_rfl) rfl) rfl rfl ?_
 refine c0_ rfl rfl (.build (r := [.val (.string (⟨#[101, 100, 50, 53, 53, 49, 57]⟩ : ByteArray)), .val (.int .i64 2)]) und104 pl104 z104 (by kernel_rfl) rfl) rfl rfl ?_
 refine c0_ rfl rfl (.build (r := [.val (.string (⟨#[109, 108, 100, 115, 97]⟩ : ByteArray)), .val (.int .i64 2)]) und104 pl104 z104 (by kernel_rfl) rfl) rfl rfl ?_
 refine c0_ rfl rfl (.build (r := [.val (.string (⟨#[114, 115, 97, 107, 120]⟩ : ByteArray)), .val (.int .i64 3)]) und104 pl104 z104 (by kernel_rfl) rfl) rfl rfl ?_
 refine c0_ rfl rfl (.build (r := [.val (.string (⟨#[100, 104, 101]⟩ : ByteArray)), .val (.int .i64 3)]) und104 pl104 z104 (by kernel_rfl) rfl) rfl rfl ?_
 refine c0_ rfl rfl (.build (r := [.val (.string (⟨#[101, 99, 100, 104, 101]⟩ : ByteArray)), .val (.int .i64 3)]) und104 pl104 z104 (by kernel_rfl) rfl) rfl rfl ?_
 refine c0_ rfl rfl (.build (r := [.val (.string (⟨#[109, 108, 107, 101, 109]⟩ : ByteArray)), .val (.int .i64 3)]) und104 pl104 z104 (by kernel_rfl) rfl) rfl rfl ?_
 refine c0_ rfl rfl (.build (r := [.val (.string (⟨#[114, 99, 52]⟩ : ByteArray)), .val (.int .i64 4)]) und104 pl104 z104 (by kernel_rfl) rfl) rfl rfl ?_
 refine c0_ rfl rfl (.build (r := [.val (.string (⟨#[100, 101, 115, 51]⟩ : ByteArray)), .val (.int .i64 4)]) und104 pl104 z104 (by kernel_rfl) rfl) rfl rfl ?_
 refine c0_ rfl rfl (.build (r := [.val (.string (⟨#[97, 101, 115, 99, 98, 99]⟩ : ByteArray)), .val (.int .i64 4)]) und104 pl104 z104 (by kernel_rfl) rfl) rfl rfl ?_
 refine c0_ rfl rfl (.build (r := [.val (.string (⟨#[97, 101, 115, 103, 99, 109]⟩ : ByteArray)), .val (.int .i64 4)]) und104 pl104 z104 (by kernel_rfl) rfl) rfl rfl ?_
 refine c0_ rfl rfl (.build (r := [.val (.string (⟨#[99, 104, 97, 99, 104, 97]⟩ : ByteArray)), .val (.int .i64 4)]) und104 pl104 z104 (by kernel_rfl) rfl) rfl rfl ?_
 refine c0_ rfl rfl (.build (r := [.val (.string (⟨#[104, 109, 97, 99, 109, 100, 53]⟩ : ByteArray)), .val (.int .i64 5)]) und104 pl104 z104 (by kernel_rfl) rfl) rfl rfl ?_
 refine c0_ rfl rfl (.build (r := [.val (.string (⟨#[104, 109, 97, 99, 115, 104, 97, 49]⟩ : ByteArray)), .val (.int .i64 5)]) und104 pl104 z104 (by kernel_rfl) rfl) rfl rfl ?_
 refine c0_ rfl rfl (.build (r := [.val (.string (⟨#[104, 109, 97, 99, 115, 104, 97, 50, 53, 54]⟩ : ByteArray)), .val (.int .i64 5)]) und104 pl104 z104 (by kernel_rfl) rfl) rfl rfl ?_
 refine c0_ rfl rfl (.build (r := [.val (.string (⟨#[97, 101, 97, 100]⟩ : ByteArray)), .val (.int .i64 5)]) und104 pl104 z104 (by kernel_rfl) rfl) rfl rfl ?_
 refine c0_ rfl rfl (r_buildFull sl105 z104 (by decide) rfl rfl rfl rfl ck104 (cs := [.str (⟨#[]⟩ : ByteArray), .int .i64 0, .str (⟨#[109, 100, 53]⟩ : ByteArray), .int .i64 1, .str (⟨#[115, 104, 97, 49]⟩ : ByteArray), .int .i64 1, .str (⟨#[115, 104, 97, 50, 53, 54]⟩ : ByteArray), .int .i64 1, .str (⟨#[115, 104, 97, 51, 56, 52]⟩ : ByteArray), .int .i64 1, .str (⟨#[114, 115, 97]⟩ : ByteArray), .int .i64 2, .str (⟨#[100, 115, 97]⟩ : ByteArray), .int .i64 2, .str (⟨#[101, 99, 100, 115, 97]⟩ : ByteArray), .int .i64 2, .str (⟨#[101, 100, 50, 53, 53, 49, 57]⟩ : ByteArray), .int .i64 2, .str (⟨#[109, 108, 100, 115, 97]⟩ : ByteArray), .int .i64 2, .str (⟨#[114, 115, 97, 107, 120]⟩ : ByteArray), .int .i64 3, .str (⟨#[100, 104, 101]⟩ : ByteArray), .int .i64 3, .str (⟨#[101, 99, 100, 104, 101]⟩ : ByteArray), .int .i64 3, .str (⟨#[109, 108, 107, 101, 109]⟩ : ByteArray), .int .i64 3, .str (⟨#[114, 99, 52]⟩ : ByteArray), .int .i64 4, .str (⟨#[100, 101, 115, 51]⟩ : ByteArray), .int .i64 4, .str (⟨#[97, 101, 115, 99, 98, 99]⟩ : ByteArray), .int .i64 4, .str (⟨#[97, 101, 115, 103, 99, 109]⟩ : ByteArray), .int .i64 4, .str (⟨#[99, 104, 97, 99, 104, 97]⟩ : ByteArray), .int .i64 4, .str (⟨#[104, 109, 97, 99, 109, 100, 53]⟩ : ByteArray), .int .i64 5, .str (⟨#[104, 109, 97, 99, 115, 104, 97, 49]⟩ : ByteArray), .int .i64 5, .str (⟨#[104, 109, 97, 99, 115, 104, 97, 50, 53, 54]⟩ : ByteArray), .int .i64 5, .str (⟨#[97, 101, 97, 100]⟩ : ByteArray), .int .i64 5]) (.cons .str (.cons .int (.cons .str (.cons .int (.cons .str (.cons .int (.cons .str (.cons .int (.cons .str (.cons .int (.cons .str (.cons .int (.cons .str (.cons .int (.cons .str (.cons .int (.cons .str (.cons .int (.cons .str (.cons .int (.cons .str (.cons .int (.cons .str (.cons .int (.cons .str (.cons .int (.cons .str (.cons .int (.cons .str (.cons .int (.cons .str (.cons .int (.cons .str (.cons .int (.cons .str (.cons .int (.cons .str (.cons .int (.cons .str (.cons .int (.cons .str (.cons .int (.cons .str (.cons .int (.cons .str (.cons .int .nil)))))))))))))))))))))))))))))))))))))))))))))) rfl (l := ([(cipherplanref02_row.mk (⟨#[]⟩ : ByteArray) 0), (cipherplanref02_row.mk (⟨#[109, 100, 53]⟩ : ByteArray) 1), (cipherplanref02_row.mk (⟨#[115, 104, 97, 49]⟩ : ByteArray) 1), (cipherplanref02_row.mk (⟨#[115, 104, 97, 50, 53, 54]⟩ : ByteArray) 1), (cipherplanref02_row.mk (⟨#[115, 104, 97, 51, 56, 52]⟩ : ByteArray) 1), (cipherplanref02_row.mk (⟨#[114, 115, 97]⟩ : ByteArray) 2), (cipherplanref02_row.mk (⟨#[100, 115, 97]⟩ : ByteArray) 2), (cipherplanref02_row.mk (⟨#[101, 99, 100, 115, 97]⟩ : ByteArray) 2), (cipherplanref02_row.mk (⟨#[101, 100, 50, 53, 53, 49, 57]⟩ : ByteArray) 2), (cipherplanref02_row.mk (⟨#[109, 108, 100, 115, 97]⟩ : ByteArray) 2), (cipherplanref02_row.mk (⟨#[114, 115, 97, 107, 120]⟩ : ByteArray) 3), (cipherplanref02_row.mk (⟨#[100, 104, 101]⟩ : ByteArray) 3), (cipherplanref02_row.mk (⟨#[101, 99, 100, 104, 101]⟩ : ByteArray) 3), (cipherplanref02_row.mk (⟨#[109, 108, 107, 101, 109]⟩ : ByteArray) 3), (cipherplanref02_row.mk (⟨#[114, 99, 52]⟩ : ByteArray) 4), (cipherplanref02_row.mk (⟨#[100, 101, 115, 51]⟩ : ByteArray) 4), (cipherplanref02_row.mk (⟨#[97, 101, 115, 99, 98, 99]⟩ : ByteArray) 4), (cipherplanref02_row.mk (⟨#[97, 101, 115, 103, 99, 109]⟩ : ByteArray) 4), (cipherplanref02_row.mk (⟨#[99, 104, 97, 99, 104, 97]⟩ : ByteArray) 4), (cipherplanref02_row.mk (⟨#[104, 109, 97, 99, 109, 100, 53]⟩ : ByteArray) 5), (cipherplanref02_row.mk (⟨#[104, 109, 97, 99, 115, 104, 97, 49]⟩ : ByteArray) 5), (cipherplanref02_row.mk (⟨#[104, 109, 97, 99, 115, 104, 97, 50, 53, 54]⟩ : ByteArray) 5), (cipherplanref02_row.mk (⟨#[97, 101, 97, 100]⟩ : ByteArray) 5)] : List cipherplanref02_row)) (f := cipherplanref02_row.enc) rfl) rfl rfl ?_
 refine c0_ rfl rfl .assign rfl rfl ?_
 refine ch_n fun hU208_2 => ?_
 refine aw_r ?_
 obtain rfl := Option.some.inj hg
 exact ⟨[_], _, [], [], .cons (.tmp rfl) .nil, ⟨rfl, rfl⟩, .frz rfl (look_ne rfl), trivial, rfl, rfl, rfl, rfl⟩
theorem w_ref02_Kind (alg : Int) (r : Int) (hg : g_ref02_Kind alg = some r) : Fn Try.prog 60 0 [.val (.int .i64 alg)] [] (fun d b => d = .val (.int .i64 r) ∧ b = []) := by
 unfold g_ref02_Kind at hg
 refine Fn.of Try.func60 rfl rfl rfl fun w0 I ρ0 => ?_
 show awp _ ⟨w0, I, ρ0, 0, 0, 14⟩ _ _ _
 refine sr_ 0 8 mk_U ?_
 refine c0_ rfl rfl .assign rfl rfl ?_
 refine ch_n fun hU8_1 => ?_
 refine awp_seq ?_
 refine awp_cut (ι := Bool) (fun (x8_1 : Bool) => mk [(0, .val (.int .i64 alg)), (8, .val (.bool x8_1))] [] 0) (fun (x8_1 : Bool) => g_ref02_Kind.j1 alg x8_1 = some r) ?_ ?_
 ·refine awp_region (sys _ _ []) 8 56 hU8_1 rfl rfl ?_
  refine c0_ rfl rfl .move rfl rfl ?_
  refine c0_ rfl rfl r_lss rfl rfl ?_
  refine c0_ rfl rfl .move rfl rfl ?_
  rcases Bool.eq_false_or_eq_true (decide (alg < 1)) with h2 | h2
  ·replace hg := cond_t h2 hg
   refine ch_skip (gdv_f rfl rfl h2) rfl ?_
   refine ch_skip (gdv_f rfl rfl h2) rfl ?_
   refine c0_ rfl rfl (r_pickT h2) rfl rfl ?_
   refine ch_n fun hU56_3 => ?_
   exact ⟨true, hg, Sub.lists [] rfl rfl ⟨⟨_, rfl, .val _⟩, ⟨_, rfl, .val _⟩, trivial⟩ trivial⟩
  ·replace hg := cond_f h2 hg
   refine c0_ (gdv_t rfl rfl h2) rfl .move rfl rfl ?_
   refine c0_ (gdv_t rfl rfl h2) rfl r_gtr rfl rfl ?_
   refine c0_ rfl rfl (r_pickF h2) rfl rfl ?_
   refine ch_n fun hU56_4 => ?_
   exact ⟨decide (22 < alg), hg, Sub.lists [] rfl rfl ⟨⟨_, rfl, .val _⟩, ⟨_, rfl, .val _⟩, trivial⟩ trivial⟩
 ·rintro x8_1 hg
  replace hg : g_ref02_Kind.j1 alg x8_1 = some r := hg
  show awp _ _ _ _ (mk _ _ _)
  unfold g_ref02_Kind.j1 at hg
  refine awp_cond rfl (fun h5 => ?_) (fun h5 => ?_)
  ·replace hg := cond_t h5 hg
   refine sr_ 0 8 mk_U ?_
   refine c0_ rfl rfl .assign rfl rfl ?_
   refine ch_n fun hU8_6 => ?_
   refine aw_r ?_
   obtain rfl := Option.some.inj hg
   exact ⟨[_], _, [], [], .cons (.tmp rfl) .nil, ⟨rfl, rfl⟩, .val _, trivial, rfl, rfl, rfl, rfl⟩
  ·replace hg := cond_f h5 hg
   refine aw_s ?_
   refine sr_ 0 48 mk_U ?_
   obtain ⟨y, hy, hg⟩ := bind_some hg
   refine ch_callP (rd := []) (ps := []) (gs := []) false rfl (w_ref02_rows  _ hy) rfl rfl .nil rfl rfl (by intro h; cases h) rfl rfl rfl rfl ?_
   refine c0_ rfl rfl .move rfl rfl ?_
   obtain ⟨e, he, hg⟩ := bind_some hg
   refine c0_ rfl rfl (r_idxS sl105 cipherplanref02_row.enc_len (getI_ix he) (getI_at he)) rfl rfl ?_
   refine c0_ rfl rfl (r_fieldE fd104_1 ty3 (by decide) (enc_lt cipherplanref02_row.enc_len (getI_at he) (o := 1) (by decide) rfl)) rfl rfl ?_
   refine c0_ rfl rfl (r_loadE1 ty3 (enc_cell cipherplanref02_row.enc_len (getI_at he) (o := 1) (c := .int .i64 e.kind) rfl rfl)) rfl rfl ?_
   refine c0_ rfl rfl .assign rfl rfl ?_
   refine ch_n fun hU48_7 => ?_
   refine aw_r ?_
   obtain rfl := Option.some.inj hg
   exact ⟨[_], _, [], [], .cons (.tmp rfl) .nil, ⟨rfl, rfl⟩, .val _, trivial, rfl, rfl, rfl, rfl⟩
theorem w_ref03_Signature (u : api_Use) (r : Bool) (hg : g_ref03_Signature u = some r) : Fn Try.prog 58 0 [.agg [.val (.int .i64 u.Alg), .val (.int .i64 u.Bits)]] [] (fun d b => d = .val (.bool r) ∧ b = []) := by
 unfold g_ref03_Signature at hg
 refine Fn.of Try.func58 rfl rfl rfl fun w0 I ρ0 => ?_
 show awp _ ⟨w0, I, ρ0, 0, 0, 11⟩ _ _ _
 refine sr_ 0 16 mk_U ?_
 refine c0_ rfl rfl (.box rfl) rfl rfl ?_
 refine c0_ rfl rfl .assign rfl rfl ?_
 refine ch_n fun hU16_1 => ?_
 refine sr_ 16 88 hU16_1 ?_
 refine ch_s (rd := [0]) rfl rfl (.loadBA ty40 (Nat.le_of_ble_eq_true rfl)) rfl rfl ?_
 obtain ⟨y, hy, hg⟩ := bind_some hg
 refine ch_callP (rd := []) (ps := []) (gs := []) false rfl (w_ref02_Valid u _ hy) rfl rfl (.cons (.agg (.cons .val (.cons .val .nil))) .nil) rfl rfl (by intro h; cases h) rfl rfl rfl rfl ?_
 refine c0_ rfl rfl .move rfl rfl ?_
 rcases Bool.eq_false_or_eq_true (y) with h2 | h2
 ·replace hg := cond_t h2 hg
  refine c0_ (gdv_t rfl rfl h2) rfl (.fieldP fd40_0 ty3 (by decide)) rfl rfl ?_
  refine ch_s (rd := [0]) (gdv_t rfl rfl h2) rfl (.loadB1 ty3 rfl) rfl rfl ?_
  obtain ⟨y_2, hy_2, hg⟩ := bind_some hg
  refine ch_callP (rd := []) (ps := []) (gs := []) false (gdv_t rfl rfl h2) (w_ref02_Kind u.Alg _ hy_2) rfl rfl (.cons .val .nil) rfl rfl (by intro h; cases h) rfl rfl rfl rfl ?_
  refine c0_ (gdv_t rfl rfl h2) rfl r_eql rfl rfl ?_
  refine c0_ rfl rfl (r_pickT h2) rfl rfl ?_
  refine c0_ rfl rfl .assign rfl rfl ?_
  refine ch_n fun hU88_3 => ?_
  refine aw_r ?_
  obtain rfl := Option.some.inj hg
  exact ⟨[_], _, [], [], .cons (.tmp rfl) .nil, ⟨rfl, rfl⟩, .val _, trivial, rfl, rfl, rfl, rfl⟩
 ·replace hg := cond_f h2 hg
  iterate 4 refine ch_skip (gdv_f rfl rfl h2) rfl ?_
  refine c0_ rfl rfl (r_pickF h2) rfl rfl ?_
  refine c0_ rfl rfl .assign rfl rfl ?_
  refine ch_n fun hU88_4 => ?_
  refine aw_r ?_
  obtain rfl := Option.some.inj hg
  exact ⟨[_], _, [], [], .cons (.tmp rfl) .nil, ⟨rfl, rfl⟩, .val _, trivial, rfl, rfl, rfl, rfl⟩
theorem w_ref03_Check (c : api_Certificate) (r : Int) (hg : g_ref03_Check c = some r) : Fn Try.prog 45 0 [.agg [.val (.int .i64 c.Serial), .val (.string c.Issuer), .val (.string c.Subject), .val (.int .i64 c.Key.Alg), .val (.int .i64 c.Key.Bits), .val (.int .i64 c.KeyId), .val (.int .i64 c.Hash.Alg), .val (.int .i64 c.Hash.Bits), .val (.int .i64 c.From), .val (.int .i64 c.To), .val (.bool c.Authority), .val (.int .i64 c.Path), .sl 1 (encL eS c.Names), .val (.int .i64 c.Seal.Key), .val (.int .i64 c.Seal.Sum)]] [] (fun d b => d = .val (.int .i64 r) ∧ b = []) := by
 unfold g_ref03_Check at hg
 refine Fn.of Try.func45 rfl rfl rfl fun w0 I ρ0 => ?_
 show awp _ ⟨w0, I, ρ0, 0, 0, 146⟩ _ _ _
 refine sr_ 0 16 mk_U ?_
 refine c0_ rfl rfl (.box rfl) rfl rfl ?_
 refine c0_ rfl rfl .assign rfl rfl ?_
 refine ch_n fun hU16_1 => ?_
 refine awp_seq ?_
 refine awp_cut (ι := Bool) (fun (x39_1 : Bool) => mk [(1, .ptr 0 0), (39, .val (.bool x39_1))] [(0, .box [.val (.int .i64 c.Serial), .val (.string c.Issuer), .val (.string c.Subject), .val (.int .i64 c.Key.Alg), .val (.int .i64 c.Key.Bits), .val (.int .i64 c.KeyId), .val (.int .i64 c.Hash.Alg), .val (.int .i64 c.Hash.Bits), .val (.int .i64 c.From), .val (.int .i64 c.To), .val (.bool c.Authority), .val (.int .i64 c.Path), .sl 1 (encL eS c.Names), .val (.int .i64 c.Seal.Key), .val (.int .i64 c.Seal.Sum)] 45)] 1) (fun (x39_1 : Bool) => g_ref03_Check.j1 c x39_1 = some r) ?_ ?_
 ·refine awp_region (sys _ _ []) 16 304 hU16_1 rfl rfl ?_
  refine c0_ rfl rfl (.fieldP fd45_0 ty3 (by decide)) rfl rfl ?_
  refine ch_s (rd := [0]) rfl rfl (.loadB1 ty3 rfl) rfl rfl ?_
  refine c0_ rfl rfl r_lss rfl rfl ?_
  refine c0_ rfl rfl .move rfl rfl ?_
  rcases Bool.eq_false_or_eq_true (decide (c.Serial < 0)) with h2 | h2
  ·replace hg := cond_t h2 hg
   iterate 3 refine ch_skip (gdv_f rfl rfl h2) rfl ?_
   refine c0_ rfl rfl (r_pickT h2) rfl rfl ?_
   refine c0_ rfl rfl .move rfl rfl ?_
   iterate 4 refine ch_skip (gdv_f rfl rfl rfl) rfl ?_
   refine c0_ rfl rfl (r_pickT rfl) rfl rfl ?_
   refine c0_ rfl rfl .move rfl rfl ?_
   iterate 4 refine ch_skip (gdv_f rfl rfl rfl) rfl ?_
   refine c0_ rfl rfl (r_pickT rfl) rfl rfl ?_
   refine c0_ rfl rfl .move rfl rfl ?_
   iterate 4 refine ch_skip (gdv_f rfl rfl rfl) rfl ?_
   refine c0_ rfl rfl (r_pickT rfl) rfl rfl ?_
   refine c0_ rfl rfl .move rfl rfl ?_
   iterate 3 refine ch_skip (gdv_f rfl rfl rfl) rfl ?_
   refine c0_ rfl rfl (r_pickT rfl) rfl rfl ?_
   refine c0_ rfl rfl .move rfl rfl ?_
   iterate 3 refine ch_skip (gdv_f rfl rfl rfl) rfl ?_
   refine c0_ rfl rfl (r_pickT rfl) rfl rfl ?_
   refine ch_n fun hU304_3 => ?_
   exact ⟨true, hg, Sub.lists [(0, 0)] rfl rfl ⟨⟨_, rfl, .ptr rfl⟩, ⟨_, rfl, .val _⟩, trivial⟩ ⟨.inl ⟨0, _, rfl, rfl, ⟨rfl, .cons (.val _) (.cons (.val _) (.cons (.val _) (.cons (.val _) (.cons (.val _) (.cons (.val _) (.cons (.val _) (.cons (.val _) (.cons (.val _) (.cons (.val _) (.cons (.val _) (.cons (.val _) (.cons (.sl _ _) (.cons (.val _) (.cons (.val _) .nil))))))))))))))⟩⟩, trivial⟩⟩
  ·replace hg := cond_f h2 hg
   refine c0_ (gdv_t rfl rfl h2) rfl (.fieldP fd45_0 ty3 (by decide)) rfl rfl ?_
   refine ch_s (rd := [0]) (gdv_t rfl rfl h2) rfl (.loadB1 ty3 rfl) rfl rfl ?_
   refine c0_ (gdv_t rfl rfl h2) rfl r_gtr rfl rfl ?_
   refine c0_ rfl rfl (r_pickF h2) rfl rfl ?_
   refine c0_ rfl rfl .move rfl rfl ?_
   rcases Bool.eq_false_or_eq_true (decide (1099511627776 < c.Serial)) with h4 | h4
   ·replace hg := cond_t h4 hg
    iterate 4 refine ch_skip (gdv_f rfl rfl h4) rfl ?_
    refine c0_ rfl rfl (r_pickT h4) rfl rfl ?_
    refine c0_ rfl rfl .move rfl rfl ?_
    iterate 4 refine ch_skip (gdv_f rfl rfl rfl) rfl ?_
    refine c0_ rfl rfl (r_pickT rfl) rfl rfl ?_
    refine c0_ rfl rfl .move rfl rfl ?_
    iterate 4 refine ch_skip (gdv_f rfl rfl rfl) rfl ?_
    refine c0_ rfl rfl (r_pickT rfl) rfl rfl ?_
    refine c0_ rfl rfl .move rfl rfl ?_
    iterate 3 refine ch_skip (gdv_f rfl rfl rfl) rfl ?_
    refine c0_ rfl rfl (r_pickT rfl) rfl rfl ?_
    refine c0_ rfl rfl .move rfl rfl ?_
    iterate 3 refine ch_skip (gdv_f rfl rfl rfl) rfl ?_
    refine c0_ rfl rfl (r_pickT rfl) rfl rfl ?_
    refine ch_n fun hU304_5 => ?_
    exact ⟨true, hg, Sub.lists [(0, 0)] rfl rfl ⟨⟨_, rfl, .ptr rfl⟩, ⟨_, rfl, .val _⟩, trivial⟩ ⟨.inl ⟨0, _, rfl, rfl, ⟨rfl, .cons (.val _) (.cons (.val _) (.cons (.val _) (.cons (.val _) (.cons (.val _) (.cons (.val _) (.cons (.val _) (.cons (.val _) (.cons (.val _) (.cons (.val _) (.cons (.val _) (.cons (.val _) (.cons (.sl _ _) (.cons (.val _) (.cons (.val _) .nil))))))))))))))⟩⟩, trivial⟩⟩
   ·replace hg := cond_f h4 hg
    refine c0_ (gdv_t rfl rfl h4) rfl (.fieldP fd45_1 ty9 (by decide)) rfl rfl ?_
    refine ch_s (rd := [0]) (gdv_t rfl rfl h4) rfl (.loadB1 ty9 rfl) rfl rfl ?_
    obtain ⟨y, hy, hg⟩ := bind_some hg
    refine ch_callP (rd := []) (ps := []) (gs := []) false (gdv_t rfl rfl h4) (w_ref03_Name c.Issuer _ hy) rfl rfl (.cons .val .nil) rfl rfl (by intro h; cases h) rfl rfl rfl rfl ?_
    refine c0_ (gdv_t rfl rfl h4) rfl r_not rfl rfl ?_
    refine c0_ rfl rfl (r_pickF h4) rfl rfl ?_
    refine c0_ rfl rfl .move rfl rfl ?_
    rcases Bool.eq_false_or_eq_true (!y) with h6 | h6
    ·replace hg := cond_t h6 hg
     iterate 4 refine ch_skip (gdv_f rfl rfl h6) rfl ?_
     refine c0_ rfl rfl (r_pickT h6) rfl rfl ?_
     refine c0_ rfl rfl .move rfl rfl ?_
     iterate 4 refine ch_skip (gdv_f rfl rfl rfl) rfl ?_
     refine c0_ rfl rfl (r_pickT rfl) rfl rfl ?_
     refine c0_ rfl rfl .move rfl rfl ?_
     iterate 3 refine ch_skip (gdv_f rfl rfl rfl) rfl ?_
     refine c0_ rfl rfl (r_pickT rfl) rfl rfl ?_
     refine c0_ rfl rfl .move rfl rfl ?_
     iterate 3 refine ch_skip (gdv_f rfl rfl rfl) rfl ?_
     refine c0_ rfl rfl (r_pickT rfl) rfl rfl ?_
     refine ch_n fun hU304_7 => ?_
     exact ⟨true, hg, Sub.lists [(0, 0)] rfl rfl ⟨⟨_, rfl, .ptr rfl⟩, ⟨_, rfl, .val _⟩, trivial⟩ ⟨.inl ⟨0, _, rfl, rfl, ⟨rfl, .cons (.val _) (.cons (.val _) (.cons (.val _) (.cons (.val _) (.cons (.val _) (.cons (.val _) (.cons (.val _) (.cons (.val _) (.cons (.val _) (.cons (.val _) (.cons (.val _) (.cons (.val _) (.cons (.sl _ _) (.cons (.val _) (.cons (.val _) .nil))))))))))))))⟩⟩, trivial⟩⟩
    ·replace hg := cond_f h6 hg
     refine c0_ (gdv_t rfl rfl h6) rfl (.fieldP fd45_2 ty9 (by decide)) rfl rfl ?_
     refine ch_s (rd := [0]) (gdv_t rfl rfl h6) rfl (.loadB1 ty9 rfl) rfl rfl ?_
     obtain ⟨y_2, hy_2, hg⟩ := bind_some hg
     refine ch_callP (rd := []) (ps := []) (gs := []) false (gdv_t rfl rfl h6) (w_ref03_Name c.Subject _ hy_2) rfl rfl (.cons .val .nil) rfl rfl (by intro h; cases h) rfl rfl rfl rfl ?_
     refine c0_ (gdv_t rfl rfl h6) rfl r_not rfl rfl ?_
     refine c0_ rfl rfl (r_pickF h6) rfl rfl ?_
     refine c0_ rfl rfl .move rfl rfl ?_
     rcases Bool.eq_false_or_eq_true (!y_2) with h8 | h8
     ·replace hg := cond_t h8 hg
      iterate 4 refine ch_skip (gdv_f rfl rfl h8) rfl ?_
      refine c0_ rfl rfl (r_pickT h8) rfl rfl ?_
      refine c0_ rfl rfl .move rfl rfl ?_
      iterate 3 refine ch_skip (gdv_f rfl rfl rfl) rfl ?_
      refine c0_ rfl rfl (r_pickT rfl) rfl rfl ?_
      refine c0_ rfl rfl .move rfl rfl ?_
      iterate 3 refine ch_skip (gdv_f rfl rfl rfl) rfl ?_
      refine c0_ rfl rfl (r_pickT rfl) rfl rfl ?_
      refine ch_n fun hU304_9 => ?_
      exact ⟨true, hg, Sub.lists [(0, 0)] rfl rfl ⟨⟨_, rfl, .ptr rfl⟩, ⟨_, rfl, .val _⟩, trivial⟩ ⟨.inl ⟨0, _, rfl, rfl, ⟨rfl, .cons (.val _) (.cons (.val _) (.cons (.val _) (.cons (.val _) (.cons (.val _) (.cons (.val _) (.cons (.val _) (.cons (.val _) (.cons (.val _) (.cons (.val _) (.cons (.val _) (.cons (.val _) (.cons (.sl _ _) (.cons (.val _) (.cons (.val _) .nil))))))))))))))⟩⟩, trivial⟩⟩
     ·replace hg := cond_f h8 hg
      refine c0_ (gdv_t rfl rfl h8) rfl (.fieldP fd45_3 ty40 (by decide)) rfl rfl ?_
      refine ch_s (rd := [0]) (gdv_t rfl rfl h8) rfl (.loadBA ty40 (Nat.le_of_ble_eq_true rfl)) rfl rfl ?_
      obtain ⟨y_3, hy_3, hg⟩ := bind_some hg
      refine ch_callP (rd := []) (ps := []) (gs := []) false (gdv_t rfl rfl h8) (w_ref03_Signature c.Key _ hy_3) rfl rfl (.cons (.agg (.cons .val (.cons .val .nil))) .nil) rfl rfl (by intro h; cases h) rfl rfl rfl rfl ?_
      refine c0_ (gdv_t rfl rfl h8) rfl r_not rfl rfl ?_
      refine c0_ rfl rfl (r_pickF h8) rfl rfl ?_
      refine c0_ rfl rfl .move rfl rfl ?_
      rcases Bool.eq_false_or_eq_true (!y_3) with h10 | h10
      ·replace hg := cond_t h10 hg
       iterate 3 refine ch_skip (gdv_f rfl rfl h10) rfl ?_
       refine c0_ rfl rfl (r_pickT h10) rfl rfl ?_
       refine c0_ rfl rfl .move rfl rfl ?_
       iterate 3 refine ch_skip (gdv_f rfl rfl rfl) rfl ?_
       refine c0_ rfl rfl (r_pickT rfl) rfl rfl ?_
       refine ch_n fun hU304_11 => ?_
       exact ⟨true, hg, Sub.lists [(0, 0)] rfl rfl ⟨⟨_, rfl, .ptr rfl⟩, ⟨_, rfl, .val _⟩, trivial⟩ ⟨.inl ⟨0, _, rfl, rfl, ⟨rfl, .cons (.val _) (.cons (.val _) (.cons (.val _) (.cons (.val _) (.cons (.val _) (.cons (.val _) (.cons (.val _) (.cons (.val _) (.cons (.val _) (.cons (.val _) (.cons (.val _) (.cons (.val _) (.cons (.sl _ _) (.cons (.val _) (.cons (.val _) .nil))))))))))))))⟩⟩, trivial⟩⟩
      ·replace hg := cond_f h10 hg
       refine c0_ (gdv_t rfl rfl h10) rfl (.fieldP fd45_4 ty3 (by decide)) rfl rfl ?_
       refine ch_s (rd := [0]) (gdv_t rfl rfl h10) rfl (.loadB1 ty3 rfl) rfl rfl ?_
       refine c0_ (gdv_t rfl rfl h10) rfl r_lss rfl rfl ?_
       refine c0_ rfl rfl (r_pickF h10) rfl rfl ?_
       refine c0_ rfl rfl .move rfl rfl ?_
       rcases Bool.eq_false_or_eq_true (decide (c.KeyId < 0)) with h12 | h12
       ·replace hg := cond_t h12 hg
        iterate 3 refine ch_skip (gdv_f rfl rfl h12) rfl ?_
        refine c0_ rfl rfl (r_pickT h12) rfl rfl ?_
        refine ch_n fun hU304_13 => ?_
        exact ⟨true, hg, Sub.lists [(0, 0)] rfl rfl ⟨⟨_, rfl, .ptr rfl⟩, ⟨_, rfl, .val _⟩, trivial⟩ ⟨.inl ⟨0, _, rfl, rfl, ⟨rfl, .cons (.val _) (.cons (.val _) (.cons (.val _) (.cons (.val _) (.cons (.val _) (.cons (.val _) (.cons (.val _) (.cons (.val _) (.cons (.val _) (.cons (.val _) (.cons (.val _) (.cons (.val _) (.cons (.sl _ _) (.cons (.val _) (.cons (.val _) .nil))))))))))))))⟩⟩, trivial⟩⟩
       ·replace hg := cond_f h12 hg
        refine c0_ (gdv_t rfl rfl h12) rfl (.fieldP fd45_4 ty3 (by decide)) rfl rfl ?_
        refine ch_s (rd := [0]) (gdv_t rfl rfl h12) rfl (.loadB1 ty3 rfl) rfl rfl ?_
        refine c0_ (gdv_t rfl rfl h12) rfl r_gtr rfl rfl ?_
        refine c0_ rfl rfl (r_pickF h12) rfl rfl ?_
        refine ch_n fun hU304_14 => ?_
        exact ⟨decide (2147483648 < c.KeyId), hg, Sub.lists [(0, 0)] rfl rfl ⟨⟨_, rfl, .ptr rfl⟩, ⟨_, rfl, .val _⟩, trivial⟩ ⟨.inl ⟨0, _, rfl, rfl, ⟨rfl, .cons (.val _) (.cons (.val _) (.cons (.val _) (.cons (.val _) (.cons (.val _) (.cons (.val _) (.cons (.val _) (.cons (.val _) (.cons (.val _) (.cons (.val _) (.cons (.val _) (.cons (.val _) (.cons (.sl _ _) (.cons (.val _) (.cons (.val _) .nil))))))))))))))⟩⟩, trivial⟩⟩
 ·rintro x39_1 hg
  replace hg : g_ref03_Check.j1 c x39_1 = some r := hg
  show awp _ _ _ _ (mk _ _ _)
  unfold g_ref03_Check.j1 at hg
  refine awp_cond rfl (fun h15 => ?_) (fun h15 => ?_)
  ·replace hg := cond_t h15 hg
   refine sr_ 1 9 mk_U ?_
   refine c0_ rfl rfl .assign rfl rfl ?_
   refine ch_n fun hU9_16 => ?_
   refine aw_r ?_
   obtain rfl := Option.some.inj hg
   exact ⟨[_], _, [], [], .cons (.tmp rfl) .nil, ⟨rfl, rfl⟩, .val _, trivial, rfl, rfl, rfl, rfl⟩
  ·replace hg := cond_f h15 hg
   refine aw_s ?_
   refine awp_seq ?_
   refine awp_cut (ι := Bool) (fun (x67_2 : Bool) => mk [(1, .ptr 0 0), (67, .val (.bool x67_2))] [(0, .box [.val (.int .i64 c.Serial), .val (.string c.Issuer), .val (.string c.Subject), .val (.int .i64 c.Key.Alg), .val (.int .i64 c.Key.Bits), .val (.int .i64 c.KeyId), .val (.int .i64 c.Hash.Alg), .val (.int .i64 c.Hash.Bits), .val (.int .i64 c.From), .val (.int .i64 c.To), .val (.bool c.Authority), .val (.int .i64 c.Path), .sl 1 (encL eS c.Names), .val (.int .i64 c.Seal.Key), .val (.int .i64 c.Seal.Sum)] 45)] 1) (fun (x67_2 : Bool) => g_ref03_Check.j2 c x67_2 = some r) ?_ ?_
   ·refine awp_region (sys _ _ []) 1 225 mk_U rfl rfl ?_
    refine c0_ rfl rfl (.fieldP fd45_5 ty40 (by decide)) rfl rfl ?_
    refine ch_s (rd := [0]) rfl rfl (.loadBA ty40 (Nat.le_of_ble_eq_true rfl)) rfl rfl ?_
    obtain ⟨y_4, hy_4, hg⟩ := bind_some hg
    refine ch_callP (rd := []) (ps := []) (gs := []) false rfl (w_ref02_Valid c.Hash _ hy_4) rfl rfl (.cons (.agg (.cons .val (.cons .val .nil))) .nil) rfl rfl (by intro h; cases h) rfl rfl rfl rfl ?_
    refine c0_ rfl rfl r_not rfl rfl ?_
    refine c0_ rfl rfl .move rfl rfl ?_
    rcases Bool.eq_false_or_eq_true (!y_4) with h17 | h17
    ·replace hg := cond_t h17 hg
     iterate 5 refine ch_skip (gdv_f rfl rfl h17) rfl ?_
     refine c0_ rfl rfl (r_pickT h17) rfl rfl ?_
     refine c0_ rfl rfl .move rfl rfl ?_
     iterate 3 refine ch_skip (gdv_f rfl rfl rfl) rfl ?_
     refine c0_ rfl rfl (r_pickT rfl) rfl rfl ?_
     refine c0_ rfl rfl .move rfl rfl ?_
     iterate 5 refine ch_skip (gdv_f rfl rfl rfl) rfl ?_
     refine c0_ rfl rfl (r_pickT rfl) rfl rfl ?_
     refine c0_ rfl rfl .move rfl rfl ?_
     iterate 3 refine ch_skip (gdv_f rfl rfl rfl) rfl ?_
     refine c0_ rfl rfl (r_pickT rfl) rfl rfl ?_
     refine ch_n fun hU225_18 => ?_
     exact ⟨true, hg, Sub.lists [(0, 0)] rfl rfl ⟨⟨_, rfl, .ptr rfl⟩, ⟨_, rfl, .val _⟩, trivial⟩ ⟨.inl ⟨0, _, rfl, rfl, ⟨rfl, .cons (.val _) (.cons (.val _) (.cons (.val _) (.cons (.val _) (.cons (.val _) (.cons (.val _) (.cons (.val _) (.cons (.val _) (.cons (.val _) (.cons (.val _) (.cons (.val _) (.cons (.val _) (.cons (.sl _ _) (.cons (.val _) (.cons (.val _) .nil))))))))))))))⟩⟩, trivial⟩⟩
    ·replace hg := cond_f h17 hg
     refine c0_ (gdv_t rfl rfl h17) rfl (.fieldP fd45_5 ty40 (by decide)) rfl rfl ?_
     refine c0_ (gdv_t rfl rfl h17) rfl (.fieldP fd40_0 ty3 (by decide)) rfl rfl ?_
     refine ch_s (rd := [0]) (gdv_t rfl rfl h17) rfl (.loadB1 ty3 rfl) rfl rfl ?_
     obtain ⟨y_5, hy_5, hg⟩ := bind_some hg
     refine ch_callP (rd := []) (ps := []) (gs := []) false (gdv_t rfl rfl h17) (w_ref02_Kind c.Hash.Alg _ hy_5) rfl rfl (.cons .val .nil) rfl rfl (by intro h; cases h) rfl rfl rfl rfl ?_
     refine c0_ (gdv_t rfl rfl h17) rfl r_neq rfl rfl ?_
     refine c0_ rfl rfl (r_pickF h17) rfl rfl ?_
     refine c0_ rfl rfl .move rfl rfl ?_
     rcases Bool.eq_false_or_eq_true (!decide (y_5 = 1)) with h19 | h19
     ·replace hg := cond_t h19 hg
      iterate 3 refine ch_skip (gdv_f rfl rfl h19) rfl ?_
      refine c0_ rfl rfl (r_pickT h19) rfl rfl ?_
      refine c0_ rfl rfl .move rfl rfl ?_
      iterate 5 refine ch_skip (gdv_f rfl rfl rfl) rfl ?_
      refine c0_ rfl rfl (r_pickT rfl) rfl rfl ?_
      refine c0_ rfl rfl .move rfl rfl ?_
      iterate 3 refine ch_skip (gdv_f rfl rfl rfl) rfl ?_
      refine c0_ rfl rfl (r_pickT rfl) rfl rfl ?_
      refine ch_n fun hU225_20 => ?_
      exact ⟨true, hg, Sub.lists [(0, 0)] rfl rfl ⟨⟨_, rfl, .ptr rfl⟩, ⟨_, rfl, .val _⟩, trivial⟩ ⟨.inl ⟨0, _, rfl, rfl, ⟨rfl, .cons (.val _) (.cons (.val _) (.cons (.val _) (.cons (.val _) (.cons (.val _) (.cons (.val _) (.cons (.val _) (.cons (.val _) (.cons (.val _) (.cons (.val _) (.cons (.val _) (.cons (.val _) (.cons (.sl _ _) (.cons (.val _) (.cons (.val _) .nil))))))))))))))⟩⟩, trivial⟩⟩
     ·replace hg := cond_f h19 hg
      refine c0_ (gdv_t rfl rfl h19) rfl (.fieldP fd45_6 ty3 (by decide)) rfl rfl ?_
      refine ch_s (rd := [0]) (gdv_t rfl rfl h19) rfl (.loadB1 ty3 rfl) rfl rfl ?_
      refine c0_ (gdv_t rfl rfl h19) rfl r_lss rfl rfl ?_
      refine c0_ rfl rfl (r_pickF h19) rfl rfl ?_
      refine c0_ rfl rfl .move rfl rfl ?_
      rcases Bool.eq_false_or_eq_true (decide (c.From < 0)) with h21 | h21
      ·replace hg := cond_t h21 hg
       iterate 5 refine ch_skip (gdv_f rfl rfl h21) rfl ?_
       refine c0_ rfl rfl (r_pickT h21) rfl rfl ?_
       refine c0_ rfl rfl .move rfl rfl ?_
       iterate 3 refine ch_skip (gdv_f rfl rfl rfl) rfl ?_
       refine c0_ rfl rfl (r_pickT rfl) rfl rfl ?_
       refine ch_n fun hU225_22 => ?_
       exact ⟨true, hg, Sub.lists [(0, 0)] rfl rfl ⟨⟨_, rfl, .ptr rfl⟩, ⟨_, rfl, .val _⟩, trivial⟩ ⟨.inl ⟨0, _, rfl, rfl, ⟨rfl, .cons (.val _) (.cons (.val _) (.cons (.val _) (.cons (.val _) (.cons (.val _) (.cons (.val _) (.cons (.val _) (.cons (.val _) (.cons (.val _) (.cons (.val _) (.cons (.val _) (.cons (.val _) (.cons (.sl _ _) (.cons (.val _) (.cons (.val _) .nil))))))))))))))⟩⟩, trivial⟩⟩
      ·replace hg := cond_f h21 hg
       refine c0_ (gdv_t rfl rfl h21) rfl (.fieldP fd45_6 ty3 (by decide)) rfl rfl ?_
       refine ch_s (rd := [0]) (gdv_t rfl rfl h21) rfl (.loadB1 ty3 rfl) rfl rfl ?_
       refine c0_ (gdv_t rfl rfl h21) rfl (.fieldP fd45_7 ty3 (by decide)) rfl rfl ?_
       refine ch_s (rd := [0]) (gdv_t rfl rfl h21) rfl (.loadB1 ty3 rfl) rfl rfl ?_
       refine c0_ (gdv_t rfl rfl h21) rfl r_gtr rfl rfl ?_
       refine c0_ rfl rfl (r_pickF h21) rfl rfl ?_
       refine c0_ rfl rfl .move rfl rfl ?_
       rcases Bool.eq_false_or_eq_true (decide (c.To < c.From)) with h23 | h23
       ·replace hg := cond_t h23 hg
        iterate 3 refine ch_skip (gdv_f rfl rfl h23) rfl ?_
        refine c0_ rfl rfl (r_pickT h23) rfl rfl ?_
        refine ch_n fun hU225_24 => ?_
        exact ⟨true, hg, Sub.lists [(0, 0)] rfl rfl ⟨⟨_, rfl, .ptr rfl⟩, ⟨_, rfl, .val _⟩, trivial⟩ ⟨.inl ⟨0, _, rfl, rfl, ⟨rfl, .cons (.val _) (.cons (.val _) (.cons (.val _) (.cons (.val _) (.cons (.val _) (.cons (.val _) (.cons (.val _) (.cons (.val _) (.cons (.val _) (.cons (.val _) (.cons (.val _) (.cons (.val _) (.cons (.sl _ _) (.cons (.val _) (.cons (.val _) .nil))))))))))))))⟩⟩, trivial⟩⟩
       ·replace hg := cond_f h23 hg
        refine c0_ (gdv_t rfl rfl h23) rfl (.fieldP fd45_7 ty3 (by decide)) rfl rfl ?_
        refine ch_s (rd := [0]) (gdv_t rfl rfl h23) rfl (.loadB1 ty3 rfl) rfl rfl ?_
        refine c0_ (gdv_t rfl rfl h23) rfl r_gtr rfl rfl ?_
        refine c0_ rfl rfl (r_pickF h23) rfl rfl ?_
        refine ch_n fun hU225_25 => ?_
        exact ⟨decide (40000 < c.To), hg, Sub.lists [(0, 0)] rfl rfl ⟨⟨_, rfl, .ptr rfl⟩, ⟨_, rfl, .val _⟩, trivial⟩ ⟨.inl ⟨0, _, rfl, rfl, ⟨rfl, .cons (.val _) (.cons (.val _) (.cons (.val _) (.cons (.val _) (.cons (.val _) (.cons (.val _) (.cons (.val _) (.cons (.val _) (.cons (.val _) (.cons (.val _) (.cons (.val _) (.cons (.val _) (.cons (.sl _ _) (.cons (.val _) (.cons (.val _) .nil))))))))))))))⟩⟩, trivial⟩⟩
   ·rintro x67_2 hg
    replace hg : g_ref03_Check.j2 c x67_2 = some r := hg
    show awp _ _ _ _ (mk _ _ _)
    unfold g_ref03_Check.j2 at hg
    refine awp_cond rfl (fun h26 => ?_) (fun h26 => ?_)
    ·replace hg := cond_t h26 hg
     refine sr_ 1 9 mk_U ?_
     refine c0_ rfl rfl .assign rfl rfl ?_
     refine ch_n fun hU9_27 => ?_
     refine aw_r ?_
     obtain rfl := Option.some.inj hg
     exact ⟨[_], _, [], [], .cons (.tmp rfl) .nil, ⟨rfl, rfl⟩, .val _, trivial, rfl, rfl, rfl, rfl⟩
    ·replace hg := cond_f h26 hg
     refine aw_s ?_
     refine awp_seq ?_
     refine awp_cut (ι := Bool) (fun (x91_3 : Bool) => mk [(1, .ptr 0 0), (91, .val (.bool x91_3))] [(0, .box [.val (.int .i64 c.Serial), .val (.string c.Issuer), .val (.string c.Subject), .val (.int .i64 c.Key.Alg), .val (.int .i64 c.Key.Bits), .val (.int .i64 c.KeyId), .val (.int .i64 c.Hash.Alg), .val (.int .i64 c.Hash.Bits), .val (.int .i64 c.From), .val (.int .i64 c.To), .val (.bool c.Authority), .val (.int .i64 c.Path), .sl 1 (encL eS c.Names), .val (.int .i64 c.Seal.Key), .val (.int .i64 c.Seal.Sum)] 45)] 1) (fun (x91_3 : Bool) => g_ref03_Check.j3 c x91_3 = some r) ?_ ?_
     ·refine awp_region (sys _ _ []) 1 193 mk_U rfl rfl ?_
      refine c0_ rfl rfl (.fieldP fd45_9 ty3 (by decide)) rfl rfl ?_
      refine ch_s (rd := [0]) rfl rfl (.loadB1 ty3 rfl) rfl rfl ?_
      refine c0_ rfl rfl r_lss rfl rfl ?_
      refine c0_ rfl rfl .move rfl rfl ?_
      rcases Bool.eq_false_or_eq_true (decide (c.Path < 0)) with h28 | h28
      ·replace hg := cond_t h28 hg
       iterate 3 refine ch_skip (gdv_f rfl rfl h28) rfl ?_
       refine c0_ rfl rfl (r_pickT h28) rfl rfl ?_
       refine c0_ rfl rfl .move rfl rfl ?_
       iterate 4 refine ch_skip (gdv_f rfl rfl rfl) rfl ?_
       iterate 3 refine ch_skip rfl rfl ?_
       refine ch_skip (gdv_f rfl rfl rfl) rfl ?_
       refine c0_ rfl rfl (r_pickT rfl) rfl rfl ?_
       refine c0_ rfl rfl .move rfl rfl ?_
       iterate 4 refine ch_skip (gdv_f rfl rfl rfl) rfl ?_
       refine c0_ rfl rfl (r_pickT rfl) rfl rfl ?_
       refine ch_n fun hU193_29 => ?_
       exact ⟨true, hg, Sub.lists [(0, 0)] rfl rfl ⟨⟨_, rfl, .ptr rfl⟩, ⟨_, rfl, .val _⟩, trivial⟩ ⟨.inl ⟨0, _, rfl, rfl, ⟨rfl, .cons (.val _) (.cons (.val _) (.cons (.val _) (.cons (.val _) (.cons (.val _) (.cons (.val _) (.cons (.val _) (.cons (.val _) (.cons (.val _) (.cons (.val _) (.cons (.val _) (.cons (.val _) (.cons (.sl _ _) (.cons (.val _) (.cons (.val _) .nil))))))))))))))⟩⟩, trivial⟩⟩
      ·replace hg := cond_f h28 hg
       refine c0_ (gdv_t rfl rfl h28) rfl (.fieldP fd45_9 ty3 (by decide)) rfl rfl ?_
       refine ch_s (rd := [0]) (gdv_t rfl rfl h28) rfl (.loadB1 ty3 rfl) rfl rfl ?_
       refine c0_ (gdv_t rfl rfl h28) rfl r_gtr rfl rfl ?_
       refine c0_ rfl rfl (r_pickF h28) rfl rfl ?_
       refine c0_ rfl rfl .move rfl rfl ?_
       rcases Bool.eq_false_or_eq_true (decide (8 < c.Path)) with h30 | h30
       ·replace hg := cond_t h30 hg
        iterate 4 refine ch_skip (gdv_f rfl rfl h30) rfl ?_
        iterate 3 refine ch_skip rfl rfl ?_
        refine ch_skip (gdv_f rfl rfl h30) rfl ?_
        refine c0_ rfl rfl (r_pickT h30) rfl rfl ?_
        refine c0_ rfl rfl .move rfl rfl ?_
        iterate 4 refine ch_skip (gdv_f rfl rfl rfl) rfl ?_
        refine c0_ rfl rfl (r_pickT rfl) rfl rfl ?_
        refine ch_n fun hU193_31 => ?_
        exact ⟨true, hg, Sub.lists [(0, 0)] rfl rfl ⟨⟨_, rfl, .ptr rfl⟩, ⟨_, rfl, .val _⟩, trivial⟩ ⟨.inl ⟨0, _, rfl, rfl, ⟨rfl, .cons (.val _) (.cons (.val _) (.cons (.val _) (.cons (.val _) (.cons (.val _) (.cons (.val _) (.cons (.val _) (.cons (.val _) (.cons (.val _) (.cons (.val _) (.cons (.val _) (.cons (.val _) (.cons (.sl _ _) (.cons (.val _) (.cons (.val _) .nil))))))))))))))⟩⟩, trivial⟩⟩
       ·replace hg := cond_f h30 hg
        refine c0_ (gdv_t rfl rfl h30) rfl (.fieldP fd45_8 ty4 (by decide)) rfl rfl ?_
        refine ch_s (rd := [0]) (gdv_t rfl rfl h30) rfl (.loadB1 ty4 rfl) rfl rfl ?_
        refine c0_ (gdv_t rfl rfl h30) rfl r_not rfl rfl ?_
        refine c0_ (gdv_t rfl rfl h30) rfl .move rfl rfl ?_
        rcases Bool.eq_false_or_eq_true (!c.Authority) with h32 | h32
        ·replace hg := cond_t h32 hg
         refine c0_ (gdv_t rfl rfl h32) rfl (.fieldP fd45_9 ty3 (by decide)) rfl rfl ?_
         refine ch_s (rd := [0]) (gdv_t rfl rfl h32) rfl (.loadB1 ty3 rfl) rfl rfl ?_
         refine c0_ (gdv_t rfl rfl h32) rfl r_neq rfl rfl ?_
         refine c0_ (gdv_t rfl rfl h30) rfl (r_pickT h32) rfl rfl ?_
         refine c0_ rfl rfl (r_pickF h30) rfl rfl ?_
         refine c0_ rfl rfl .move rfl rfl ?_
         rcases Bool.eq_false_or_eq_true (!decide (c.Path = 0)) with h33 | h33
         ·replace hg := cond_t h33 hg
          iterate 4 refine ch_skip (gdv_f rfl rfl h33) rfl ?_
          refine c0_ rfl rfl (r_pickT h33) rfl rfl ?_
          refine ch_n fun hU193_34 => ?_
          exact ⟨true, hg, Sub.lists [(0, 0)] rfl rfl ⟨⟨_, rfl, .ptr rfl⟩, ⟨_, rfl, .val _⟩, trivial⟩ ⟨.inl ⟨0, _, rfl, rfl, ⟨rfl, .cons (.val _) (.cons (.val _) (.cons (.val _) (.cons (.val _) (.cons (.val _) (.cons (.val _) (.cons (.val _) (.cons (.val _) (.cons (.val _) (.cons (.val _) (.cons (.val _) (.cons (.val _) (.cons (.sl _ _) (.cons (.val _) (.cons (.val _) .nil))))))))))))))⟩⟩, trivial⟩⟩
         ·replace hg := cond_f h33 hg
          refine c0_ (gdv_t rfl rfl h33) rfl (.fieldP fd45_10 ty41 (by decide)) rfl rfl ?_
          refine ch_s (rd := [0]) (gdv_t rfl rfl h33) rfl (.loadB1 ty41 rfl) rfl rfl ?_
          refine c0_ (gdv_t rfl rfl h33) rfl (r_lenS sl41 eS_len) rfl rfl ?_
          refine c0_ (gdv_t rfl rfl h33) rfl r_gtr rfl rfl ?_
          refine c0_ rfl rfl (r_pickF h33) rfl rfl ?_
          refine ch_n fun hU193_35 => ?_
          exact ⟨decide (8 < (c.Names.length : Int)), hg, Sub.lists [(0, 0)] rfl rfl ⟨⟨_, rfl, .ptr rfl⟩, ⟨_, rfl, .val _⟩, trivial⟩ ⟨.inl ⟨0, _, rfl, rfl, ⟨rfl, .cons (.val _) (.cons (.val _) (.cons (.val _) (.cons (.val _) (.cons (.val _) (.cons (.val _) (.cons (.val _) (.cons (.val _) (.cons (.val _) (.cons (.val _) (.cons (.val _) (.cons (.val _) (.cons (.sl _ _) (.cons (.val _) (.cons (.val _) .nil))))))))))))))⟩⟩, trivial⟩⟩
        ·replace hg := cond_f h32 hg
         iterate 3 refine ch_skip (gdv_f rfl rfl h32) rfl ?_
         refine c0_ (gdv_t rfl rfl h30) rfl (r_pickF h32) rfl rfl ?_
         refine c0_ rfl rfl (r_pickF h30) rfl rfl ?_
         refine c0_ rfl rfl .move rfl rfl ?_
         refine c0_ (gdv_t rfl rfl rfl) rfl (.fieldP fd45_10 ty41 (by decide)) rfl rfl ?_
         refine ch_s (rd := [0]) (gdv_t rfl rfl rfl) rfl (.loadB1 ty41 rfl) rfl rfl ?_
         refine c0_ (gdv_t rfl rfl rfl) rfl (r_lenS sl41 eS_len) rfl rfl ?_
         refine c0_ (gdv_t rfl rfl rfl) rfl r_gtr rfl rfl ?_
         refine c0_ rfl rfl (r_pickF rfl) rfl rfl ?_
         refine ch_n fun hU193_36 => ?_
         exact ⟨decide (8 < (c.Names.length : Int)), hg, Sub.lists [(0, 0)] rfl rfl ⟨⟨_, rfl, .ptr rfl⟩, ⟨_, rfl, .val _⟩, trivial⟩ ⟨.inl ⟨0, _, rfl, rfl, ⟨rfl, .cons (.val _) (.cons (.val _) (.cons (.val _) (.cons (.val _) (.cons (.val _) (.cons (.val _) (.cons (.val _) (.cons (.val _) (.cons (.val _) (.cons (.val _) (.cons (.val _) (.cons (.val _) (.cons (.sl _ _) (.cons (.val _) (.cons (.val _) .nil))))))))))))))⟩⟩, trivial⟩⟩
     ·rintro x91_3 hg
      replace hg : g_ref03_Check.j3 c x91_3 = some r := hg
      show awp _ _ _ _ (mk _ _ _)
      unfold g_ref03_Check.j3 at hg
      refine awp_cond rfl (fun h37 => ?_) (fun h37 => ?_)
      ·replace hg := cond_t h37 hg
       refine sr_ 1 9 mk_U ?_
       refine c0_ rfl rfl .assign rfl rfl ?_
       refine ch_n fun hU9_38 => ?_
       refine aw_r ?_
       obtain rfl := Option.some.inj hg
       exact ⟨[_], _, [], [], .cons (.tmp rfl) .nil, ⟨rfl, rfl⟩, .val _, trivial, rfl, rfl, rfl, rfl⟩
      ·replace hg := cond_f h37 hg
       refine aw_s ?_
       refine awp_seq ?_
       refine sr_ 1 9 mk_U ?_
       refine c0_ rfl rfl .assign rfl rfl ?_
       refine ch_n fun hU9_39 => ?_
       refine awp_block ?_
       obtain ⟨n4, hg⟩ := loop_some hg
       refine awp_loop (ι := (Int) × Nat) (fun ((i_4, _) : (Int) × Nat) => mk [(1, .ptr 0 0), (3, .val (.int .i64 i_4))] [(0, .box [.val (.int .i64 c.Serial), .val (.string c.Issuer), .val (.string c.Subject), .val (.int .i64 c.Key.Alg), .val (.int .i64 c.Key.Bits), .val (.int .i64 c.KeyId), .val (.int .i64 c.Hash.Alg), .val (.int .i64 c.Hash.Bits), .val (.int .i64 c.From), .val (.int .i64 c.To), .val (.bool c.Authority), .val (.int .i64 c.Path), .sl 1 (encL eS c.Names), .val (.int .i64 c.Seal.Key), .val (.int .i64 c.Seal.Sum)] 45)] 1) (fun ((i_4, nq') : (Int) × Nat) => iter (fun q' => g_ref03_Check.l4 c q') nq' i_4 = some r) (fun q => q.2) (0, n4) (Sub.lists [(0, 0)] rfl rfl ⟨⟨_, rfl, .ptr rfl⟩, ⟨_, rfl, .val _⟩, trivial⟩ ⟨.inl ⟨0, _, rfl, rfl, ⟨rfl, .cons (.val _) (.cons (.val _) (.cons (.val _) (.cons (.val _) (.cons (.val _) (.cons (.val _) (.cons (.val _) (.cons (.val _) (.cons (.val _) (.cons (.val _) (.cons (.val _) (.cons (.val _) (.cons (.sl _ _) (.cons (.val _) (.cons (.val _) .nil))))))))))))))⟩⟩, trivial⟩) hg ?_
       rintro ⟨i_4, n4⟩ hg
       obtain ⟨m4, o4, rfl, hg, hn4⟩ := iter_some (show iter (fun q' => g_ref03_Check.l4 c q') n4 i_4 = some r from hg)
       replace hg : g_ref03_Check.l4 c i_4 = some o4 := hg
       show awp _ _ _ _ (mk _ _ _)
       unfold g_ref03_Check.l4 at hg
       refine awp_seq ?_
       refine sr_ 1 41 mk_U ?_
       refine c0_ rfl rfl .move rfl rfl ?_
       refine c0_ rfl rfl (.fieldP fd45_10 ty41 (by decide)) rfl rfl ?_
       refine ch_s (rd := [0]) rfl rfl (.loadB1 ty41 rfl) rfl rfl ?_
       refine c0_ rfl rfl (r_lenS sl41 eS_len) rfl rfl ?_
       refine c0_ rfl rfl r_lss rfl rfl ?_
       refine ch_n fun hU41_40 => ?_
       refine awp_cond rfl (fun h41 => ?_) (fun h41 => ?_)
       ·replace hg := cond_t h41 hg
        refine aw_s ?_
        refine awp_seq ?_
        refine awp_block ?_
        refine awp_cut (ι := Bool) (fun (x123_5 : Bool) => mk [(1, .ptr 0 0), (3, .val (.int .i64 i_4)), (123, .val (.bool x123_5))] [(0, .box [.val (.int .i64 c.Serial), .val (.string c.Issuer), .val (.string c.Subject), .val (.int .i64 c.Key.Alg), .val (.int .i64 c.Key.Bits), .val (.int .i64 c.KeyId), .val (.int .i64 c.Hash.Alg), .val (.int .i64 c.Hash.Bits), .val (.int .i64 c.From), .val (.int .i64 c.To), .val (.bool c.Authority), .val (.int .i64 c.Path), .sl 1 (encL eS c.Names), .val (.int .i64 c.Seal.Key), .val (.int .i64 c.Seal.Sum)] 45)] 1) (fun (x123_5 : Bool) => g_ref03_Check.j5 i_4 x123_5 = some o4) ?_ ?_
        ·refine awp_draw (sys _ _ []) (by kernel_rfl) [0, 1, 0, 7, 15, 31, 63, 127, 255, 511, 1023, 2047, 4095, 2047, 10239, 32767, 65535, 2047, 133119, 2047, 919551, 1968127, 4194303, 8388607, 16777215] 41 241 hU41_40 rfl rfl (by kernel_rfl) ?_
         refine c0_ rfl rfl (.fieldP fd45_10 ty41 (by decide)) rfl rfl ?_
         refine ch_s (rd := [0]) rfl rfl (.loadB1 ty41 rfl) rfl rfl ?_
         refine c0_ rfl rfl .move rfl rfl ?_
         obtain ⟨e, he, hg⟩ := bind_some hg
         refine c0_ rfl rfl (r_idxS sl41 eS_len (getI_ix he) (getI_at he)) rfl rfl ?_
         refine c0_ rfl rfl (r_loadE1 ty9 (enc_cell eS_len (getI_at he) (o := 0) (c := .str e) rfl rfl)) rfl rfl ?_
         obtain ⟨y_6, hy_6, hg⟩ := bind_some hg
         refine ch_callP (rd := []) (ps := []) (gs := []) false rfl (w_ref03_Name e _ hy_6) rfl rfl (.cons .val .nil) rfl rfl (by intro h; cases h) rfl rfl rfl rfl ?_
         refine c0_ rfl rfl r_not rfl rfl ?_
         refine c0_ rfl rfl .move rfl rfl ?_
         rcases Bool.eq_false_or_eq_true (!y_6) with h42 | h42
         ·replace hg := cond_t h42 hg
          iterate 3 refine ch_skip (gdv_f rfl rfl h42) rfl ?_
          iterate 12 refine ch_skip rfl rfl ?_
          refine ch_skip (gdv_f rfl rfl h42) rfl ?_
          refine c0_ rfl rfl (r_pickT h42) rfl rfl ?_
          refine ch_n fun hU241_43 => ?_
          exact ⟨true, hg, Sub.lists [(0, 0)] rfl rfl ⟨⟨_, rfl, .ptr rfl⟩, ⟨_, rfl, .val _⟩, ⟨_, rfl, .val _⟩, trivial⟩ ⟨.inl ⟨0, _, rfl, rfl, ⟨rfl, .cons (.val _) (.cons (.val _) (.cons (.val _) (.cons (.val _) (.cons (.val _) (.cons (.val _) (.cons (.val _) (.cons (.val _) (.cons (.val _) (.cons (.val _) (.cons (.val _) (.cons (.val _) (.cons (.sl _ _) (.cons (.val _) (.cons (.val _) .nil))))))))))))))⟩⟩, trivial⟩⟩
         ·replace hg := cond_f h42 hg
          refine c0_ (gdv_t rfl rfl h42) rfl .move rfl rfl ?_
          refine c0_ (gdv_t rfl rfl h42) rfl r_gtr rfl rfl ?_
          refine c0_ (gdv_t rfl rfl h42) rfl .move rfl rfl ?_
          rcases Bool.eq_false_or_eq_true (decide (0 < i_4)) with h44 | h44
          ·replace hg := cond_t h44 hg
           refine c0_ (gdv_t rfl rfl h44) rfl (.fieldP fd45_10 ty41 (by decide)) rfl rfl ?_
           refine ch_s (rd := [0]) (gdv_t rfl rfl h44) rfl (.loadB1 ty41 rfl) rfl rfl ?_
           refine c0_ (gdv_t rfl rfl h44) rfl .move rfl rfl ?_
           refine c0_ (gdv_t rfl rfl h44) rfl r_sub rfl rfl ?_
           obtain ⟨e_2, he_2, hg⟩ := bind_some hg
           refine c0_ (gdv_t rfl rfl h44) rfl (r_idxS sl41 eS_len (getI_ix he_2) (getI_at he_2)) rfl rfl ?_
           refine c0_ (gdv_t rfl rfl h44) rfl (r_loadE1 ty9 (enc_cell eS_len (getI_at he_2) (o := 0) (c := .str e_2) rfl rfl)) rfl rfl ?_
           refine c0_ (gdv_t rfl rfl h44) rfl (.fieldP fd45_10 ty41 (by decide)) rfl rfl ?_
           refine ch_s (rd := [0]) (gdv_t rfl rfl h44) rfl (.loadB1 ty41 rfl) rfl rfl ?_
           refine c0_ (gdv_t rfl rfl h44) rfl .move rfl rfl ?_
           refine c0_ (gdv_t rfl rfl h44) rfl (r_idxS sl41 eS_len (getI_ix he) (getI_at he)) rfl rfl ?_
           refine c0_ (gdv_t rfl rfl h44) rfl (r_loadE1 ty9 (enc_cell eS_len (getI_at he) (o := 0) (c := .str e) rfl rfl)) rfl rfl ?_
           refine c0_ (gdv_t rfl rfl h44) rfl r_sgeq rfl rfl ?_
           refine c0_ (gdv_t rfl rfl h42) rfl (r_pickT h44) rfl rfl ?_
           refine c0_ rfl rfl (r_pickF h42) rfl rfl ?_
           refine ch_n fun hU241_45 => ?_
           exact ⟨!ltT (toB e_2) (toB e), hg, Sub.lists [(0, 0)] rfl rfl ⟨⟨_, rfl, .ptr rfl⟩, ⟨_, rfl, .val _⟩, ⟨_, rfl, .val _⟩, trivial⟩ ⟨.inl ⟨0, _, rfl, rfl, ⟨rfl, .cons (.val _) (.cons (.val _) (.cons (.val _) (.cons (.val _) (.cons (.val _) (.cons (.val _) (.cons (.val _) (.cons (.val _) (.cons (.val _) (.cons (.val _) (.cons (.val _) (.cons (.val _) (.cons (.sl _ _) (.cons (.val _) (.cons (.val _) .nil))))))))))))))⟩⟩, trivial⟩⟩
          ·replace hg := cond_f h44 hg
           iterate 12 refine ch_skip (gdv_f rfl rfl h44) rfl ?_
           refine c0_ (gdv_t rfl rfl h42) rfl (r_pickF h44) rfl rfl ?_
           refine c0_ rfl rfl (r_pickF h42) rfl rfl ?_
           refine ch_n fun hU241_46 => ?_
           exact ⟨false, hg, Sub.lists [(0, 0)] rfl rfl ⟨⟨_, rfl, .ptr rfl⟩, ⟨_, rfl, .val _⟩, ⟨_, rfl, .val _⟩, trivial⟩ ⟨.inl ⟨0, _, rfl, rfl, ⟨rfl, .cons (.val _) (.cons (.val _) (.cons (.val _) (.cons (.val _) (.cons (.val _) (.cons (.val _) (.cons (.val _) (.cons (.val _) (.cons (.val _) (.cons (.val _) (.cons (.val _) (.cons (.val _) (.cons (.sl _ _) (.cons (.val _) (.cons (.val _) .nil))))))))))))))⟩⟩, trivial⟩⟩
        ·rintro x123_5 hg
         replace hg : g_ref03_Check.j5 i_4 x123_5 = some o4 := hg
         show awp _ _ _ _ (mk _ _ _)
         unfold g_ref03_Check.j5 at hg
         refine awp_cond rfl (fun h47 => ?_) (fun h47 => ?_)
         ·replace hg := cond_t h47 hg
          refine sr_ 1 9 mk_U ?_
          refine c0_ rfl rfl .assign rfl rfl ?_
          refine ch_n fun hU9_48 => ?_
          refine aw_r ?_
          replace hg := leave hg hn4
          obtain rfl := Option.some.inj hg
          exact ⟨[_], _, [], [], .cons (.tmp rfl) .nil, ⟨rfl, rfl⟩, .val _, trivial, rfl, rfl, rfl, rfl⟩
         ·replace hg := cond_f h47 hg
          refine aw_s ?_
          refine awp_region (sys _ _ []) 1 25 mk_U rfl rfl ?_
          refine c0_ rfl rfl .move rfl rfl ?_
          refine c0_ rfl rfl r_add rfl rfl ?_
          refine c0_ rfl rfl .assign rfl rfl ?_
          refine ch_n fun hU25_49 => ?_
          obtain rfl := Option.some.inj hg
          exact ⟨(W (i_4 + 1), m4), Nat.lt_succ_self _, hn4, Sub.lists [(0, 0)] rfl rfl ⟨⟨_, rfl, .ptr rfl⟩, ⟨_, rfl, .val _⟩, trivial⟩ ⟨.inl ⟨0, _, rfl, rfl, ⟨rfl, .cons (.val _) (.cons (.val _) (.cons (.val _) (.cons (.val _) (.cons (.val _) (.cons (.val _) (.cons (.val _) (.cons (.val _) (.cons (.val _) (.cons (.val _) (.cons (.val _) (.cons (.val _) (.cons (.sl _ _) (.cons (.val _) (.cons (.val _) .nil))))))))))))))⟩⟩, trivial⟩⟩
       ·replace hg := cond_f h41 hg
        refine awp_exit ?_
        repeat first | refine st_ ?_ | refine sn_ ?_
        replace hg := leave hg hn4
        refine awp_seq ?_
        refine awp_cut (ι := Bool) (fun (x145_6 : Bool) => mk [(145, .val (.bool x145_6))] [] 0) (fun (x145_6 : Bool) => g_ref03_Check.j6 x145_6 = some r) ?_ ?_
        ·refine awp_region (sys _ _ []) 41 217 hU41_40 rfl rfl ?_
         refine c0_ rfl rfl (.fieldP fd45_11 ty43 (by decide)) rfl rfl ?_
         refine c0_ rfl rfl (.fieldP fd43_0 ty3 (by decide)) rfl rfl ?_
         refine ch_s (rd := [0]) rfl rfl (.loadB1 ty3 rfl) rfl rfl ?_
         refine c0_ rfl rfl r_lss rfl rfl ?_
         refine c0_ rfl rfl .move rfl rfl ?_
         rcases Bool.eq_false_or_eq_true (decide (c.Seal.Key < 0)) with h50 | h50
         ·replace hg := cond_t h50 hg
          iterate 4 refine ch_skip (gdv_f rfl rfl h50) rfl ?_
          refine c0_ rfl rfl (r_pickT h50) rfl rfl ?_
          refine c0_ rfl rfl .move rfl rfl ?_
          iterate 4 refine ch_skip (gdv_f rfl rfl rfl) rfl ?_
          refine c0_ rfl rfl (r_pickT rfl) rfl rfl ?_
          refine c0_ rfl rfl .move rfl rfl ?_
          iterate 4 refine ch_skip (gdv_f rfl rfl rfl) rfl ?_
          refine c0_ rfl rfl (r_pickT rfl) rfl rfl ?_
          refine ch_n fun hU217_51 => ?_
          exact ⟨true, hg, Sub.lists [] rfl rfl ⟨⟨_, rfl, .val _⟩, trivial⟩ trivial⟩
         ·replace hg := cond_f h50 hg
          refine c0_ (gdv_t rfl rfl h50) rfl (.fieldP fd45_11 ty43 (by decide)) rfl rfl ?_
          refine c0_ (gdv_t rfl rfl h50) rfl (.fieldP fd43_0 ty3 (by decide)) rfl rfl ?_
          refine ch_s (rd := [0]) (gdv_t rfl rfl h50) rfl (.loadB1 ty3 rfl) rfl rfl ?_
          refine c0_ (gdv_t rfl rfl h50) rfl r_gtr rfl rfl ?_
          refine c0_ rfl rfl (r_pickF h50) rfl rfl ?_
          refine c0_ rfl rfl .move rfl rfl ?_
          rcases Bool.eq_false_or_eq_true (decide (2147483648 < c.Seal.Key)) with h52 | h52
          ·replace hg := cond_t h52 hg
           iterate 4 refine ch_skip (gdv_f rfl rfl h52) rfl ?_
           refine c0_ rfl rfl (r_pickT h52) rfl rfl ?_
           refine c0_ rfl rfl .move rfl rfl ?_
           iterate 4 refine ch_skip (gdv_f rfl rfl rfl) rfl ?_
           refine c0_ rfl rfl (r_pickT rfl) rfl rfl ?_
           refine ch_n fun hU217_53 => ?_
           exact ⟨true, hg, Sub.lists [] rfl rfl ⟨⟨_, rfl, .val _⟩, trivial⟩ trivial⟩
          ·replace hg := cond_f h52 hg
           refine c0_ (gdv_t rfl rfl h52) rfl (.fieldP fd45_11 ty43 (by decide)) rfl rfl ?_
           refine c0_ (gdv_t rfl rfl h52) rfl (.fieldP fd43_1 ty3 (by decide)) rfl rfl ?_
           refine ch_s (rd := [0]) (gdv_t rfl rfl h52) rfl (.loadB1 ty3 rfl) rfl rfl ?_
           refine c0_ (gdv_t rfl rfl h52) rfl r_lss rfl rfl ?_
           refine c0_ rfl rfl (r_pickF h52) rfl rfl ?_
           refine c0_ rfl rfl .move rfl rfl ?_
           rcases Bool.eq_false_or_eq_true (decide (c.Seal.Sum < 0)) with h54 | h54
           ·replace hg := cond_t h54 hg
            iterate 4 refine ch_skip (gdv_f rfl rfl h54) rfl ?_
            refine c0_ rfl rfl (r_pickT h54) rfl rfl ?_
            refine ch_n fun hU217_55 => ?_
            exact ⟨true, hg, Sub.lists [] rfl rfl ⟨⟨_, rfl, .val _⟩, trivial⟩ trivial⟩
           ·replace hg := cond_f h54 hg
            refine c0_ (gdv_t rfl rfl h54) rfl (.fieldP fd45_11 ty43 (by decide)) rfl rfl ?_
            refine c0_ (gdv_t rfl rfl h54) rfl (.fieldP fd43_1 ty3 (by decide)) rfl rfl ?_
            refine ch_s (rd := [0]) (gdv_t rfl rfl h54) rfl (.loadB1 ty3 rfl) rfl rfl ?_
            refine c0_ (gdv_t rfl rfl h54) rfl r_geq rfl rfl ?_
            refine c0_ rfl rfl (r_pickF h54) rfl rfl ?_
            refine ch_n fun hU217_56 => ?_
            exact ⟨decide (4294967296 ≤ c.Seal.Sum), hg, Sub.lists [] rfl rfl ⟨⟨_, rfl, .val _⟩, trivial⟩ trivial⟩
        ·rintro x145_6 hg
         replace hg : g_ref03_Check.j6 x145_6 = some r := hg
         show awp _ _ _ _ (mk _ _ _)
         unfold g_ref03_Check.j6 at hg
         refine awp_cond rfl (fun h57 => ?_) (fun h57 => ?_)
         ·replace hg := cond_t h57 hg
          refine sr_ 0 8 mk_U ?_
          refine c0_ rfl rfl .assign rfl rfl ?_
          refine ch_n fun hU8_58 => ?_
          refine aw_r ?_
          obtain rfl := Option.some.inj hg
          exact ⟨[_], _, [], [], .cons (.tmp rfl) .nil, ⟨rfl, rfl⟩, .val _, trivial, rfl, rfl, rfl, rfl⟩
         ·replace hg := cond_f h57 hg
          refine aw_s ?_
          refine sr_ 0 8 mk_U ?_
          refine c0_ rfl rfl .assign rfl rfl ?_
          refine ch_n fun hU8_59 => ?_
          refine aw_r ?_
          obtain rfl := Option.some.inj hg
          exact ⟨[_], _, [], [], .cons (.tmp rfl) .nil, ⟨rfl, rfl⟩, .val _, trivial, rfl, rfl, rfl, rfl⟩
end Go.Proofs.Ytadjcdhcdmiifaa
