/- The program computes the plain functions. -/
import Derived.Test.YtadjcdhcdmiifaaT1
import Derived.Test.YtadjcdhcdmiifaaA1
import Derived.Test.YtadjcdhcdmiifaaA2
import Derived.Test.YtadjcdhcdmiifaaA5
set_option linter.unusedVariables false
set_option linter.unusedSimpArgs false
set_option maxRecDepth 100000
set_option maxHeartbeats 1600000
namespace Go.Proofs.Ytadjcdhcdmiifaa
open Go.RowKit
theorem w_law04_hashes  (r : (List Int)) (hg : g_law04_hashes = some r) : Fn Try.prog 12 0 [] [] (fun d b => d = .sl 1 (encL eI r) ∧ b = []) := by
 unfold g_law04_hashes at hg
 refine Fn.of Try.func12 rfl rfl rfl fun w0 I ρ0 => ?_
 show awp _ ⟨w0, I, ρ0, 0, 0, 2⟩ _ _ _
 refine sr_ 0 8 mk_U ?_
 refine c0_ rfl rfl .assign rfl rfl ?_
 refine ch_n fun hU8_1 => ?_
 refine sr_ 8 24 hU8_1 ?_
 refine c0_ rfl rfl (r_buildFull sl22 z3 (by decide) rfl rfl rfl rfl ck3 (cs := [.int .i64 1, .int .i64 2, .int .i64 3, .int .i64 4]) (.cons .int (.cons .int (.cons .int (.cons .int .nil)))) rfl (l := ([1, 2, 3, 4] : List Int)) (f := eI) rfl) rfl rfl ?_
 refine c0_ rfl rfl .assign rfl rfl ?_
 refine ch_n fun hU24_2 => ?_
 refine aw_r ?_
 obtain rfl := Option.some.inj hg
 exact ⟨[_], _, [], [], .cons (.tmp rfl) .nil, ⟨rfl, rfl⟩, .frz rfl (look_ne rfl), trivial, rfl, rfl, rfl, rfl⟩
theorem w_ref04_text (l : (List ByteArray)) (s : ByteArray) (r : Bool) (hg : g_ref04_text l s = some r) : Fn Try.prog 54 0 [.sl 1 (encL eS l), .val (.string s)] [] (fun d b => d = .val (.bool r) ∧ b = []) := by
 unfold g_ref04_text at hg
 refine Fn.of Try.func54 rfl rfl rfl fun w0 I ρ0 => ?_
 show awp _ ⟨w0, I, ρ0, 0, 0, 18⟩ _ _ _
 refine sr_ 0 8 mk_U ?_
 refine c0_ rfl rfl .assign rfl rfl ?_
 refine ch_n fun hU8_1 => ?_
 refine awp_seq ?_
 refine sr_ 8 16 hU8_1 ?_
 refine c0_ rfl rfl .assign rfl rfl ?_
 refine ch_n fun hU16_2 => ?_
 refine awp_block ?_
 obtain ⟨n1, hg⟩ := loop_some hg
 refine awp_loop (ι := (Int) × Nat) (fun ((i_1, _) : (Int) × Nat) => mk [(0, .sl 1 (encL eS l)), (1, .val (.string s)), (5, .val (.int .i64 i_1))] [] 0) (fun ((i_1, nq') : (Int) × Nat) => iter (fun q' => g_ref04_text.l1 l s q') nq' i_1 = some r) (fun q => q.2) (0, n1) (Sub.lists [] rfl rfl ⟨⟨_, rfl, .sl _ _⟩, ⟨_, rfl, .val _⟩, ⟨_, rfl, .val _⟩, trivial⟩ trivial) hg ?_
 rintro ⟨i_1, n1⟩ hg
 obtain ⟨m1, o1, rfl, hg, hn1⟩ := iter_some (show iter (fun q' => g_ref04_text.l1 l s q') n1 i_1 = some r from hg)
 replace hg : g_ref04_text.l1 l s i_1 = some o1 := hg
 show awp _ _ _ _ (mk _ _ _)
 unfold g_ref04_text.l1 at hg
 refine awp_seq ?_
 refine sr_ 0 32 mk_U ?_
 refine c0_ rfl rfl .move rfl rfl ?_
 refine c0_ rfl rfl .move rfl rfl ?_
 refine c0_ rfl rfl (r_lenS sl41 eS_len) rfl rfl ?_
 refine c0_ rfl rfl r_lss rfl rfl ?_
 refine ch_n fun hU32_3 => ?_
 refine awp_cond rfl (fun h4 => ?_) (fun h4 => ?_)
 ·replace hg := cond_t h4 hg
  refine aw_s ?_
  refine awp_seq ?_
  refine awp_block ?_
  refine sr_ 32 80 hU32_3 ?_
  refine c0_ rfl rfl .move rfl rfl ?_
  refine c0_ rfl rfl .move rfl rfl ?_
  obtain ⟨e, he, hg⟩ := bind_some hg
  refine c0_ rfl rfl (r_idxS sl41 eS_len (getI_ix he) (getI_at he)) rfl rfl ?_
  refine c0_ rfl rfl (r_loadE1 ty9 (enc_cell eS_len (getI_at he) (o := 0) (c := .str e) rfl rfl)) rfl rfl ?_
  refine c0_ rfl rfl .move rfl rfl ?_
  refine c0_ rfl rfl r_seql rfl rfl ?_
  refine ch_n fun hU80_5 => ?_
  refine awp_cond rfl (fun h6 => ?_) (fun h6 => ?_)
  ·replace hg := cond_t h6 hg
   refine sr_ 80 88 hU80_5 ?_
   refine c0_ rfl rfl .assign rfl rfl ?_
   refine ch_n fun hU88_7 => ?_
   refine aw_r ?_
   replace hg := leave hg hn1
   obtain rfl := Option.some.inj hg
   exact ⟨[_], _, [], [], .cons (.tmp rfl) .nil, ⟨rfl, rfl⟩, .val _, trivial, rfl, rfl, rfl, rfl⟩
  ·replace hg := cond_f h6 hg
   refine aw_s ?_
   refine awp_region (sys _ _ []) 80 104 hU80_5 rfl rfl ?_
   refine c0_ rfl rfl .move rfl rfl ?_
   refine c0_ rfl rfl r_add rfl rfl ?_
   refine c0_ rfl rfl .assign rfl rfl ?_
   refine ch_n fun hU104_8 => ?_
   obtain rfl := Option.some.inj hg
   exact ⟨(W (i_1 + 1), m1), Nat.lt_succ_self _, hn1, Sub.lists [] rfl rfl ⟨⟨_, rfl, .sl _ _⟩, ⟨_, rfl, .val _⟩, ⟨_, rfl, .val _⟩, trivial⟩ trivial⟩
 ·replace hg := cond_f h4 hg
  refine awp_exit ?_
  repeat first | refine st_ ?_ | refine sn_ ?_
  replace hg := leave hg hn1
  refine sr_ 32 40 hU32_3 ?_
  refine c0_ rfl rfl .assign rfl rfl ?_
  refine ch_n fun hU40_9 => ?_
  refine aw_r ?_
  obtain rfl := Option.some.inj hg
  exact ⟨[_], _, [], [], .cons (.tmp rfl) .nil, ⟨rfl, rfl⟩, .val _, trivial, rfl, rfl, rfl, rfl⟩
theorem w_ref02_Has (l : (List Int)) (n : Int) (r : Bool) (hg : g_ref02_Has l n = some r) : Fn Try.prog 22 0 [.sl 1 (encL eI l), .val (.int .i64 n)] [] (fun d b => d = .val (.bool r) ∧ b = []) := by
 unfold g_ref02_Has at hg
 refine Fn.of Try.func22 rfl rfl rfl fun w0 I ρ0 => ?_
 show awp _ ⟨w0, I, ρ0, 0, 0, 18⟩ _ _ _
 refine sr_ 0 8 mk_U ?_
 refine c0_ rfl rfl .assign rfl rfl ?_
 refine ch_n fun hU8_1 => ?_
 refine awp_seq ?_
 refine sr_ 8 16 hU8_1 ?_
 refine c0_ rfl rfl .assign rfl rfl ?_
 refine ch_n fun hU16_2 => ?_
 refine awp_block ?_
 obtain ⟨n1, hg⟩ := loop_some hg
 refine awp_loop (ι := (Int) × Nat) (fun ((i_1, _) : (Int) × Nat) => mk [(0, .sl 1 (encL eI l)), (1, .val (.int .i64 n)), (5, .val (.int .i64 i_1))] [] 0) (fun ((i_1, nq') : (Int) × Nat) => iter (fun q' => g_ref02_Has.l1 l n q') nq' i_1 = some r) (fun q => q.2) (0, n1) (Sub.lists [] rfl rfl ⟨⟨_, rfl, .sl _ _⟩, ⟨_, rfl, .val _⟩, ⟨_, rfl, .val _⟩, trivial⟩ trivial) hg ?_
 rintro ⟨i_1, n1⟩ hg
 obtain ⟨m1, o1, rfl, hg, hn1⟩ := iter_some (show iter (fun q' => g_ref02_Has.l1 l n q') n1 i_1 = some r from hg)
 replace hg : g_ref02_Has.l1 l n i_1 = some o1 := hg
 show awp _ _ _ _ (mk _ _ _)
 unfold g_ref02_Has.l1 at hg
 refine awp_seq ?_
 refine sr_ 0 32 mk_U ?_
 refine c0_ rfl rfl .move rfl rfl ?_
 refine c0_ rfl rfl .move rfl rfl ?_
 refine c0_ rfl rfl (r_lenS sl22 eI_len) rfl rfl ?_
 refine c0_ rfl rfl r_lss rfl rfl ?_
 refine ch_n fun hU32_3 => ?_
 refine awp_cond rfl (fun h4 => ?_) (fun h4 => ?_)
 ·replace hg := cond_t h4 hg
  refine aw_s ?_
  refine awp_seq ?_
  refine awp_block ?_
  refine sr_ 32 80 hU32_3 ?_
  refine c0_ rfl rfl .move rfl rfl ?_
  refine c0_ rfl rfl .move rfl rfl ?_
  obtain ⟨e, he, hg⟩ := bind_some hg
  refine c0_ rfl rfl (r_idxS sl22 eI_len (getI_ix he) (getI_at he)) rfl rfl ?_
  refine c0_ rfl rfl (r_loadE1 ty3 (enc_cell eI_len (getI_at he) (o := 0) (c := .int .i64 e) rfl rfl)) rfl rfl ?_
  refine c0_ rfl rfl .move rfl rfl ?_
  refine c0_ rfl rfl r_eql rfl rfl ?_
  refine ch_n fun hU80_5 => ?_
  refine awp_cond rfl (fun h6 => ?_) (fun h6 => ?_)
  ·replace hg := cond_t h6 hg
   refine sr_ 80 88 hU80_5 ?_
   refine c0_ rfl rfl .assign rfl rfl ?_
   refine ch_n fun hU88_7 => ?_
   refine aw_r ?_
   replace hg := leave hg hn1
   obtain rfl := Option.some.inj hg
   exact ⟨[_], _, [], [], .cons (.tmp rfl) .nil, ⟨rfl, rfl⟩, .val _, trivial, rfl, rfl, rfl, rfl⟩
  ·replace hg := cond_f h6 hg
   refine aw_s ?_
   refine awp_region (sys _ _ []) 80 104 hU80_5 rfl rfl ?_
   refine c0_ rfl rfl .move rfl rfl ?_
   refine c0_ rfl rfl r_add rfl rfl ?_
   refine c0_ rfl rfl .assign rfl rfl ?_
   refine ch_n fun hU104_8 => ?_
   obtain rfl := Option.some.inj hg
   exact ⟨(W (i_1 + 1), m1), Nat.lt_succ_self _, hn1, Sub.lists [] rfl rfl ⟨⟨_, rfl, .sl _ _⟩, ⟨_, rfl, .val _⟩, ⟨_, rfl, .val _⟩, trivial⟩ trivial⟩
 ·replace hg := cond_f h4 hg
  refine awp_exit ?_
  repeat first | refine st_ ?_ | refine sn_ ?_
  replace hg := leave hg hn1
  refine sr_ 32 40 hU32_3 ?_
  refine c0_ rfl rfl .assign rfl rfl ?_
  refine ch_n fun hU40_9 => ?_
  refine aw_r ?_
  obtain rfl := Option.some.inj hg
  exact ⟨[_], _, [], [], .cons (.tmp rfl) .nil, ⟨rfl, rfl⟩, .val _, trivial, rfl, rfl, rfl, rfl⟩
theorem w_ref04_Path (l : (List api_Certificate)) (at' : Int) (r : Bool) (hg : g_ref04_Path l at' = some r) : Fn Try.prog 14 0 [.sl 15 (encL api_Certificate.enc l), .val (.int .i64 at')] [] (fun d b => d = .val (.bool r) ∧ b = []) := by
 unfold g_ref04_Path at hg
 refine Fn.of Try.func14 rfl rfl rfl fun w0 I ρ0 => ?_
 show awp _ ⟨w0, I, ρ0, 0, 0, 32⟩ _ _ _
 refine sr_ 0 8 mk_U ?_
 refine c0_ rfl rfl .assign rfl rfl ?_
 refine ch_n fun hU8_1 => ?_
 refine awp_seq ?_
 refine awp_cut (ι := Bool) (fun (x12_1 : Bool) => mk [(0, .sl 15 (encL api_Certificate.enc l)), (1, .val (.int .i64 at')), (12, .val (.bool x12_1))] [] 0) (fun (x12_1 : Bool) => g_ref04_Path.j1 l at' x12_1 = some r) ?_ ?_
 ·refine awp_region (sys _ _ []) 8 72 hU8_1 rfl rfl ?_
  refine c0_ rfl rfl .move rfl rfl ?_
  refine c0_ rfl rfl r_lss rfl rfl ?_
  refine c0_ rfl rfl .move rfl rfl ?_
  rcases Bool.eq_false_or_eq_true (decide (at' < 0)) with h2 | h2
  ·replace hg := cond_t h2 hg
   iterate 4 refine ch_skip (gdv_f rfl rfl h2) rfl ?_
   refine c0_ rfl rfl (r_pickT h2) rfl rfl ?_
   refine ch_n fun hU72_3 => ?_
   exact ⟨true, hg, Sub.lists [] rfl rfl ⟨⟨_, rfl, .sl _ _⟩, ⟨_, rfl, .val _⟩, ⟨_, rfl, .val _⟩, trivial⟩ trivial⟩
  ·replace hg := cond_f h2 hg
   refine c0_ (gdv_t rfl rfl h2) rfl .move rfl rfl ?_
   refine c0_ (gdv_t rfl rfl h2) rfl .move rfl rfl ?_
   refine c0_ (gdv_t rfl rfl h2) rfl (r_lenS sl27 api_Certificate.enc_len) rfl rfl ?_
   refine c0_ (gdv_t rfl rfl h2) rfl r_geq rfl rfl ?_
   refine c0_ rfl rfl (r_pickF h2) rfl rfl ?_
   refine ch_n fun hU72_4 => ?_
   exact ⟨decide ((l.length : Int) ≤ at'), hg, Sub.lists [] rfl rfl ⟨⟨_, rfl, .sl _ _⟩, ⟨_, rfl, .val _⟩, ⟨_, rfl, .val _⟩, trivial⟩ trivial⟩
 ·rintro x12_1 hg
  replace hg : g_ref04_Path.j1 l at' x12_1 = some r := hg
  show awp _ _ _ _ (mk _ _ _)
  unfold g_ref04_Path.j1 at hg
  refine awp_cond rfl (fun h5 => ?_) (fun h5 => ?_)
  ·replace hg := cond_t h5 hg
   refine sr_ 0 8 mk_U ?_
   refine c0_ rfl rfl .assign rfl rfl ?_
   refine ch_n fun hU8_6 => ?_
   refine aw_r ?_
   obtain rfl := Option.some.inj hg
   exact ⟨[_], _, [], [], .cons (.tmp rfl) .nil, ⟨rfl, rfl⟩, .val _, trivial, rfl, rfl, rfl, rfl⟩
  ·replace hg := cond_f h5 hg
   refine aw_s ?_
   refine sr_ 0 160 mk_U ?_
   refine c0_ rfl rfl .move rfl rfl ?_
   refine c0_ rfl rfl r_eql rfl rfl ?_
   refine c0_ rfl rfl .move rfl rfl ?_
   rcases Bool.eq_false_or_eq_true (decide (at' = 0)) with h7 | h7
   ·replace hg := cond_t h7 hg
    iterate 6 refine ch_skip (gdv_f rfl rfl h7) rfl ?_
    iterate 8 refine ch_skip rfl rfl ?_
    refine ch_skip (gdv_f rfl rfl h7) rfl ?_
    refine c0_ rfl rfl (r_pickT h7) rfl rfl ?_
    refine c0_ rfl rfl .assign rfl rfl ?_
    refine ch_n fun hU160_8 => ?_
    refine aw_r ?_
    obtain rfl := Option.some.inj hg
    exact ⟨[_], _, [], [], .cons (.tmp rfl) .nil, ⟨rfl, rfl⟩, .val _, trivial, rfl, rfl, rfl, rfl⟩
   ·replace hg := cond_f h7 hg
    refine c0_ (gdv_t rfl rfl h7) rfl .move rfl rfl ?_
    refine c0_ (gdv_t rfl rfl h7) rfl .move rfl rfl ?_
    obtain ⟨e, he, hg⟩ := bind_some hg
    refine c0_ (gdv_t rfl rfl h7) rfl (r_idxS sl27 api_Certificate.enc_len (getI_ix he) (getI_at he)) rfl rfl ?_
    refine c0_ (gdv_t rfl rfl h7) rfl (r_fieldE fd45_8 ty4 (by decide) (enc_lt api_Certificate.enc_len (getI_at he) (o := 10) (by decide) rfl)) rfl rfl ?_
    refine c0_ (gdv_t rfl rfl h7) rfl (r_loadE1 ty4 (enc_cell api_Certificate.enc_len (getI_at he) (o := 10) (c := .bool e.Authority) rfl rfl)) rfl rfl ?_
    refine c0_ (gdv_t rfl rfl h7) rfl .move rfl rfl ?_
    rcases Bool.eq_false_or_eq_true (e.Authority) with h9 | h9
    ·replace hg := cond_t h9 hg
     refine c0_ (gdv_t rfl rfl h9) rfl .move rfl rfl ?_
     refine c0_ (gdv_t rfl rfl h9) rfl .move rfl rfl ?_
     refine c0_ (gdv_t rfl rfl h9) rfl (r_idxS sl27 api_Certificate.enc_len (getI_ix he) (getI_at he)) rfl rfl ?_
     refine c0_ (gdv_t rfl rfl h9) rfl (r_fieldE fd45_9 ty3 (by decide) (enc_lt api_Certificate.enc_len (getI_at he) (o := 11) (by decide) rfl)) rfl rfl ?_
     refine c0_ (gdv_t rfl rfl h9) rfl (r_loadE1 ty3 (enc_cell api_Certificate.enc_len (getI_at he) (o := 11) (c := .int .i64 e.Path) rfl rfl)) rfl rfl ?_
     refine c0_ (gdv_t rfl rfl h9) rfl .move rfl rfl ?_
     refine c0_ (gdv_t rfl rfl h9) rfl r_sub rfl rfl ?_
     refine c0_ (gdv_t rfl rfl h9) rfl r_geq rfl rfl ?_
     refine c0_ (gdv_t rfl rfl h7) rfl (r_pickT h9) rfl rfl ?_
     refine c0_ rfl rfl (r_pickF h7) rfl rfl ?_
     refine c0_ rfl rfl .assign rfl rfl ?_
     refine ch_n fun hU160_10 => ?_
     refine aw_r ?_
     obtain rfl := Option.some.inj hg
     exact ⟨[_], _, [], [], .cons (.tmp rfl) .nil, ⟨rfl, rfl⟩, .val _, trivial, rfl, rfl, rfl, rfl⟩
    ·replace hg := cond_f h9 hg
     iterate 8 refine ch_skip (gdv_f rfl rfl h9) rfl ?_
     refine c0_ (gdv_t rfl rfl h7) rfl (r_pickF h9) rfl rfl ?_
     refine c0_ rfl rfl (r_pickF h7) rfl rfl ?_
     refine c0_ rfl rfl .assign rfl rfl ?_
     refine ch_n fun hU160_11 => ?_
     refine aw_r ?_
     obtain rfl := Option.some.inj hg
     exact ⟨[_], _, [], [], .cons (.tmp rfl) .nil, ⟨rfl, rfl⟩, .val _, trivial, rfl, rfl, rfl, rfl⟩
theorem w_ref03_Sealed (c : api_Certificate) (key : Int) (r : Bool) (hg : g_ref03_Sealed c key = some r) : Fn Try.prog 55 0 [.agg [.val (.int .i64 c.Serial), .val (.string c.Issuer), .val (.string c.Subject), .val (.int .i64 c.Key.Alg), .val (.int .i64 c.Key.Bits), .val (.int .i64 c.KeyId), .val (.int .i64 c.Hash.Alg), .val (.int .i64 c.Hash.Bits), .val (.int .i64 c.From), .val (.int .i64 c.To), .val (.bool c.Authority), .val (.int .i64 c.Path), .sl 1 (encL eS c.Names), .val (.int .i64 c.Seal.Key), .val (.int .i64 c.Seal.Sum)], .val (.int .i64 key)] [] (fun d b => d = .val (.bool r) ∧ b = []) := by
 unfold g_ref03_Sealed at hg
 refine Fn.of Try.func55 rfl rfl rfl fun w0 I ρ0 => ?_
 show awp _ ⟨w0, I, ρ0, 0, 0, 29⟩ _ _ _
 refine sr_ 0 16 mk_U ?_
 refine c0_ rfl rfl (.box rfl) rfl rfl ?_
 refine c0_ rfl rfl .assign rfl rfl ?_
 refine ch_n fun hU16_1 => ?_
 refine sr_ 16 72 hU16_1 ?_
 refine ch_s (rd := [0]) rfl rfl (.loadBA ty45 (Nat.le_of_ble_eq_true rfl)) rfl rfl ?_
 obtain ⟨y, hy, hg⟩ := bind_some hg
 refine ch_callP (rd := []) (ps := []) (gs := []) false rfl (w_ref03_Bytes c _ hy) rfl rfl (.cons (.agg (.cons .val (.cons .val (.cons .val (.cons .val (.cons .val (.cons .val (.cons .val (.cons .val (.cons .val (.cons .val (.cons .val (.cons .val (.cons .sl (.cons .val (.cons .val .nil)))))))))))))))) .nil) rfl rfl (by intro h; cases h) rfl rfl rfl rfl ?_
 refine c0_ rfl rfl .move rfl rfl ?_
 refine c0_ rfl rfl (.extract rfl) rfl rfl ?_
 refine c0_ rfl rfl (.extract rfl) rfl rfl ?_
 refine c0_ rfl rfl .assign rfl rfl ?_
 refine c0_ rfl rfl .assign rfl rfl ?_
 refine ch_n fun hU72_2 => ?_
 refine awp_seq ?_
 refine awp_draw (sys _ _ []) (by kernel_rfl) [0, 1, 3, 7, 15, 31, 7, 127, 255, 511, 1023, 2047, 4095, 1023, 9215, 32767, 65535, 131071] 72 216 hU72_2 rfl rfl (by kernel_rfl) ?_
 refine c0_ rfl rfl .move rfl rfl ?_
 refine c0_ rfl rfl r_eql rfl rfl ?_
 refine c0_ rfl rfl .move rfl rfl ?_
 rcases Bool.eq_false_or_eq_true (decide (y.2 = 0)) with h3 | h3
 ·replace hg := cond_t h3 hg
  refine c0_ (gdv_t rfl rfl h3) rfl (.fieldP fd45_11 ty43 (by decide)) rfl rfl ?_
  refine c0_ (gdv_t rfl rfl h3) rfl (.fieldP fd43_0 ty3 (by decide)) rfl rfl ?_
  refine ch_s (rd := [0]) (gdv_t rfl rfl h3) rfl (.loadB1 ty3 rfl) rfl rfl ?_
  refine c0_ (gdv_t rfl rfl h3) rfl .move rfl rfl ?_
  refine c0_ (gdv_t rfl rfl h3) rfl r_eql rfl rfl ?_
  refine c0_ rfl rfl (r_pickT h3) rfl rfl ?_
  refine c0_ rfl rfl .move rfl rfl ?_
  rcases Bool.eq_false_or_eq_true (decide (c.Seal.Key = key)) with h4 | h4
  ·replace hg := cond_t h4 hg
   refine c0_ (gdv_t rfl rfl h4) rfl (.fieldP fd45_11 ty43 (by decide)) rfl rfl ?_
   refine c0_ (gdv_t rfl rfl h4) rfl (.fieldP fd43_1 ty3 (by decide)) rfl rfl ?_
   refine ch_s (rd := [0]) (gdv_t rfl rfl h4) rfl (.loadB1 ty3 rfl) rfl rfl ?_
   refine c0_ (gdv_t rfl rfl h4) rfl .move rfl rfl ?_
   obtain ⟨y_2, hy_2, hg⟩ := bind_some hg
   refine ch_callP (rd := []) (ps := []) (gs := []) false (gdv_t rfl rfl h4) (w_ref03_Sum y.1 _ hy_2) rfl rfl (.cons .sl .nil) rfl rfl (by intro h; cases h) rfl rfl rfl rfl ?_
   refine c0_ (gdv_t rfl rfl h4) rfl r_eql rfl rfl ?_
   refine c0_ rfl rfl (r_pickT h4) rfl rfl ?_
   refine c0_ rfl rfl .assign rfl rfl ?_
   refine ch_n fun hU216_5 => ?_
   refine aw_r ?_
   obtain rfl := Option.some.inj hg
   exact ⟨[_], _, [], [], .cons (.tmp rfl) .nil, ⟨rfl, rfl⟩, .val _, trivial, rfl, rfl, rfl, rfl⟩
  ·replace hg := cond_f h4 hg
   iterate 6 refine ch_skip (gdv_f rfl rfl h4) rfl ?_
   refine c0_ rfl rfl (r_pickF h4) rfl rfl ?_
   refine c0_ rfl rfl .assign rfl rfl ?_
   refine ch_n fun hU216_6 => ?_
   refine aw_r ?_
   obtain rfl := Option.some.inj hg
   exact ⟨[_], _, [], [], .cons (.tmp rfl) .nil, ⟨rfl, rfl⟩, .val _, trivial, rfl, rfl, rfl, rfl⟩
 ·replace hg := cond_f h3 hg
  iterate 5 refine ch_skip (gdv_f rfl rfl h3) rfl ?_
  refine c0_ rfl rfl (r_pickF h3) rfl rfl ?_
  refine c0_ rfl rfl .move rfl rfl ?_
  iterate 6 refine ch_skip (gdv_f rfl rfl rfl) rfl ?_
  refine c0_ rfl rfl (r_pickF rfl) rfl rfl ?_
  refine c0_ rfl rfl .assign rfl rfl ?_
  refine ch_n fun hU216_7 => ?_
  refine aw_r ?_
  obtain rfl := Option.some.inj hg
  exact ⟨[_], _, [], [], .cons (.tmp rfl) .nil, ⟨rfl, rfl⟩, .val _, trivial, rfl, rfl, rfl, rfl⟩
theorem w_ref04_wrong (e : Int) (l : (List api_Certificate)) (i : Int) (anchors : (List Int)) (hashes : (List Int)) (day : Int) (name : ByteArray) (r : Bool) (hg : g_ref04_wrong e l i anchors hashes day name = some r) : Fn Try.prog 38 0 [.val (.int .i64 e), .sl 15 (encL api_Certificate.enc l), .val (.int .i64 i), .sl 1 (encL eI anchors), .sl 1 (encL eI hashes), .val (.int .i64 day), .val (.string name)] [] (fun d b => d = .val (.bool r) ∧ b = []) := by
 unfold g_ref04_wrong at hg
 refine Fn.of Try.func38 rfl rfl rfl fun w0 I ρ0 => ?_
 show awp _ ⟨w0, I, ρ0, 0, 0, 111⟩ _ _ _
 refine sr_ 0 8 mk_U ?_
 refine c0_ rfl rfl .assign rfl rfl ?_
 refine ch_n fun hU8_1 => ?_
 refine sr_ 8 104 hU8_1 ?_
 refine c0_ rfl rfl .move rfl rfl ?_
 refine c0_ rfl rfl .move rfl rfl ?_
 obtain ⟨e_2, he_2, hg⟩ := bind_some hg
 refine c0_ rfl rfl (r_idxS sl27 api_Certificate.enc_len (getI_ix he_2) (getI_at he_2)) rfl rfl ?_
 refine c0_ rfl rfl (r_loadEA ty45 (enc_cells api_Certificate.enc_len (getI_at he_2) (o := 0) (m := 15) (cs := [.int .i64 e_2.Serial, .str e_2.Issuer, .str e_2.Subject, .int .i64 e_2.Key.Alg, .int .i64 e_2.Key.Bits, .int .i64 e_2.KeyId, .int .i64 e_2.Hash.Alg, .int .i64 e_2.Hash.Bits, .int .i64 e_2.From, .int .i64 e_2.To, .bool e_2.Authority, .int .i64 e_2.Path, .sl 1 (encL eS e_2.Names), .int .i64 e_2.Seal.Key, .int .i64 e_2.Seal.Sum]) rfl (by decide) rfl) (enc_cells_le api_Certificate.enc_len (getI_at he_2) (o := 0) (m := 15) (by decide) rfl)) rfl rfl ?_
 refine c0_ rfl rfl .move rfl rfl ?_
 refine c0_ rfl rfl .move rfl rfl ?_
 refine c0_ rfl rfl (r_lenS sl27 api_Certificate.enc_len) rfl rfl ?_
 refine c0_ rfl rfl r_sub rfl rfl ?_
 refine c0_ rfl rfl r_eql rfl rfl ?_
 refine c0_ rfl rfl (.alloc z45) rfl rfl ?_
 refine ch_s (rd := [80]) rfl rfl (r_storeB (ds' := [.val (.int .i64 e_2.Serial), .val (.string e_2.Issuer), .val (.string e_2.Subject), .val (.int .i64 e_2.Key.Alg), .val (.int .i64 e_2.Key.Bits), .val (.int .i64 e_2.KeyId), .val (.int .i64 e_2.Hash.Alg), .val (.int .i64 e_2.Hash.Bits), .val (.int .i64 e_2.From), .val (.int .i64 e_2.To), .val (.bool e_2.Authority), .val (.int .i64 e_2.Path), .sl 1 (encL eS e_2.Names), .val (.int .i64 e_2.Seal.Key), .val (.int .i64 e_2.Seal.Sum)]) ty45 rfl (Nat.le_of_ble_eq_true rfl) rfl rfl) rfl rfl ?_
 refine c0_ rfl rfl .assign rfl rfl ?_
 refine ch_n fun hU104_2 => ?_
 refine awp_seq ?_
 refine sr_ 104 112 hU104_2 ?_
 refine c0_ rfl rfl .move rfl rfl ?_
 refine ch_n fun hU112_3 => ?_
 refine awp_block ?_
 refine sr_ 112 128 hU112_3 ?_
 refine c0_ rfl rfl r_eql rfl rfl ?_
 refine c0_ rfl rfl .assign rfl rfl ?_
 refine ch_n fun hU128_4 => ?_
 refine awp_cond rfl (fun h5 => ?_) (fun h5 => ?_)
 ·replace hg := cond_t h5 hg
  refine sr_ 128 160 hU128_4 ?_
  refine ch_s (rd := [80]) rfl rfl (.loadBA ty45 (Nat.le_of_ble_eq_true rfl)) rfl rfl ?_
  obtain ⟨y, hy, hg⟩ := bind_some hg
  refine ch_callP (rd := []) (ps := []) (gs := []) false rfl (w_ref03_Check e_2 _ hy) rfl rfl (.cons (.agg (.cons .val (.cons .val (.cons .val (.cons .val (.cons .val (.cons .val (.cons .val (.cons .val (.cons .val (.cons .val (.cons .val (.cons .val (.cons .sl (.cons .val (.cons .val .nil)))))))))))))))) .nil) rfl rfl (by intro h; cases h) rfl rfl rfl rfl ?_
  refine c0_ rfl rfl r_neq rfl rfl ?_
  refine c0_ rfl rfl .assign rfl rfl ?_
  refine ch_n fun hU160_6 => ?_
  refine aw_r ?_
  obtain rfl := Option.some.inj hg
  exact ⟨[_], _, [], [], .cons (.tmp rfl) .nil, ⟨rfl, rfl⟩, .val _, trivial, rfl, rfl, rfl, rfl⟩
 ·replace hg := cond_f h5 hg
  refine sr_ 128 144 hU128_4 ?_
  refine c0_ rfl rfl r_eql rfl rfl ?_
  refine c0_ rfl rfl .assign rfl rfl ?_
  refine ch_n fun hU144_7 => ?_
  refine awp_cond rfl (fun h8 => ?_) (fun h8 => ?_)
  ·replace hg := cond_t h8 hg
   refine sr_ 144 224 hU144_7 ?_
   refine c0_ rfl rfl .move rfl rfl ?_
   refine c0_ rfl rfl r_eql rfl rfl ?_
   refine c0_ rfl rfl .move rfl rfl ?_
   rcases Bool.eq_false_or_eq_true (decide (i = 0)) with h9 | h9
   ·replace hg := cond_t h9 hg
    refine c0_ (gdv_t rfl rfl h9) rfl (.fieldP fd45_10 ty41 (by decide)) rfl rfl ?_
    refine ch_s (rd := [80]) (gdv_t rfl rfl h9) rfl (.loadB1 ty41 rfl) rfl rfl ?_
    refine c0_ (gdv_t rfl rfl h9) rfl .move rfl rfl ?_
    obtain ⟨y_2, hy_2, hg⟩ := bind_some hg
    refine ch_callP (rd := []) (ps := []) (gs := []) false (gdv_t rfl rfl h9) (w_ref04_text e_2.Names name _ hy_2) rfl rfl (.cons .sl (.cons .val .nil)) rfl rfl (by intro h; cases h) rfl rfl rfl rfl ?_
    refine c0_ (gdv_t rfl rfl h9) rfl r_not rfl rfl ?_
    refine c0_ rfl rfl (r_pickT h9) rfl rfl ?_
    refine c0_ rfl rfl .assign rfl rfl ?_
    refine ch_n fun hU224_10 => ?_
    refine aw_r ?_
    obtain rfl := Option.some.inj hg
    exact ⟨[_], _, [], [], .cons (.tmp rfl) .nil, ⟨rfl, rfl⟩, .val _, trivial, rfl, rfl, rfl, rfl⟩
   ·replace hg := cond_f h9 hg
    iterate 5 refine ch_skip (gdv_f rfl rfl h9) rfl ?_
    refine c0_ rfl rfl (r_pickF h9) rfl rfl ?_
    refine c0_ rfl rfl .assign rfl rfl ?_
    refine ch_n fun hU224_11 => ?_
    refine aw_r ?_
    obtain rfl := Option.some.inj hg
    exact ⟨[_], _, [], [], .cons (.tmp rfl) .nil, ⟨rfl, rfl⟩, .val _, trivial, rfl, rfl, rfl, rfl⟩
  ·replace hg := cond_f h8 hg
   refine sr_ 144 160 hU144_7 ?_
   refine c0_ rfl rfl r_eql rfl rfl ?_
   refine c0_ rfl rfl .assign rfl rfl ?_
   refine ch_n fun hU160_12 => ?_
   refine awp_cond rfl (fun h13 => ?_) (fun h13 => ?_)
   ·replace hg := cond_t h13 hg
    refine sr_ 160 248 hU160_12 ?_
    refine c0_ rfl rfl .move rfl rfl ?_
    refine c0_ rfl rfl (.fieldP fd45_6 ty3 (by decide)) rfl rfl ?_
    refine ch_s (rd := [80]) rfl rfl (.loadB1 ty3 rfl) rfl rfl ?_
    refine c0_ rfl rfl r_lss rfl rfl ?_
    refine c0_ rfl rfl .move rfl rfl ?_
    rcases Bool.eq_false_or_eq_true (decide (day < e_2.From)) with h14 | h14
    ·replace hg := cond_t h14 hg
     iterate 4 refine ch_skip (gdv_f rfl rfl h14) rfl ?_
     refine c0_ rfl rfl (r_pickT h14) rfl rfl ?_
     refine c0_ rfl rfl .assign rfl rfl ?_
     refine ch_n fun hU248_15 => ?_
     refine aw_r ?_
     obtain rfl := Option.some.inj hg
     exact ⟨[_], _, [], [], .cons (.tmp rfl) .nil, ⟨rfl, rfl⟩, .val _, trivial, rfl, rfl, rfl, rfl⟩
    ·replace hg := cond_f h14 hg
     refine c0_ (gdv_t rfl rfl h14) rfl .move rfl rfl ?_
     refine c0_ (gdv_t rfl rfl h14) rfl (.fieldP fd45_7 ty3 (by decide)) rfl rfl ?_
     refine ch_s (rd := [80]) (gdv_t rfl rfl h14) rfl (.loadB1 ty3 rfl) rfl rfl ?_
     refine c0_ (gdv_t rfl rfl h14) rfl r_geq rfl rfl ?_
     refine c0_ rfl rfl (r_pickF h14) rfl rfl ?_
     refine c0_ rfl rfl .assign rfl rfl ?_
     refine ch_n fun hU248_16 => ?_
     refine aw_r ?_
     obtain rfl := Option.some.inj hg
     exact ⟨[_], _, [], [], .cons (.tmp rfl) .nil, ⟨rfl, rfl⟩, .val _, trivial, rfl, rfl, rfl, rfl⟩
   ·replace hg := cond_f h13 hg
    refine sr_ 160 176 hU160_12 ?_
    refine c0_ rfl rfl r_eql rfl rfl ?_
    refine c0_ rfl rfl .assign rfl rfl ?_
    refine ch_n fun hU176_17 => ?_
    refine awp_cond rfl (fun h18 => ?_) (fun h18 => ?_)
    ·replace hg := cond_t h18 hg
     refine sr_ 176 232 hU176_17 ?_
     refine c0_ rfl rfl .move rfl rfl ?_
     refine c0_ rfl rfl (.fieldP fd45_5 ty40 (by decide)) rfl rfl ?_
     refine c0_ rfl rfl (.fieldP fd40_0 ty3 (by decide)) rfl rfl ?_
     refine ch_s (rd := [80]) rfl rfl (.loadB1 ty3 rfl) rfl rfl ?_
     obtain ⟨y_3, hy_3, hg⟩ := bind_some hg
     refine ch_callP (rd := []) (ps := []) (gs := []) false rfl (w_ref02_Has hashes e_2.Hash.Alg _ hy_3) rfl rfl (.cons .sl (.cons .val .nil)) rfl rfl (by intro h; cases h) rfl rfl rfl rfl ?_
     refine c0_ rfl rfl r_not rfl rfl ?_
     refine c0_ rfl rfl .assign rfl rfl ?_
     refine ch_n fun hU232_19 => ?_
     refine aw_r ?_
     obtain rfl := Option.some.inj hg
     exact ⟨[_], _, [], [], .cons (.tmp rfl) .nil, ⟨rfl, rfl⟩, .val _, trivial, rfl, rfl, rfl, rfl⟩
    ·replace hg := cond_f h18 hg
     refine sr_ 176 192 hU176_17 ?_
     refine c0_ rfl rfl r_eql rfl rfl ?_
     refine c0_ rfl rfl .assign rfl rfl ?_
     refine ch_n fun hU192_20 => ?_
     refine awp_cond rfl (fun h21 => ?_) (fun h21 => ?_)
     ·replace hg := cond_t h21 hg
      refine awp_seq ?_
      refine awp_draw (sys _ _ []) (by kernel_rfl) [0, 1, 3, 7, 15, 7, 7, 71, 231, 487, 999, 2047, 4095, 8191] 192 304 hU192_20 rfl rfl (by kernel_rfl) ?_
      refine c0_ rfl rfl .move rfl rfl ?_
      refine c0_ rfl rfl r_not rfl rfl ?_
      refine c0_ rfl rfl .move rfl rfl ?_
      rcases Bool.eq_false_or_eq_true (!(decide (i = (W ((l.length : Int) - 1))))) with h22 | h22
      ·replace hg := cond_t h22 hg
       refine c0_ (gdv_t rfl rfl h22) rfl (.fieldP fd45_1 ty9 (by decide)) rfl rfl ?_
       refine ch_s (rd := [80]) (gdv_t rfl rfl h22) rfl (.loadB1 ty9 rfl) rfl rfl ?_
       refine c0_ (gdv_t rfl rfl h22) rfl .move rfl rfl ?_
       refine c0_ (gdv_t rfl rfl h22) rfl .move rfl rfl ?_
       refine c0_ (gdv_t rfl rfl h22) rfl r_add rfl rfl ?_
       obtain ⟨e_3, he_3, hg⟩ := bind_some hg
       refine c0_ (gdv_t rfl rfl h22) rfl (r_idxS sl27 api_Certificate.enc_len (getI_ix he_3) (getI_at he_3)) rfl rfl ?_
       refine c0_ (gdv_t rfl rfl h22) rfl (r_fieldE fd45_2 ty9 (by decide) (enc_lt api_Certificate.enc_len (getI_at he_3) (o := 2) (by decide) rfl)) rfl rfl ?_
       refine c0_ (gdv_t rfl rfl h22) rfl (r_loadE1 ty9 (enc_cell api_Certificate.enc_len (getI_at he_3) (o := 2) (c := .str e_3.Subject) rfl rfl)) rfl rfl ?_
       refine c0_ (gdv_t rfl rfl h22) rfl r_sneq rfl rfl ?_
       refine c0_ rfl rfl (r_pickT h22) rfl rfl ?_
       refine c0_ rfl rfl .assign rfl rfl ?_
       refine ch_n fun hU304_23 => ?_
       refine aw_r ?_
       obtain rfl := Option.some.inj hg
       exact ⟨[_], _, [], [], .cons (.tmp rfl) .nil, ⟨rfl, rfl⟩, .val _, trivial, rfl, rfl, rfl, rfl⟩
      ·replace hg := cond_f h22 hg
       iterate 9 refine ch_skip (gdv_f rfl rfl h22) rfl ?_
       refine c0_ rfl rfl (r_pickF h22) rfl rfl ?_
       refine c0_ rfl rfl .assign rfl rfl ?_
       refine ch_n fun hU304_24 => ?_
       refine aw_r ?_
       obtain rfl := Option.some.inj hg
       exact ⟨[_], _, [], [], .cons (.tmp rfl) .nil, ⟨rfl, rfl⟩, .val _, trivial, rfl, rfl, rfl, rfl⟩
     ·replace hg := cond_f h21 hg
      refine sr_ 192 208 hU192_20 ?_
      refine c0_ rfl rfl r_eql rfl rfl ?_
      refine c0_ rfl rfl .assign rfl rfl ?_
      refine ch_n fun hU208_25 => ?_
      refine awp_cond rfl (fun h26 => ?_) (fun h26 => ?_)
      ·replace hg := cond_t h26 hg
       refine sr_ 208 248 hU208_25 ?_
       refine c0_ rfl rfl .move rfl rfl ?_
       refine c0_ rfl rfl .move rfl rfl ?_
       obtain ⟨y_4, hy_4, hg⟩ := bind_some hg
       refine ch_callP (rd := []) (ps := []) (gs := []) false rfl (w_ref04_Path l i _ hy_4) rfl rfl (.cons .sl (.cons .val .nil)) rfl rfl (by intro h; cases h) rfl rfl rfl rfl ?_
       refine c0_ rfl rfl r_not rfl rfl ?_
       refine c0_ rfl rfl .assign rfl rfl ?_
       refine ch_n fun hU248_27 => ?_
       refine aw_r ?_
       obtain rfl := Option.some.inj hg
       exact ⟨[_], _, [], [], .cons (.tmp rfl) .nil, ⟨rfl, rfl⟩, .val _, trivial, rfl, rfl, rfl, rfl⟩
      ·replace hg := cond_f h26 hg
       refine sr_ 208 224 hU208_25 ?_
       refine c0_ rfl rfl r_eql rfl rfl ?_
       refine c0_ rfl rfl .assign rfl rfl ?_
       refine ch_n fun hU224_28 => ?_
       refine awp_cond rfl (fun h29 => ?_) (fun h29 => ?_)
       ·replace hg := cond_t h29 hg
        refine awp_seq ?_
        refine sr_ 224 232 hU224_28 ?_
        refine c0_ rfl rfl .move rfl rfl ?_
        refine ch_n fun hU232_30 => ?_
        refine awp_cond rfl (fun h31 => ?_) (fun h31 => ?_)
        ·replace hg := cond_t h31 hg
         refine sr_ 232 288 hU232_30 ?_
         refine ch_s (rd := [80]) rfl rfl (.loadBA ty45 (Nat.le_of_ble_eq_true rfl)) rfl rfl ?_
         refine c0_ rfl rfl (.fieldP fd45_11 ty43 (by decide)) rfl rfl ?_
         refine c0_ rfl rfl (.fieldP fd43_0 ty3 (by decide)) rfl rfl ?_
         refine ch_s (rd := [80]) rfl rfl (.loadB1 ty3 rfl) rfl rfl ?_
         obtain ⟨y_5, hy_5, hg⟩ := bind_some hg
         refine ch_callP (rd := []) (ps := []) (gs := []) false rfl (w_ref03_Sealed e_2 e_2.Seal.Key _ hy_5) rfl rfl (.cons (.agg (.cons .val (.cons .val (.cons .val (.cons .val (.cons .val (.cons .val (.cons .val (.cons .val (.cons .val (.cons .val (.cons .val (.cons .val (.cons .sl (.cons .val (.cons .val .nil)))))))))))))))) (.cons .val .nil)) rfl rfl (by intro h; cases h) rfl rfl rfl rfl ?_
         refine c0_ rfl rfl r_not rfl rfl ?_
         refine c0_ rfl rfl .assign rfl rfl ?_
         refine ch_n fun hU288_32 => ?_
         refine aw_r ?_
         obtain rfl := Option.some.inj hg
         exact ⟨[_], _, [], [], .cons (.tmp rfl) .nil, ⟨rfl, rfl⟩, .val _, trivial, rfl, rfl, rfl, rfl⟩
        ·replace hg := cond_f h31 hg
         refine aw_s ?_
         refine awp_seq ?_
         refine awp_draw (sys _ _ []) (by kernel_rfl) [0, 0, 0, 4, 14, 30, 62, 127, 255, 511] 232 312 hU232_30 rfl rfl (by kernel_rfl) ?_
         refine ch_s (rd := [80]) rfl rfl (.loadBA ty45 (Nat.le_of_ble_eq_true rfl)) rfl rfl ?_
         refine c0_ rfl rfl .move rfl rfl ?_
         refine c0_ rfl rfl .move rfl rfl ?_
         refine c0_ rfl rfl r_add rfl rfl ?_
         obtain ⟨e_4, he_4, hg⟩ := bind_some hg
         refine c0_ rfl rfl (r_idxS sl27 api_Certificate.enc_len (getI_ix he_4) (getI_at he_4)) rfl rfl ?_
         refine c0_ rfl rfl (r_fieldE fd45_4 ty3 (by decide) (enc_lt api_Certificate.enc_len (getI_at he_4) (o := 5) (by decide) rfl)) rfl rfl ?_
         refine c0_ rfl rfl (r_loadE1 ty3 (enc_cell api_Certificate.enc_len (getI_at he_4) (o := 5) (c := .int .i64 e_4.KeyId) rfl rfl)) rfl rfl ?_
         obtain ⟨y_6, hy_6, hg⟩ := bind_some hg
         refine ch_callP (rd := []) (ps := []) (gs := []) false rfl (w_ref03_Sealed e_2 e_4.KeyId _ hy_6) rfl rfl (.cons (.agg (.cons .val (.cons .val (.cons .val (.cons .val (.cons .val (.cons .val (.cons .val (.cons .val (.cons .val (.cons .val (.cons .val (.cons .val (.cons .sl (.cons .val (.cons .val .nil)))))))))))))))) (.cons .val .nil)) rfl rfl (by intro h; cases h) rfl rfl rfl rfl ?_
         refine c0_ rfl rfl r_not rfl rfl ?_
         refine c0_ rfl rfl .assign rfl rfl ?_
         refine ch_n fun hU312_33 => ?_
         refine aw_r ?_
         obtain rfl := Option.some.inj hg
         exact ⟨[_], _, [], [], .cons (.tmp rfl) .nil, ⟨rfl, rfl⟩, .val _, trivial, rfl, rfl, rfl, rfl⟩
       ·replace hg := cond_f h29 hg
        refine aw_s ?_
        refine sr_ 224 304 hU224_28 ?_
        refine c0_ rfl rfl .move rfl rfl ?_
        refine c0_ rfl rfl .move rfl rfl ?_
        rcases Bool.eq_false_or_eq_true (decide (i = (W ((l.length : Int) - 1)))) with h34 | h34
        ·replace hg := cond_t h34 hg
         refine c0_ (gdv_t rfl rfl h34) rfl .move rfl rfl ?_
         refine c0_ (gdv_t rfl rfl h34) rfl (.fieldP fd45_11 ty43 (by decide)) rfl rfl ?_
         refine c0_ (gdv_t rfl rfl h34) rfl (.fieldP fd43_0 ty3 (by decide)) rfl rfl ?_
         refine ch_s (rd := [80]) (gdv_t rfl rfl h34) rfl (.loadB1 ty3 rfl) rfl rfl ?_
         obtain ⟨y_7, hy_7, hg⟩ := bind_some hg
         refine ch_callP (rd := []) (ps := []) (gs := []) false (gdv_t rfl rfl h34) (w_ref02_Has anchors e_2.Seal.Key _ hy_7) rfl rfl (.cons .sl (.cons .val .nil)) rfl rfl (by intro h; cases h) rfl rfl rfl rfl ?_
         refine c0_ (gdv_t rfl rfl h34) rfl r_not rfl rfl ?_
         refine c0_ rfl rfl (r_pickT h34) rfl rfl ?_
         refine c0_ rfl rfl .assign rfl rfl ?_
         refine ch_n fun hU304_35 => ?_
         refine aw_r ?_
         obtain rfl := Option.some.inj hg
         exact ⟨[_], _, [], [], .cons (.tmp rfl) .nil, ⟨rfl, rfl⟩, .val _, trivial, rfl, rfl, rfl, rfl⟩
        ·replace hg := cond_f h34 hg
         iterate 6 refine ch_skip (gdv_f rfl rfl h34) rfl ?_
         refine c0_ rfl rfl (r_pickF h34) rfl rfl ?_
         refine c0_ rfl rfl .assign rfl rfl ?_
         refine ch_n fun hU304_36 => ?_
         refine aw_r ?_
         obtain rfl := Option.some.inj hg
         exact ⟨[_], _, [], [], .cons (.tmp rfl) .nil, ⟨rfl, rfl⟩, .val _, trivial, rfl, rfl, rfl, rfl⟩
theorem w_ref04_Check (l : (List api_Certificate)) (anchors : (List Int)) (hashes : (List Int)) (day : Int) (name : ByteArray) (r : Int) (hg : g_ref04_Check l anchors hashes day name = some r) : Fn Try.prog 18 0 [.sl 15 (encL api_Certificate.enc l), .sl 1 (encL eI anchors), .sl 1 (encL eI hashes), .val (.int .i64 day), .val (.string name)] [] (fun d b => d = .val (.int .i64 r) ∧ b = []) := by
 unfold g_ref04_Check at hg
 refine Fn.of Try.func18 rfl rfl rfl fun w0 I ρ0 => ?_
 show awp _ ⟨w0, I, ρ0, 0, 0, 48⟩ _ _ _
 refine sr_ 0 8 mk_U ?_
 refine c0_ rfl rfl .assign rfl rfl ?_
 refine ch_n fun hU8_1 => ?_
 refine awp_seq ?_
 refine sr_ 8 32 hU8_1 ?_
 refine c0_ rfl rfl .move rfl rfl ?_
 refine c0_ rfl rfl (r_lenS sl27 api_Certificate.enc_len) rfl rfl ?_
 refine c0_ rfl rfl r_eql rfl rfl ?_
 refine ch_n fun hU32_2 => ?_
 refine awp_cond rfl (fun h3 => ?_) (fun h3 => ?_)
 ·replace hg := cond_t h3 hg
  refine sr_ 32 40 hU32_2 ?_
  refine c0_ rfl rfl .assign rfl rfl ?_
  refine ch_n fun hU40_4 => ?_
  refine aw_r ?_
  obtain rfl := Option.some.inj hg
  exact ⟨[_], _, [], [], .cons (.tmp rfl) .nil, ⟨rfl, rfl⟩, .val _, trivial, rfl, rfl, rfl, rfl⟩
 ·replace hg := cond_f h3 hg
  refine aw_s ?_
  refine awp_seq ?_
  refine sr_ 32 56 hU32_2 ?_
  refine c0_ rfl rfl .move rfl rfl ?_
  refine c0_ rfl rfl (r_lenS sl27 api_Certificate.enc_len) rfl rfl ?_
  refine c0_ rfl rfl r_gtr rfl rfl ?_
  refine ch_n fun hU56_5 => ?_
  refine awp_cond rfl (fun h6 => ?_) (fun h6 => ?_)
  ·replace hg := cond_t h6 hg
   refine sr_ 56 64 hU56_5 ?_
   refine c0_ rfl rfl .assign rfl rfl ?_
   refine ch_n fun hU64_7 => ?_
   refine aw_r ?_
   obtain rfl := Option.some.inj hg
   exact ⟨[_], _, [], [], .cons (.tmp rfl) .nil, ⟨rfl, rfl⟩, .val _, trivial, rfl, rfl, rfl, rfl⟩
  ·replace hg := cond_f h6 hg
   refine aw_s ?_
   refine sr_ 56 72 hU56_5 ?_
   refine c0_ rfl rfl (r_buildFull sl70 z35 (by decide) rfl rfl rfl rfl ck35 (cs := [.int .i64 9, .int .i64 14, .int .i64 13, .int .i64 7, .int .i64 11, .int .i64 15, .int .i64 10, .int .i64 12]) (.cons .int (.cons .int (.cons .int (.cons .int (.cons .int (.cons .int (.cons .int (.cons .int .nil)))))))) rfl (l := ([9, 14, 13, 7, 11, 15, 10, 12] : List Int)) (f := eI) rfl) rfl rfl ?_
   refine c0_ rfl rfl .assign rfl rfl ?_
   refine ch_n fun hU72_8 => ?_
   refine awp_seq ?_
   refine sr_ 72 80 hU72_8 ?_
   refine c0_ rfl rfl .assign rfl rfl ?_
   refine ch_n fun hU80_9 => ?_
   refine awp_block ?_
   obtain ⟨n1, hg⟩ := loop_some hg
   refine awp_loop (ι := (Int) × Nat) (fun ((k_1, _) : (Int) × Nat) => mk [(0, .sl 15 (encL api_Certificate.enc l)), (1, .sl 1 (encL eI anchors)), (2, .sl 1 (encL eI hashes)), (3, .val (.int .i64 day)), (4, .val (.string name)), (11, .row 0), (12, .val (.int .i64 k_1))] [(0, .row 35 1 (encL eI ([9, 14, 13, 7, 11, 15, 10, 12] : List Int)))] 1) (fun ((k_1, nq') : (Int) × Nat) => iter (fun q' => g_ref04_Check.l1 l anchors hashes day name q') nq' k_1 = some r) (fun q => q.2) (0, n1) (Sub.lists [(0, 56)] rfl rfl ⟨⟨_, rfl, .sl _ _⟩, ⟨_, rfl, .sl _ _⟩, ⟨_, rfl, .sl _ _⟩, ⟨_, rfl, .val _⟩, ⟨_, rfl, .val _⟩, ⟨_, rfl, .row rfl⟩, ⟨_, rfl, .val _⟩, trivial⟩ ⟨.inl ⟨56, _, rfl, rfl, ⟨rfl, rfl, rfl⟩⟩, trivial⟩) hg ?_
   rintro ⟨k_1, n1⟩ hg
   obtain ⟨m1, o1, rfl, hg, hn1⟩ := iter_some (show iter (fun q' => g_ref04_Check.l1 l anchors hashes day name q') n1 k_1 = some r from hg)
   replace hg : g_ref04_Check.l1 l anchors hashes day name k_1 = some o1 := hg
   show awp _ _ _ _ (mk _ _ _)
   unfold g_ref04_Check.l1 at hg
   refine awp_seq ?_
   refine sr_ 1 33 mk_U ?_
   refine c0_ rfl rfl .move rfl rfl ?_
   refine c0_ rfl rfl .move rfl rfl ?_
   refine ch_s (rd := [0]) rfl rfl (r_lenR sl70 eI_len) rfl rfl ?_
   refine c0_ rfl rfl r_lss rfl rfl ?_
   refine ch_n fun hU33_10 => ?_
   refine awp_cond rfl (fun h11 => ?_) (fun h11 => ?_)
   ·replace hg := cond_t h11 hg
    refine aw_s ?_
    refine awp_seq ?_
    refine awp_block ?_
    refine sr_ 33 41 hU33_10 ?_
    refine c0_ rfl rfl .assign rfl rfl ?_
    refine ch_n fun hU41_12 => ?_
    refine awp_block ?_
    obtain ⟨n2, hg⟩ := loop_some hg
    refine awp_loop (ι := (Int) × Nat) (fun ((i_2, _) : (Int) × Nat) => mk [(0, .sl 15 (encL api_Certificate.enc l)), (1, .sl 1 (encL eI anchors)), (2, .sl 1 (encL eI hashes)), (3, .val (.int .i64 day)), (4, .val (.string name)), (11, .row 0), (12, .val (.int .i64 k_1)), (13, .val (.int .i64 i_2))] [(0, .row 35 1 (encL eI ([9, 14, 13, 7, 11, 15, 10, 12] : List Int)))] 1) (fun ((i_2, nq') : (Int) × Nat) => iter (fun q' => g_ref04_Check.l2 l anchors hashes day name k_1 q') nq' i_2 = some o1) (fun q => q.2) (0, n2) (Sub.lists [(0, 0)] rfl rfl ⟨⟨_, rfl, .sl _ _⟩, ⟨_, rfl, .sl _ _⟩, ⟨_, rfl, .sl _ _⟩, ⟨_, rfl, .val _⟩, ⟨_, rfl, .val _⟩, ⟨_, rfl, .row rfl⟩, ⟨_, rfl, .val _⟩, ⟨_, rfl, .val _⟩, trivial⟩ ⟨.inl ⟨0, _, rfl, rfl, ⟨rfl, rfl, rfl⟩⟩, trivial⟩) hg ?_
    rintro ⟨i_2, n2⟩ hg
    obtain ⟨m2, o2, rfl, hg, hn2⟩ := iter_some (show iter (fun q' => g_ref04_Check.l2 l anchors hashes day name k_1 q') n2 i_2 = some o1 from hg)
    replace hg : g_ref04_Check.l2 l anchors hashes day name k_1 i_2 = some o2 := hg
    show awp _ _ _ _ (mk _ _ _)
    unfold g_ref04_Check.l2 at hg
    refine awp_seq ?_
    refine sr_ 1 33 mk_U ?_
    refine c0_ rfl rfl .move rfl rfl ?_
    refine c0_ rfl rfl .move rfl rfl ?_
    refine c0_ rfl rfl (r_lenS sl27 api_Certificate.enc_len) rfl rfl ?_
    refine c0_ rfl rfl r_lss rfl rfl ?_
    refine ch_n fun hU33_13 => ?_
    refine awp_cond rfl (fun h14 => ?_) (fun h14 => ?_)
    ·replace hg := cond_t h14 hg
     refine aw_s ?_
     refine awp_seq ?_
     refine awp_block ?_
     refine sr_ 33 121 hU33_13 ?_
     refine c0_ rfl rfl .move rfl rfl ?_
     refine c0_ rfl rfl .move rfl rfl ?_
     obtain ⟨e, he, hg⟩ := bind_some hg
     refine ch_s (rd := [0]) rfl rfl (r_idxR sl70 eI_len (getI_ix he) (getI_at he)) rfl rfl ?_
     refine ch_s (rd := [0]) rfl rfl (.loadR1 ty35 (enc_cell eI_len (getI_at he) (o := 0) (c := .int .i64 e) rfl rfl)) rfl rfl ?_
     iterate 6 refine c0_ rfl rfl .move rfl rfl ?_
     obtain ⟨y, hy, hg⟩ := bind_some hg
     refine ch_callP (rd := []) (ps := []) (gs := []) false rfl (w_ref04_wrong e l i_2 anchors hashes day name _ hy) rfl rfl (.cons .val (.cons .sl (.cons .val (.cons .sl (.cons .sl (.cons .val (.cons .val .nil))))))) rfl rfl (by intro h; cases h) rfl rfl rfl rfl ?_
     refine ch_n fun hU121_15 => ?_
     refine awp_cond rfl (fun h16 => ?_) (fun h16 => ?_)
     ·replace hg := cond_t h16 hg
      refine sr_ 121 161 hU121_15 ?_
      refine c0_ rfl rfl .move rfl rfl ?_
      refine c0_ rfl rfl .move rfl rfl ?_
      refine ch_s (rd := [0]) rfl rfl (r_idxR sl70 eI_len (getI_ix he) (getI_at he)) rfl rfl ?_
      refine ch_s (rd := [0]) rfl rfl (.loadR1 ty35 (enc_cell eI_len (getI_at he) (o := 0) (c := .int .i64 e) rfl rfl)) rfl rfl ?_
      refine c0_ rfl rfl .assign rfl rfl ?_
      refine ch_n fun hU161_17 => ?_
      refine aw_r ?_
      replace hg := leave hg hn2
      replace hg := leave hg hn1
      obtain rfl := Option.some.inj hg
      exact ⟨[_], _, [], [], .cons (.tmp rfl) .nil, ⟨rfl, rfl⟩, .val _, trivial, rfl, rfl, rfl, rfl⟩
     ·replace hg := cond_f h16 hg
      refine aw_s ?_
      refine awp_region (sys _ _ []) 121 145 hU121_15 rfl rfl ?_
      refine c0_ rfl rfl .move rfl rfl ?_
      refine c0_ rfl rfl r_add rfl rfl ?_
      refine c0_ rfl rfl .assign rfl rfl ?_
      refine ch_n fun hU145_18 => ?_
      obtain rfl := Option.some.inj hg
      exact ⟨(W (i_2 + 1), m2), Nat.lt_succ_self _, hn2, Sub.lists [(0, 0)] rfl rfl ⟨⟨_, rfl, .sl _ _⟩, ⟨_, rfl, .sl _ _⟩, ⟨_, rfl, .sl _ _⟩, ⟨_, rfl, .val _⟩, ⟨_, rfl, .val _⟩, ⟨_, rfl, .row rfl⟩, ⟨_, rfl, .val _⟩, ⟨_, rfl, .val _⟩, trivial⟩ ⟨.inl ⟨0, _, rfl, rfl, ⟨rfl, rfl, rfl⟩⟩, trivial⟩⟩
    ·replace hg := cond_f h14 hg
     refine awp_exit ?_
     repeat first | refine st_ ?_ | refine sn_ ?_
     replace hg := leave hg hn2
     refine awp_region (sys _ _ []) 33 57 hU33_13 rfl rfl ?_
     refine c0_ rfl rfl .move rfl rfl ?_
     refine c0_ rfl rfl r_add rfl rfl ?_
     refine c0_ rfl rfl .assign rfl rfl ?_
     refine ch_n fun hU57_19 => ?_
     obtain rfl := Option.some.inj hg
     exact ⟨(W (k_1 + 1), m1), Nat.lt_succ_self _, hn1, Sub.lists [(0, 0)] rfl rfl ⟨⟨_, rfl, .sl _ _⟩, ⟨_, rfl, .sl _ _⟩, ⟨_, rfl, .sl _ _⟩, ⟨_, rfl, .val _⟩, ⟨_, rfl, .val _⟩, ⟨_, rfl, .row rfl⟩, ⟨_, rfl, .val _⟩, trivial⟩ ⟨.inl ⟨0, _, rfl, rfl, ⟨rfl, rfl, rfl⟩⟩, trivial⟩⟩
   ·replace hg := cond_f h11 hg
    refine awp_exit ?_
    repeat first | refine st_ ?_ | refine sn_ ?_
    replace hg := leave hg hn1
    refine sr_ 33 41 hU33_10 ?_
    refine c0_ rfl rfl .assign rfl rfl ?_
    refine ch_n fun hU41_20 => ?_
    refine aw_r ?_
    obtain rfl := Option.some.inj hg
    exact ⟨[_], _, [], [], .cons (.tmp rfl) .nil, ⟨rfl, rfl⟩, .val _, trivial, rfl, rfl, rfl, rfl⟩
theorem w_ref04_Until (l : (List api_Certificate)) (r : Int) (hg : g_ref04_Until l = some r) : Fn Try.prog 20 0 [.sl 15 (encL api_Certificate.enc l)] [] (fun d b => d = .val (.int .i64 r) ∧ b = []) := by
 unfold g_ref04_Until at hg
 refine Fn.of Try.func20 rfl rfl rfl fun w0 I ρ0 => ?_
 show awp _ ⟨w0, I, ρ0, 0, 0, 26⟩ _ _ _
 refine sr_ 0 8 mk_U ?_
 refine c0_ rfl rfl .assign rfl rfl ?_
 refine ch_n fun hU8_1 => ?_
 refine awp_seq ?_
 refine sr_ 8 32 hU8_1 ?_
 refine c0_ rfl rfl .move rfl rfl ?_
 refine c0_ rfl rfl (r_lenS sl27 api_Certificate.enc_len) rfl rfl ?_
 refine c0_ rfl rfl r_eql rfl rfl ?_
 refine ch_n fun hU32_2 => ?_
 refine awp_cond rfl (fun h3 => ?_) (fun h3 => ?_)
 ·replace hg := cond_t h3 hg
  refine sr_ 32 40 hU32_2 ?_
  refine c0_ rfl rfl .assign rfl rfl ?_
  refine ch_n fun hU40_4 => ?_
  refine aw_r ?_
  obtain rfl := Option.some.inj hg
  exact ⟨[_], _, [], [], .cons (.tmp rfl) .nil, ⟨rfl, rfl⟩, .val _, trivial, rfl, rfl, rfl, rfl⟩
 ·replace hg := cond_f h3 hg
  refine aw_s ?_
  refine sr_ 32 72 hU32_2 ?_
  refine c0_ rfl rfl .move rfl rfl ?_
  obtain ⟨e, he, hg⟩ := bind_some hg
  refine c0_ rfl rfl (r_idxS sl27 api_Certificate.enc_len (getI_ix he) (getI_at he)) rfl rfl ?_
  refine c0_ rfl rfl (r_fieldE fd45_7 ty3 (by decide) (enc_lt api_Certificate.enc_len (getI_at he) (o := 9) (by decide) rfl)) rfl rfl ?_
  refine c0_ rfl rfl (r_loadE1 ty3 (enc_cell api_Certificate.enc_len (getI_at he) (o := 9) (c := .int .i64 e.To) rfl rfl)) rfl rfl ?_
  refine c0_ rfl rfl .assign rfl rfl ?_
  refine ch_n fun hU72_5 => ?_
  refine awp_seq ?_
  refine sr_ 72 80 hU72_5 ?_
  refine c0_ rfl rfl .assign rfl rfl ?_
  refine ch_n fun hU80_6 => ?_
  refine awp_block ?_
  obtain ⟨n1, hg⟩ := loop_some hg
  refine awp_loop (ι := (Int × Int) × Nat) (fun (((n_1, i_1), _) : (Int × Int) × Nat) => mk [(0, .sl 15 (encL api_Certificate.enc l)), (3, .val (.int .i64 n_1)), (4, .val (.int .i64 i_1))] [] 0) (fun (((n_1, i_1), nq') : (Int × Int) × Nat) => iter (fun q' => g_ref04_Until.l1 l q'.1 q'.2) nq' (n_1, i_1) = some r) (fun q => q.2) ((e.To, 1), n1) (Sub.lists [] rfl rfl ⟨⟨_, rfl, .sl _ _⟩, ⟨_, rfl, .val _⟩, ⟨_, rfl, .val _⟩, trivial⟩ trivial) hg ?_
  rintro ⟨⟨n_1, i_1⟩, n1⟩ hg
  obtain ⟨m1, o1, rfl, hg, hn1⟩ := iter_some (show iter (fun q' => g_ref04_Until.l1 l q'.1 q'.2) n1 (n_1, i_1) = some r from hg)
  replace hg : g_ref04_Until.l1 l n_1 i_1 = some o1 := hg
  show awp _ _ _ _ (mk _ _ _)
  unfold g_ref04_Until.l1 at hg
  refine awp_seq ?_
  refine sr_ 0 32 mk_U ?_
  refine c0_ rfl rfl .move rfl rfl ?_
  refine c0_ rfl rfl .move rfl rfl ?_
  refine c0_ rfl rfl (r_lenS sl27 api_Certificate.enc_len) rfl rfl ?_
  refine c0_ rfl rfl r_lss rfl rfl ?_
  refine ch_n fun hU32_7 => ?_
  refine awp_cond rfl (fun h8 => ?_) (fun h8 => ?_)
  ·replace hg := cond_t h8 hg
   refine aw_s ?_
   refine awp_seq ?_
   refine awp_block ?_
   refine awp_region (sys _ _ []) 32 96 hU32_7 rfl rfl ?_
   iterate 3 refine c0_ rfl rfl .move rfl rfl ?_
   obtain ⟨e_2, he_2, hg⟩ := bind_some hg
   refine c0_ rfl rfl (r_idxS sl27 api_Certificate.enc_len (getI_ix he_2) (getI_at he_2)) rfl rfl ?_
   refine c0_ rfl rfl (r_fieldE fd45_7 ty3 (by decide) (enc_lt api_Certificate.enc_len (getI_at he_2) (o := 9) (by decide) rfl)) rfl rfl ?_
   refine c0_ rfl rfl (r_loadE1 ty3 (enc_cell api_Certificate.enc_len (getI_at he_2) (o := 9) (c := .int .i64 e_2.To) rfl rfl)) rfl rfl ?_
   refine c0_ rfl rfl r_min rfl rfl ?_
   refine c0_ rfl rfl .assign rfl rfl ?_
   refine ch_n fun hU96_9 => ?_
   refine awp_region (sys _ _ []) 96 120 hU96_9 rfl rfl ?_
   refine c0_ rfl rfl .move rfl rfl ?_
   refine c0_ rfl rfl r_add rfl rfl ?_
   refine c0_ rfl rfl .assign rfl rfl ?_
   refine ch_n fun hU120_10 => ?_
   obtain rfl := Option.some.inj hg
   exact ⟨((min n_1 e_2.To, W (i_1 + 1)), m1), Nat.lt_succ_self _, hn1, Sub.lists [] rfl rfl ⟨⟨_, rfl, .sl _ _⟩, ⟨_, rfl, .val _⟩, ⟨_, rfl, .val _⟩, trivial⟩ trivial⟩
  ·replace hg := cond_f h8 hg
   refine awp_exit ?_
   repeat first | refine st_ ?_ | refine sn_ ?_
   replace hg := leave hg hn1
   refine sr_ 32 48 hU32_7 ?_
   refine c0_ rfl rfl .move rfl rfl ?_
   refine c0_ rfl rfl .assign rfl rfl ?_
   refine ch_n fun hU48_11 => ?_
   refine aw_r ?_
   obtain rfl := Option.some.inj hg
   exact ⟨[_], _, [], [], .cons (.tmp rfl) .nil, ⟨rfl, rfl⟩, .val _, trivial, rfl, rfl, rfl, rfl⟩
theorem w_make_Light (l : (List Int)) (r : Bool) (hg : g_make_Light l = some r) : Fn Try.prog 7 0 [.sl 1 (encL eI l)] [] (fun d b => d = .val (.bool r) ∧ b = []) := by
 unfold g_make_Light at hg
 refine Fn.of Try.func7 rfl rfl rfl fun w0 I ρ0 => ?_
 show awp _ ⟨w0, I, ρ0, 0, 0, 6⟩ _ _ _
 refine sr_ 0 8 mk_U ?_
 refine c0_ rfl rfl .assign rfl rfl ?_
 refine ch_n fun hU8_1 => ?_
 refine sr_ 8 40 hU8_1 ?_
 refine c0_ rfl rfl .move rfl rfl ?_
 refine c0_ rfl rfl (r_lenS sl22 eI_len) rfl rfl ?_
 refine c0_ rfl rfl r_leq rfl rfl ?_
 refine c0_ rfl rfl .assign rfl rfl ?_
 refine ch_n fun hU40_2 => ?_
 refine aw_r ?_
 obtain rfl := Option.some.inj hg
 exact ⟨[_], _, [], [], .cons (.tmp rfl) .nil, ⟨rfl, rfl⟩, .val _, trivial, rfl, rfl, rfl, rfl⟩
theorem w_make_Roll (l : (List Int)) (r : cipherplanmake_Dice) (hg : g_make_Roll l = some r) : Fn Try.prog 9 0 [.sl 1 (encL eI l)] [] (fun d b => d = .ptr 0 0 ∧ b = [.box [.sl 1 (encL eI r.L), .val (.int .i64 r.At)] 58]) := by
 unfold g_make_Roll at hg
 refine Fn.of Try.func9 rfl rfl rfl fun w0 I ρ0 => ?_
 show awp _ ⟨w0, I, ρ0, 0, 0, 6⟩ _ _ _
 refine sr_ 0 8 mk_U ?_
 refine c0_ rfl rfl .assign rfl rfl ?_
 refine ch_n fun hU8_1 => ?_
 refine sr_ 8 40 hU8_1 ?_
 refine c0_ rfl rfl .move rfl rfl ?_
 refine c0_ rfl rfl (.build (r := [.sl 1 (encL eI l), .val (.int .i64 0)]) und58 pl58 z58 (by kernel_rfl) rfl) rfl rfl ?_
 refine c0_ rfl rfl (.box rfl) rfl rfl ?_
 refine c0_ rfl rfl .assign rfl rfl ?_
 refine ch_n fun hU40_2 => ?_
 refine aw_r ?_
 obtain rfl := Option.some.inj hg
 exact ⟨[_], _, [_], [(0, 24)], .cons (.tmp rfl) .nil, ⟨rfl, rfl⟩, .ptr rfl, ⟨.inl ⟨24, _, rfl, rfl, ⟨rfl, .cons (.sl _ _) (.cons (.val _) .nil)⟩⟩, trivial⟩, rfl, rfl, rfl, rfl⟩
theorem w_make_Mod (n : Int) (k : Int) (r : Int) (hg : g_make_Mod n k = some r) : Fn Try.prog 29 0 [.val (.int .i64 n), .val (.int .i64 k)] [] (fun d b => d = .val (.int .i64 r) ∧ b = []) := by
 unfold g_make_Mod at hg
 refine Fn.of Try.func29 rfl rfl rfl fun w0 I ρ0 => ?_
 show awp _ ⟨w0, I, ρ0, 0, 0, 14⟩ _ _ _
 refine sr_ 0 8 mk_U ?_
 refine c0_ rfl rfl .assign rfl rfl ?_
 refine ch_n fun hU8_1 => ?_
 refine awp_seq ?_
 refine sr_ 8 24 hU8_1 ?_
 refine c0_ rfl rfl .move rfl rfl ?_
 refine c0_ rfl rfl r_lss rfl rfl ?_
 refine ch_n fun hU24_2 => ?_
 refine awp_cond rfl (fun h3 => ?_) (fun h3 => ?_)
 ·replace hg := cond_t h3 hg
  refine sr_ 24 32 hU24_2 ?_
  refine c0_ rfl rfl .assign rfl rfl ?_
  refine ch_n fun hU32_4 => ?_
  refine aw_r ?_
  obtain rfl := Option.some.inj hg
  exact ⟨[_], _, [], [], .cons (.tmp rfl) .nil, ⟨rfl, rfl⟩, .val _, trivial, rfl, rfl, rfl, rfl⟩
 ·replace hg := cond_f h3 hg
  refine aw_s ?_
  refine sr_ 24 88 hU24_2 ?_
  refine c0_ rfl rfl .move rfl rfl ?_
  refine c0_ rfl rfl .move rfl rfl ?_
  obtain ⟨q, hq, hg⟩ := bind_some hg
  refine c0_ rfl rfl (r_rem hq) rfl rfl ?_
  refine c0_ rfl rfl .move rfl rfl ?_
  refine c0_ rfl rfl r_add rfl rfl ?_
  refine c0_ rfl rfl .move rfl rfl ?_
  obtain ⟨q_2, hq_2, hg⟩ := bind_some hg
  refine c0_ rfl rfl (r_rem hq_2) rfl rfl ?_
  refine c0_ rfl rfl .assign rfl rfl ?_
  refine ch_n fun hU88_5 => ?_
  refine aw_r ?_
  obtain rfl := Option.some.inj hg
  exact ⟨[_], _, [], [], .cons (.tmp rfl) .nil, ⟨rfl, rfl⟩, .val _, trivial, rfl, rfl, rfl, rfl⟩
theorem w_make_Dice_Next (d : cipherplanmake_Dice) (n : Int) (r : Int × cipherplanmake_Dice) (hg : g_make_Dice_Next d n = some r) : Fn Try.prog 11 1 [.ptr 0 0, .val (.int .i64 n)] [.box [.sl 1 (encL eI d.L), .val (.int .i64 d.At)] 58] (fun d b => d = .val (.int .i64 r.1) ∧ b = [.box [.sl 1 (encL eI r.2.L), .val (.int .i64 r.2.At)] 58]) := by
 unfold g_make_Dice_Next at hg
 refine Fn.of Try.func11 rfl rfl rfl fun w0 I ρ0 => ?_
 show awp _ ⟨w0, I, ρ0, 1, 1, 35⟩ _ _ _
 refine sr_ 1 9 mk_U ?_
 refine c0_ rfl rfl .assign rfl rfl ?_
 refine ch_n fun hU9_1 => ?_
 refine awp_seq ?_
 refine awp_seq ?_
 refine awp_draw (sys _ _ []) (by kernel_rfl) [0, 1, 3, 7, 0, 16, 48, 112, 240, 511] 9 89 hU9_1 rfl rfl (by kernel_rfl) ?_
 refine c0_ rfl rfl .move rfl rfl ?_
 refine c0_ rfl rfl .nilP rfl rfl ?_
 refine c0_ rfl rfl (.fieldP fd58_1 ty3 (by decide)) rfl rfl ?_
 refine ch_s (rd := [0]) rfl rfl (.loadB1 ty3 rfl) rfl rfl ?_
 refine c0_ rfl rfl .move rfl rfl ?_
 refine c0_ rfl rfl .nilP rfl rfl ?_
 refine c0_ rfl rfl (.fieldP fd58_0 ty22 (by decide)) rfl rfl ?_
 refine ch_s (rd := [0]) rfl rfl (.loadB1 ty22 rfl) rfl rfl ?_
 refine c0_ rfl rfl (r_lenS sl22 eI_len) rfl rfl ?_
 refine c0_ rfl rfl r_geq rfl rfl ?_
 refine ch_n fun hU89_2 => ?_
 refine awp_cond rfl (fun h3 => ?_) (fun h3 => ?_)
 ·replace hg := cond_t h3 hg
  refine sr_ 89 97 hU89_2 ?_
  refine c0_ rfl rfl .assign rfl rfl ?_
  refine ch_n fun hU97_4 => ?_
  refine aw_r ?_
  obtain rfl := Option.some.inj hg
  exact ⟨[_], _, [_], [(0, 0)], .cons (.tmp rfl) .nil, ⟨rfl, rfl⟩, .val _, ⟨.inl ⟨0, _, rfl, rfl, ⟨rfl, .cons (.sl _ _) (.cons (.val _) .nil)⟩⟩, trivial⟩, rfl, rfl, rfl, rfl⟩
 ·replace hg := cond_f h3 hg
  refine aw_s ?_
  refine sr_ 89 153 hU89_2 ?_
  refine c0_ rfl rfl .move rfl rfl ?_
  refine c0_ rfl rfl .nilP rfl rfl ?_
  refine c0_ rfl rfl (.fieldP fd58_1 ty3 (by decide)) rfl rfl ?_
  refine ch_s (rd := [0]) rfl rfl (.loadB1 ty3 rfl) rfl rfl ?_
  refine c0_ rfl rfl r_add rfl rfl ?_
  refine c0_ rfl rfl .nilP rfl rfl ?_
  refine c0_ rfl rfl (.fieldP fd58_1 ty3 (by decide)) rfl rfl ?_
  refine ch_s (rd := [0]) rfl rfl (r_storeB (ds' := [.sl 1 (encL eI d.L), .val (.int .i64 (W (d.At + 1)))]) ty3 rfl (Nat.le_of_ble_eq_true rfl) rfl rfl) rfl rfl ?_
  refine ch_n fun hU153_5 => ?_
  refine awp_seq ?_
  refine awp_draw (sys _ _ []) (by kernel_rfl) [0, 1, 3, 7, 0, 16, 48, 112, 240, 511, 1023, 0, 4095, 8191] 153 265 hU153_5 rfl rfl (by kernel_rfl) ?_
  refine c0_ rfl rfl .move rfl rfl ?_
  refine c0_ rfl rfl .nilP rfl rfl ?_
  refine c0_ rfl rfl (.fieldP fd58_0 ty22 (by decide)) rfl rfl ?_
  refine ch_s (rd := [0]) rfl rfl (.loadB1 ty22 rfl) rfl rfl ?_
  refine c0_ rfl rfl .move rfl rfl ?_
  refine c0_ rfl rfl .nilP rfl rfl ?_
  refine c0_ rfl rfl (.fieldP fd58_1 ty3 (by decide)) rfl rfl ?_
  refine ch_s (rd := [0]) rfl rfl (.loadB1 ty3 rfl) rfl rfl ?_
  refine c0_ rfl rfl r_sub rfl rfl ?_
  obtain ⟨e, he, hg⟩ := bind_some hg
  refine c0_ rfl rfl (r_idxS sl22 eI_len (getI_ix he) (getI_at he)) rfl rfl ?_
  refine c0_ rfl rfl (r_loadE1 ty3 (enc_cell eI_len (getI_at he) (o := 0) (c := .int .i64 e) rfl rfl)) rfl rfl ?_
  refine c0_ rfl rfl .move rfl rfl ?_
  obtain ⟨y, hy, hg⟩ := bind_some hg
  refine ch_callP (rd := []) (ps := []) (gs := []) false rfl (w_make_Mod e n _ hy) rfl rfl (.cons .val (.cons .val .nil)) rfl rfl (by intro h; cases h) rfl rfl rfl rfl ?_
  refine c0_ rfl rfl .assign rfl rfl ?_
  refine ch_n fun hU265_6 => ?_
  refine aw_r ?_
  obtain rfl := Option.some.inj hg
  exact ⟨[_], _, [_], [(0, 0)], .cons (.tmp rfl) .nil, ⟨rfl, rfl⟩, .val _, ⟨.inl ⟨0, _, rfl, rfl, ⟨rfl, .cons (.sl _ _) (.cons (.val _) .nil)⟩⟩, trivial⟩, rfl, rfl, rfl, rfl⟩
theorem w_make_Dice_Of (d : cipherplanmake_Dice) (l : (List Int)) (r : Int × cipherplanmake_Dice) (hg : g_make_Dice_Of d l = some r) : Fn Try.prog 15 1 [.ptr 0 0, .sl 1 (encL eI l)] [.box [.sl 1 (encL eI d.L), .val (.int .i64 d.At)] 58] (fun d b => d = .val (.int .i64 r.1) ∧ b = [.box [.sl 1 (encL eI r.2.L), .val (.int .i64 r.2.At)] 58]) := by
 unfold g_make_Dice_Of at hg
 refine Fn.of Try.func15 rfl rfl rfl fun w0 I ρ0 => ?_
 show awp _ ⟨w0, I, ρ0, 1, 1, 12⟩ _ _ _
 refine sr_ 1 9 mk_U ?_
 refine c0_ rfl rfl .assign rfl rfl ?_
 refine ch_n fun hU9_1 => ?_
 refine sr_ 9 73 hU9_1 ?_
 iterate 3 refine c0_ rfl rfl .move rfl rfl ?_
 refine c0_ rfl rfl (r_lenS sl22 eI_len) rfl rfl ?_
 obtain ⟨y, hy, hg⟩ := bind_some hg
 refine ch_callP (rd := [0]) (ps := [0]) (gs := []) false rfl (w_make_Dice_Next d (l.length : Int) _ hy) rfl rfl (.cons (.ptr rfl) (.cons .val .nil)) ⟨_, _, _, rfl, .head _, ⟨_, rfl, (by repeat' (first | exact AgL.nil | apply AgL.cons | exact Ag.val | exact Ag.sl | exact Ag.nils))⟩, rfl⟩ rfl (by intro h; cases h) rfl rfl rfl rfl ?_
 obtain ⟨e, he, hg⟩ := bind_some hg
 refine c0_ rfl rfl (r_idxS sl22 eI_len (getI_ix he) (getI_at he)) rfl rfl ?_
 refine c0_ rfl rfl (r_loadE1 ty3 (enc_cell eI_len (getI_at he) (o := 0) (c := .int .i64 e) rfl rfl)) rfl rfl ?_
 refine c0_ rfl rfl .assign rfl rfl ?_
 refine ch_n fun hU73_2 => ?_
 refine aw_r ?_
 obtain rfl := Option.some.inj hg
 exact ⟨[_], _, [_], [(0, 0)], .cons (.tmp rfl) .nil, ⟨rfl, rfl⟩, .val _, ⟨.inl ⟨0, _, rfl, rfl, ⟨rfl, .cons (.sl _ _) (.cons (.val _) .nil)⟩⟩, trivial⟩, rfl, rfl, rfl, rfl⟩
theorem w_make_size (d : cipherplanmake_Dice) (a : Int) (r : Int × cipherplanmake_Dice) (hg : g_make_size d a = some r) : Fn Try.prog 40 1 [.ptr 0 0, .val (.int .i64 a)] [.box [.sl 1 (encL eI d.L), .val (.int .i64 d.At)] 58] (fun d b => d = .val (.int .i64 r.1) ∧ b = [.box [.sl 1 (encL eI r.2.L), .val (.int .i64 r.2.At)] 58]) := by
 unfold g_make_size at hg
 refine Fn.of Try.func40 rfl rfl rfl fun w0 I ρ0 => ?_
 show awp _ ⟨w0, I, ρ0, 1, 1, 46⟩ _ _ _
 refine sr_ 1 9 mk_U ?_
 refine c0_ rfl rfl .assign rfl rfl ?_
 refine ch_n fun hU9_1 => ?_
 refine awp_seq ?_
 refine sr_ 9 17 hU9_1 ?_
 refine c0_ rfl rfl .move rfl rfl ?_
 refine ch_n fun hU17_2 => ?_
 refine awp_block ?_
 refine awp_cut (ι := Bool) (fun (x6_1 : Bool) => mk [(0, .ptr 0 0), (5, .val (.int .i64 a)), (6, .val (.bool x6_1))] [(0, .box [.sl 1 (encL eI d.L), .val (.int .i64 d.At)] 58)] 1) (fun (x6_1 : Bool) => g_make_size.j1 d a x6_1 = some r) ?_ ?_
 ·refine awp_seq ?_
  refine awp_region (sys _ _ []) 17 33 hU17_2 rfl rfl ?_
  refine c0_ rfl rfl r_eql rfl rfl ?_
  refine c0_ rfl rfl .assign rfl rfl ?_
  refine ch_n fun hU33_3 => ?_
  refine awp_cond rfl (fun h4 => ?_) (fun h4 => ?_)
  ·replace hg := cond_t h4 hg
   refine aw_s ?_
   exact ⟨decide (a = 5), hg, Sub.lists [(0, 0)] rfl rfl ⟨⟨_, rfl, .ptr rfl⟩, ⟨_, rfl, .val _⟩, ⟨_, rfl, .val _⟩, trivial⟩ ⟨.inl ⟨0, _, rfl, rfl, ⟨rfl, .cons (.sl _ _) (.cons (.val _) .nil)⟩⟩, trivial⟩⟩
  ·replace hg := cond_f h4 hg
   refine sr_ 33 49 hU33_3 ?_
   refine c0_ rfl rfl r_eql rfl rfl ?_
   refine c0_ rfl rfl .assign rfl rfl ?_
   refine ch_n fun hU49_5 => ?_
   refine awp_cond rfl (fun h6 => ?_) (fun h6 => ?_)
   ·replace hg := cond_t h6 hg
    refine aw_s ?_
    exact ⟨decide (a = 6), hg, Sub.lists [(0, 0)] rfl rfl ⟨⟨_, rfl, .ptr rfl⟩, ⟨_, rfl, .val _⟩, ⟨_, rfl, .val _⟩, trivial⟩ ⟨.inl ⟨0, _, rfl, rfl, ⟨rfl, .cons (.sl _ _) (.cons (.val _) .nil)⟩⟩, trivial⟩⟩
   ·replace hg := cond_f h6 hg
    refine sr_ 49 65 hU49_5 ?_
    refine c0_ rfl rfl r_eql rfl rfl ?_
    refine c0_ rfl rfl .assign rfl rfl ?_
    refine ch_n fun hU65_7 => ?_
    refine awp_cond rfl (fun h8 => ?_) (fun h8 => ?_)
    ·replace hg := cond_t h8 hg
     refine aw_s ?_
     exact ⟨decide (a = 10), hg, Sub.lists [(0, 0)] rfl rfl ⟨⟨_, rfl, .ptr rfl⟩, ⟨_, rfl, .val _⟩, ⟨_, rfl, .val _⟩, trivial⟩ ⟨.inl ⟨0, _, rfl, rfl, ⟨rfl, .cons (.sl _ _) (.cons (.val _) .nil)⟩⟩, trivial⟩⟩
    ·replace hg := cond_f h8 hg
     refine awp_region (sys _ _ []) 65 81 hU65_7 rfl rfl ?_
     refine c0_ rfl rfl r_eql rfl rfl ?_
     refine c0_ rfl rfl .assign rfl rfl ?_
     refine ch_n fun hU81_9 => ?_
     exact ⟨decide (a = 11), hg, Sub.lists [(0, 0)] rfl rfl ⟨⟨_, rfl, .ptr rfl⟩, ⟨_, rfl, .val _⟩, ⟨_, rfl, .val _⟩, trivial⟩ ⟨.inl ⟨0, _, rfl, rfl, ⟨rfl, .cons (.sl _ _) (.cons (.val _) .nil)⟩⟩, trivial⟩⟩
 ·rintro x6_1 hg
  replace hg : g_make_size.j1 d a x6_1 = some r := hg
  show awp _ _ _ _ (mk _ _ _)
  unfold g_make_size.j1 at hg
  refine awp_cond rfl (fun h10 => ?_) (fun h10 => ?_)
  ·replace hg := cond_t h10 hg
   refine awp_seq ?_
   refine awp_region (sys _ _ [9]) 1 33 mk_U rfl rfl ?_
   refine c0_ rfl rfl .move rfl rfl ?_
   refine ch_z (rd := []) rfl rfl (r_buildFull sl22 z3 (by decide) rfl rfl rfl rfl ck3 (cs := [.int .i64 2048, .int .i64 1024, .int .i64 512, .int .i64 3072, .int .i64 1023, .int .i64 4096, .int .i64 16384]) (.cons .int (.cons .int (.cons .int (.cons .int (.cons .int (.cons .int (.cons .int .nil))))))) rfl (l := ([2048, 1024, 512, 3072, 1023, 4096, 16384] : List Int)) (f := eI) rfl) rfl rfl rfl ?_
   obtain ⟨y, hy, hg⟩ := bind_some hg
   refine ch_callP (rd := [0]) (ps := [0]) (gs := []) false rfl (w_make_Dice_Of d ([2048, 1024, 512, 3072, 1023, 4096, 16384] : List Int) _ hy) rfl rfl (.cons (.ptr rfl) (.cons .sl .nil)) ⟨_, _, _, rfl, .head _, ⟨_, rfl, (by repeat' (first | exact AgL.nil | apply AgL.cons | exact Ag.val | exact Ag.sl | exact Ag.nils))⟩, rfl⟩ rfl (by intro h; cases h) rfl rfl rfl rfl ?_
   refine c0_ rfl rfl .assign rfl rfl ?_
   refine ch_n fun hU33_11 => ?_
   refine aw_r ?_
   obtain rfl := Option.some.inj hg
   exact ⟨[_], _, [_], [(0, 0)], .cons (.tmp rfl) .nil, ⟨rfl, rfl⟩, .val _, ⟨.inl ⟨0, _, rfl, rfl, ⟨rfl, .cons (.sl _ _) (.cons (.val _) .nil)⟩⟩, trivial⟩, rfl, rfl, rfl, rfl⟩
  ·replace hg := cond_f h10 hg
   refine awp_cut (ι := Bool) (fun (x14_2 : Bool) => mk [(0, .ptr 0 0), (5, .val (.int .i64 a)), (14, .val (.bool x14_2))] [(0, .box [.sl 1 (encL eI d.L), .val (.int .i64 d.At)] 58)] 1) (fun (x14_2 : Bool) => g_make_size.j2 d a x14_2 = some r) ?_ ?_
   ·refine awp_seq ?_
    refine awp_region (sys _ _ []) 1 17 mk_U rfl rfl ?_
    refine c0_ rfl rfl r_eql rfl rfl ?_
    refine c0_ rfl rfl .assign rfl rfl ?_
    refine ch_n fun hU17_12 => ?_
    refine awp_cond rfl (fun h13 => ?_) (fun h13 => ?_)
    ·replace hg := cond_t h13 hg
     refine aw_s ?_
     exact ⟨decide (a = 7), hg, Sub.lists [(0, 0)] rfl rfl ⟨⟨_, rfl, .ptr rfl⟩, ⟨_, rfl, .val _⟩, ⟨_, rfl, .val _⟩, trivial⟩ ⟨.inl ⟨0, _, rfl, rfl, ⟨rfl, .cons (.sl _ _) (.cons (.val _) .nil)⟩⟩, trivial⟩⟩
    ·replace hg := cond_f h13 hg
     refine awp_region (sys _ _ []) 17 33 hU17_12 rfl rfl ?_
     refine c0_ rfl rfl r_eql rfl rfl ?_
     refine c0_ rfl rfl .assign rfl rfl ?_
     refine ch_n fun hU33_14 => ?_
     exact ⟨decide (a = 12), hg, Sub.lists [(0, 0)] rfl rfl ⟨⟨_, rfl, .ptr rfl⟩, ⟨_, rfl, .val _⟩, ⟨_, rfl, .val _⟩, trivial⟩ ⟨.inl ⟨0, _, rfl, rfl, ⟨rfl, .cons (.sl _ _) (.cons (.val _) .nil)⟩⟩, trivial⟩⟩
   ·rintro x14_2 hg
    replace hg : g_make_size.j2 d a x14_2 = some r := hg
    show awp _ _ _ _ (mk _ _ _)
    unfold g_make_size.j2 at hg
    refine awp_cond rfl (fun h15 => ?_) (fun h15 => ?_)
    ·replace hg := cond_t h15 hg
     refine awp_seq ?_
     refine awp_region (sys _ _ [9]) 1 33 mk_U rfl rfl ?_
     refine c0_ rfl rfl .move rfl rfl ?_
     refine ch_z (rd := []) rfl rfl (r_buildFull sl22 z3 (by decide) rfl rfl rfl rfl ck3 (cs := [.int .i64 256, .int .i64 160, .int .i64 224, .int .i64 384, .int .i64 521]) (.cons .int (.cons .int (.cons .int (.cons .int (.cons .int .nil))))) rfl (l := ([256, 160, 224, 384, 521] : List Int)) (f := eI) rfl) rfl rfl rfl ?_
     obtain ⟨y_2, hy_2, hg⟩ := bind_some hg
     refine ch_callP (rd := [0]) (ps := [0]) (gs := []) false rfl (w_make_Dice_Of d ([256, 160, 224, 384, 521] : List Int) _ hy_2) rfl rfl (.cons (.ptr rfl) (.cons .sl .nil)) ⟨_, _, _, rfl, .head _, ⟨_, rfl, (by repeat' (first | exact AgL.nil | apply AgL.cons | exact Ag.val | exact Ag.sl | exact Ag.nils))⟩, rfl⟩ rfl (by intro h; cases h) rfl rfl rfl rfl ?_
     refine c0_ rfl rfl .assign rfl rfl ?_
     refine ch_n fun hU33_16 => ?_
     refine aw_r ?_
     obtain rfl := Option.some.inj hg
     exact ⟨[_], _, [_], [(0, 0)], .cons (.tmp rfl) .nil, ⟨rfl, rfl⟩, .val _, ⟨.inl ⟨0, _, rfl, rfl, ⟨rfl, .cons (.sl _ _) (.cons (.val _) .nil)⟩⟩, trivial⟩, rfl, rfl, rfl, rfl⟩
    ·replace hg := cond_f h15 hg
     refine sr_ 1 17 mk_U ?_
     refine c0_ rfl rfl r_eql rfl rfl ?_
     refine c0_ rfl rfl .assign rfl rfl ?_
     refine ch_n fun hU17_17 => ?_
     refine awp_cond rfl (fun h18 => ?_) (fun h18 => ?_)
     ·replace hg := cond_t h18 hg
      refine awp_seq ?_
      refine awp_region (sys _ _ [25]) 17 49 hU17_17 rfl rfl ?_
      refine c0_ rfl rfl .move rfl rfl ?_
      refine ch_z (rd := []) rfl rfl (r_buildFull sl22 z3 (by decide) rfl rfl rfl rfl ck3 (cs := [.int .i64 65, .int .i64 44, .int .i64 87]) (.cons .int (.cons .int (.cons .int .nil))) rfl (l := ([65, 44, 87] : List Int)) (f := eI) rfl) rfl rfl rfl ?_
      obtain ⟨y_3, hy_3, hg⟩ := bind_some hg
      refine ch_callP (rd := [0]) (ps := [0]) (gs := []) false rfl (w_make_Dice_Of d ([65, 44, 87] : List Int) _ hy_3) rfl rfl (.cons (.ptr rfl) (.cons .sl .nil)) ⟨_, _, _, rfl, .head _, ⟨_, rfl, (by repeat' (first | exact AgL.nil | apply AgL.cons | exact Ag.val | exact Ag.sl | exact Ag.nils))⟩, rfl⟩ rfl (by intro h; cases h) rfl rfl rfl rfl ?_
      refine c0_ rfl rfl .assign rfl rfl ?_
      refine ch_n fun hU49_19 => ?_
      refine aw_r ?_
      obtain rfl := Option.some.inj hg
      exact ⟨[_], _, [_], [(0, 0)], .cons (.tmp rfl) .nil, ⟨rfl, rfl⟩, .val _, ⟨.inl ⟨0, _, rfl, rfl, ⟨rfl, .cons (.sl _ _) (.cons (.val _) .nil)⟩⟩, trivial⟩, rfl, rfl, rfl, rfl⟩
     ·replace hg := cond_f h18 hg
      refine sr_ 17 33 hU17_17 ?_
      refine c0_ rfl rfl r_eql rfl rfl ?_
      refine c0_ rfl rfl .assign rfl rfl ?_
      refine ch_n fun hU33_20 => ?_
      refine awp_cond rfl (fun h21 => ?_) (fun h21 => ?_)
      ·replace hg := cond_t h21 hg
       refine awp_seq ?_
       refine awp_region (sys _ _ [41]) 33 65 hU33_20 rfl rfl ?_
       refine c0_ rfl rfl .move rfl rfl ?_
       refine ch_z (rd := []) rfl rfl (r_buildFull sl22 z3 (by decide) rfl rfl rfl rfl ck3 (cs := [.int .i64 768, .int .i64 512, .int .i64 1024]) (.cons .int (.cons .int (.cons .int .nil))) rfl (l := ([768, 512, 1024] : List Int)) (f := eI) rfl) rfl rfl rfl ?_
       obtain ⟨y_4, hy_4, hg⟩ := bind_some hg
       refine ch_callP (rd := [0]) (ps := [0]) (gs := []) false rfl (w_make_Dice_Of d ([768, 512, 1024] : List Int) _ hy_4) rfl rfl (.cons (.ptr rfl) (.cons .sl .nil)) ⟨_, _, _, rfl, .head _, ⟨_, rfl, (by repeat' (first | exact AgL.nil | apply AgL.cons | exact Ag.val | exact Ag.sl | exact Ag.nils))⟩, rfl⟩ rfl (by intro h; cases h) rfl rfl rfl rfl ?_
       refine c0_ rfl rfl .assign rfl rfl ?_
       refine ch_n fun hU65_22 => ?_
       refine aw_r ?_
       obtain rfl := Option.some.inj hg
       exact ⟨[_], _, [_], [(0, 0)], .cons (.tmp rfl) .nil, ⟨rfl, rfl⟩, .val _, ⟨.inl ⟨0, _, rfl, rfl, ⟨rfl, .cons (.sl _ _) (.cons (.val _) .nil)⟩⟩, trivial⟩, rfl, rfl, rfl, rfl⟩
      ·replace hg := cond_f h21 hg
       refine sr_ 33 49 hU33_20 ?_
       refine c0_ rfl rfl r_eql rfl rfl ?_
       refine c0_ rfl rfl .assign rfl rfl ?_
       refine ch_n fun hU49_23 => ?_
       refine awp_cond rfl (fun h24 => ?_) (fun h24 => ?_)
       ·replace hg := cond_t h24 hg
        refine awp_seq ?_
        refine awp_region (sys _ _ [57]) 49 81 hU49_23 rfl rfl ?_
        refine c0_ rfl rfl .move rfl rfl ?_
        refine ch_z (rd := []) rfl rfl (r_buildFull sl22 z3 (by decide) rfl rfl rfl rfl ck3 (cs := [.int .i64 128, .int .i64 40]) (.cons .int (.cons .int .nil)) rfl (l := ([128, 40] : List Int)) (f := eI) rfl) rfl rfl rfl ?_
        obtain ⟨y_5, hy_5, hg⟩ := bind_some hg
        refine ch_callP (rd := [0]) (ps := [0]) (gs := []) false rfl (w_make_Dice_Of d ([128, 40] : List Int) _ hy_5) rfl rfl (.cons (.ptr rfl) (.cons .sl .nil)) ⟨_, _, _, rfl, .head _, ⟨_, rfl, (by repeat' (first | exact AgL.nil | apply AgL.cons | exact Ag.val | exact Ag.sl | exact Ag.nils))⟩, rfl⟩ rfl (by intro h; cases h) rfl rfl rfl rfl ?_
        refine c0_ rfl rfl .assign rfl rfl ?_
        refine ch_n fun hU81_25 => ?_
        refine aw_r ?_
        obtain rfl := Option.some.inj hg
        exact ⟨[_], _, [_], [(0, 0)], .cons (.tmp rfl) .nil, ⟨rfl, rfl⟩, .val _, ⟨.inl ⟨0, _, rfl, rfl, ⟨rfl, .cons (.sl _ _) (.cons (.val _) .nil)⟩⟩, trivial⟩, rfl, rfl, rfl, rfl⟩
       ·replace hg := cond_f h24 hg
        refine sr_ 49 65 hU49_23 ?_
        refine c0_ rfl rfl r_eql rfl rfl ?_
        refine c0_ rfl rfl .assign rfl rfl ?_
        refine ch_n fun hU65_26 => ?_
        refine awp_cond rfl (fun h27 => ?_) (fun h27 => ?_)
        ·replace hg := cond_t h27 hg
         refine awp_seq ?_
         refine awp_region (sys _ _ [73]) 65 97 hU65_26 rfl rfl ?_
         refine c0_ rfl rfl .move rfl rfl ?_
         refine ch_z (rd := []) rfl rfl (r_buildFull sl22 z3 (by decide) rfl rfl rfl rfl ck3 (cs := [.int .i64 168, .int .i64 112]) (.cons .int (.cons .int .nil)) rfl (l := ([168, 112] : List Int)) (f := eI) rfl) rfl rfl rfl ?_
         obtain ⟨y_6, hy_6, hg⟩ := bind_some hg
         refine ch_callP (rd := [0]) (ps := [0]) (gs := []) false rfl (w_make_Dice_Of d ([168, 112] : List Int) _ hy_6) rfl rfl (.cons (.ptr rfl) (.cons .sl .nil)) ⟨_, _, _, rfl, .head _, ⟨_, rfl, (by repeat' (first | exact AgL.nil | apply AgL.cons | exact Ag.val | exact Ag.sl | exact Ag.nils))⟩, rfl⟩ rfl (by intro h; cases h) rfl rfl rfl rfl ?_
         refine c0_ rfl rfl .assign rfl rfl ?_
         refine ch_n fun hU97_28 => ?_
         refine aw_r ?_
         obtain rfl := Option.some.inj hg
         exact ⟨[_], _, [_], [(0, 0)], .cons (.tmp rfl) .nil, ⟨rfl, rfl⟩, .val _, ⟨.inl ⟨0, _, rfl, rfl, ⟨rfl, .cons (.sl _ _) (.cons (.val _) .nil)⟩⟩, trivial⟩, rfl, rfl, rfl, rfl⟩
        ·replace hg := cond_f h27 hg
         refine awp_cut (ι := Bool) (fun (x40_3 : Bool) => mk [(0, .ptr 0 0), (40, .val (.bool x40_3))] [(0, .box [.sl 1 (encL eI d.L), .val (.int .i64 d.At)] 58)] 1) (fun (x40_3 : Bool) => g_make_size.j3 d x40_3 = some r) ?_ ?_
         ·refine awp_seq ?_
          refine awp_region (sys _ _ []) 65 81 hU65_26 rfl rfl ?_
          refine c0_ rfl rfl r_eql rfl rfl ?_
          refine c0_ rfl rfl .assign rfl rfl ?_
          refine ch_n fun hU81_29 => ?_
          refine awp_cond rfl (fun h30 => ?_) (fun h30 => ?_)
          ·replace hg := cond_t h30 hg
           refine aw_s ?_
           exact ⟨decide (a = 16), hg, Sub.lists [(0, 0)] rfl rfl ⟨⟨_, rfl, .ptr rfl⟩, ⟨_, rfl, .val _⟩, trivial⟩ ⟨.inl ⟨0, _, rfl, rfl, ⟨rfl, .cons (.sl _ _) (.cons (.val _) .nil)⟩⟩, trivial⟩⟩
          ·replace hg := cond_f h30 hg
           refine awp_region (sys _ _ []) 81 97 hU81_29 rfl rfl ?_
           refine c0_ rfl rfl r_eql rfl rfl ?_
           refine c0_ rfl rfl .assign rfl rfl ?_
           refine ch_n fun hU97_31 => ?_
           exact ⟨decide (a = 17), hg, Sub.lists [(0, 0)] rfl rfl ⟨⟨_, rfl, .ptr rfl⟩, ⟨_, rfl, .val _⟩, trivial⟩ ⟨.inl ⟨0, _, rfl, rfl, ⟨rfl, .cons (.sl _ _) (.cons (.val _) .nil)⟩⟩, trivial⟩⟩
         ·rintro x40_3 hg
          replace hg : g_make_size.j3 d x40_3 = some r := hg
          show awp _ _ _ _ (mk _ _ _)
          unfold g_make_size.j3 at hg
          refine awp_cond rfl (fun h32 => ?_) (fun h32 => ?_)
          ·replace hg := cond_t h32 hg
           refine awp_seq ?_
           refine awp_region (sys _ _ [9]) 1 33 mk_U rfl rfl ?_
           refine c0_ rfl rfl .move rfl rfl ?_
           refine ch_z (rd := []) rfl rfl (r_buildFull sl22 z3 (by decide) rfl rfl rfl rfl ck3 (cs := [.int .i64 128, .int .i64 256]) (.cons .int (.cons .int .nil)) rfl (l := ([128, 256] : List Int)) (f := eI) rfl) rfl rfl rfl ?_
           obtain ⟨y_7, hy_7, hg⟩ := bind_some hg
           refine ch_callP (rd := [0]) (ps := [0]) (gs := []) false rfl (w_make_Dice_Of d ([128, 256] : List Int) _ hy_7) rfl rfl (.cons (.ptr rfl) (.cons .sl .nil)) ⟨_, _, _, rfl, .head _, ⟨_, rfl, (by repeat' (first | exact AgL.nil | apply AgL.cons | exact Ag.val | exact Ag.sl | exact Ag.nils))⟩, rfl⟩ rfl (by intro h; cases h) rfl rfl rfl rfl ?_
           refine c0_ rfl rfl .assign rfl rfl ?_
           refine ch_n fun hU33_33 => ?_
           refine aw_r ?_
           obtain rfl := Option.some.inj hg
           exact ⟨[_], _, [_], [(0, 0)], .cons (.tmp rfl) .nil, ⟨rfl, rfl⟩, .val _, ⟨.inl ⟨0, _, rfl, rfl, ⟨rfl, .cons (.sl _ _) (.cons (.val _) .nil)⟩⟩, trivial⟩, rfl, rfl, rfl, rfl⟩
          ·replace hg := cond_f h32 hg
           refine aw_s ?_
           refine sr_ 1 9 mk_U ?_
           refine c0_ rfl rfl .assign rfl rfl ?_
           refine ch_n fun hU9_34 => ?_
           refine aw_r ?_
           obtain rfl := Option.some.inj hg
           exact ⟨[_], _, [_], [(0, 0)], .cons (.tmp rfl) .nil, ⟨rfl, rfl⟩, .val _, ⟨.inl ⟨0, _, rfl, rfl, ⟨rfl, .cons (.sl _ _) (.cons (.val _) .nil)⟩⟩, trivial⟩, rfl, rfl, rfl, rfl⟩
end Go.Proofs.Ytadjcdhcdmiifaa
