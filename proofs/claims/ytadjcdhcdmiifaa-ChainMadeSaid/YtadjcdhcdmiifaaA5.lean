/- The program computes the plain functions. -/
import Derived.Test.YtadjcdhcdmiifaaT1
import Derived.Test.YtadjcdhcdmiifaaA3
import Derived.Test.YtadjcdhcdmiifaaA4
set_option linter.unusedVariables false
set_option linter.unusedSimpArgs false
set_option maxRecDepth 100000
set_option maxHeartbeats 1600000
namespace Go.Proofs.Ytadjcdhcdmiifaa
open Go.RowKit
theorem w_slices_ContainsFunc_api_Value_clo_105_0_ (rec : api_Value → Option (Bool)) (hrec : ∀ (v : api_Value) (r : Bool), rec v = some r → Fn Try.prog 92 0 [.agg [.val (.int .i64 v.Tag), .sl 1 (encL e8 v.Bytes), .val (.bool v.Nested), .sl 4 (encL api_Value.enc v.Elements)]] [] (fun d b => d = .val (.bool r) ∧ b = [])) (s : (List api_Value)) (f : api_Value → Option (Bool)) (hf_f : ∀ (x0 : api_Value) (y : Bool), f x0 = some y → Fn Try.prog 105 0 [.agg [.val (.int .i64 x0.Tag), .sl 1 (encL e8 x0.Bytes), .val (.bool x0.Nested), .sl 4 (encL api_Value.enc x0.Elements)]] [] (fun d b => d = .val (.bool y) ∧ b = [])) (r : Bool) (hg : g_slices_ContainsFunc_api_Value rec s f = some r) : Fn Try.prog 104 0 [.sl 4 (encL api_Value.enc s), .clo 105 0 []] [] (fun d b => d = .val (.bool r) ∧ b = []) := by
 unfold g_slices_ContainsFunc_api_Value at hg
 refine Fn.of Try.func104 rfl rfl rfl fun w0 I ρ0 => ?_
 show awp _ ⟨w0, I, ρ0, 0, 0, 9⟩ _ _ _
 refine sr_ 0 8 mk_U ?_
 refine c0_ rfl rfl .assign rfl rfl ?_
 refine ch_n fun hU8_1 => ?_
 refine sr_ 8 48 hU8_1 ?_
 refine c0_ rfl rfl .move rfl rfl ?_
 refine c0_ rfl rfl .move rfl rfl ?_
 obtain ⟨y, hy, hg⟩ := bind_some hg
 refine ch_callP (rd := []) (ps := []) (gs := []) false rfl (w_slices_IndexFunc_api_Value_clo_105_0_ rec hrec s f hf_f _ hy) rfl rfl (.cons .sl (.cons (.clo (.nil)) .nil)) rfl rfl (by intro h; cases h) rfl rfl rfl rfl ?_
 refine c0_ rfl rfl r_geq rfl rfl ?_
 refine c0_ rfl rfl .assign rfl rfl ?_
 refine ch_n fun hU48_2 => ?_
 refine aw_r ?_
 obtain rfl := Option.some.inj hg
 exact ⟨[_], _, [], [], .cons (.tmp rfl) .nil, ⟨rfl, rfl⟩, .val _, trivial, rfl, rfl, rfl, rfl⟩
theorem w_der_formed.F (rec : api_Value → Option (Bool)) (hrec : ∀ (v : api_Value) (r : Bool), rec v = some r → Fn Try.prog 92 0 [.agg [.val (.int .i64 v.Tag), .sl 1 (encL e8 v.Bytes), .val (.bool v.Nested), .sl 4 (encL api_Value.enc v.Elements)]] [] (fun d b => d = .val (.bool r) ∧ b = [])) (v : api_Value) (r : Bool) (hg : g_der_formed.F rec v = some r) : Fn Try.prog 92 0 [.agg [.val (.int .i64 v.Tag), .sl 1 (encL e8 v.Bytes), .val (.bool v.Nested), .sl 4 (encL api_Value.enc v.Elements)]] [] (fun d b => d = .val (.bool r) ∧ b = []) := by
 unfold g_der_formed.F at hg
 refine Fn.of Try.func92 rfl rfl rfl fun w0 I ρ0 => ?_
 show awp _ ⟨w0, I, ρ0, 0, 0, 41⟩ _ _ _
 refine sr_ 0 16 mk_U ?_
 refine c0_ rfl rfl (.box rfl) rfl rfl ?_
 refine c0_ rfl rfl .assign rfl rfl ?_
 refine ch_n fun hU16_1 => ?_
 refine awp_seq ?_
 refine awp_cut (ι := Bool) (fun (x36_1 : Bool) => mk [(1, .ptr 0 0), (36, .val (.bool x36_1))] [(0, .box [.val (.int .i64 v.Tag), .sl 1 (encL e8 v.Bytes), .val (.bool v.Nested), .sl 4 (encL api_Value.enc v.Elements)] 97)] 1) (fun (x36_1 : Bool) => g_der_formed.j1 rec v x36_1 = some r) ?_ ?_
 ·refine awp_region (sys _ _ []) 16 288 hU16_1 rfl rfl ?_
  refine c0_ rfl rfl (.fieldP fd97_0 ty3 (by decide)) rfl rfl ?_
  refine ch_s (rd := [0]) rfl rfl (.loadB1 ty3 rfl) rfl rfl ?_
  obtain ⟨y, hy, hg⟩ := bind_some hg
  refine ch_callP (rd := []) (ps := []) (gs := []) false rfl (w_der_tag v.Tag _ hy) rfl rfl (.cons .val .nil) rfl rfl (by intro h; cases h) rfl rfl rfl rfl ?_
  refine c0_ rfl rfl r_not rfl rfl ?_
  refine c0_ rfl rfl .move rfl rfl ?_
  rcases Bool.eq_false_or_eq_true (!y) with h2 | h2
  ·replace hg := cond_t h2 hg
   iterate 7 refine ch_skip (gdv_f rfl rfl h2) rfl ?_
   refine c0_ rfl rfl (r_pickT h2) rfl rfl ?_
   refine c0_ rfl rfl .move rfl rfl ?_
   iterate 3 refine ch_skip (gdv_f rfl rfl rfl) rfl ?_
   iterate 4 refine ch_skip rfl rfl ?_
   refine ch_skip (gdv_f rfl rfl rfl) rfl ?_
   refine c0_ rfl rfl (r_pickT rfl) rfl rfl ?_
   refine c0_ rfl rfl .move rfl rfl ?_
   iterate 4 refine ch_skip (gdv_f rfl rfl rfl) rfl ?_
   iterate 4 refine ch_skip rfl rfl ?_
   refine ch_skip (gdv_f rfl rfl rfl) rfl ?_
   refine c0_ rfl rfl (r_pickT rfl) rfl rfl ?_
   refine ch_n fun hU288_3 => ?_
   exact ⟨true, hg, Sub.lists [(0, 0)] rfl rfl ⟨⟨_, rfl, .ptr rfl⟩, ⟨_, rfl, .val _⟩, trivial⟩ ⟨.inl ⟨0, _, rfl, rfl, ⟨rfl, .cons (.val _) (.cons (.sl _ _) (.cons (.val _) (.cons (.sl _ _) .nil)))⟩⟩, trivial⟩⟩
  ·replace hg := cond_f h2 hg
   refine c0_ (gdv_t rfl rfl h2) rfl (.fieldP fd97_2 ty4 (by decide)) rfl rfl ?_
   refine ch_s (rd := [0]) (gdv_t rfl rfl h2) rfl (.loadB1 ty4 rfl) rfl rfl ?_
   refine c0_ (gdv_t rfl rfl h2) rfl (.fieldP fd97_0 ty3 (by decide)) rfl rfl ?_
   refine ch_s (rd := [0]) (gdv_t rfl rfl h2) rfl (.loadB1 ty3 rfl) rfl rfl ?_
   refine c0_ (gdv_t rfl rfl h2) rfl r_andK rfl rfl ?_
   refine c0_ (gdv_t rfl rfl h2) rfl r_neq rfl rfl ?_
   refine c0_ (gdv_t rfl rfl h2) rfl (r_bneq und4) rfl rfl ?_
   refine c0_ rfl rfl (r_pickF h2) rfl rfl ?_
   refine c0_ rfl rfl .move rfl rfl ?_
   rcases Bool.eq_false_or_eq_true (!decide (v.Nested = (!decide ((andK .i64 v.Tag 32) = 0)))) with h4 | h4
   ·replace hg := cond_t h4 hg
    iterate 3 refine ch_skip (gdv_f rfl rfl h4) rfl ?_
    iterate 4 refine ch_skip rfl rfl ?_
    refine ch_skip (gdv_f rfl rfl h4) rfl ?_
    refine c0_ rfl rfl (r_pickT h4) rfl rfl ?_
    refine c0_ rfl rfl .move rfl rfl ?_
    iterate 4 refine ch_skip (gdv_f rfl rfl rfl) rfl ?_
    iterate 4 refine ch_skip rfl rfl ?_
    refine ch_skip (gdv_f rfl rfl rfl) rfl ?_
    refine c0_ rfl rfl (r_pickT rfl) rfl rfl ?_
    refine ch_n fun hU288_5 => ?_
    exact ⟨true, hg, Sub.lists [(0, 0)] rfl rfl ⟨⟨_, rfl, .ptr rfl⟩, ⟨_, rfl, .val _⟩, trivial⟩ ⟨.inl ⟨0, _, rfl, rfl, ⟨rfl, .cons (.val _) (.cons (.sl _ _) (.cons (.val _) (.cons (.sl _ _) .nil)))⟩⟩, trivial⟩⟩
   ·replace hg := cond_f h4 hg
    refine c0_ (gdv_t rfl rfl h4) rfl (.fieldP fd97_2 ty4 (by decide)) rfl rfl ?_
    refine ch_s (rd := [0]) (gdv_t rfl rfl h4) rfl (.loadB1 ty4 rfl) rfl rfl ?_
    refine c0_ (gdv_t rfl rfl h4) rfl .move rfl rfl ?_
    rcases Bool.eq_false_or_eq_true (v.Nested) with h6 | h6
    ·replace hg := cond_t h6 hg
     refine c0_ (gdv_t rfl rfl h6) rfl (.fieldP fd97_1 ty82 (by decide)) rfl rfl ?_
     refine ch_s (rd := [0]) (gdv_t rfl rfl h6) rfl (.loadB1 ty82 rfl) rfl rfl ?_
     refine c0_ (gdv_t rfl rfl h6) rfl (r_lenS sl82 e8_len) rfl rfl ?_
     refine c0_ (gdv_t rfl rfl h6) rfl r_gtr rfl rfl ?_
     refine c0_ (gdv_t rfl rfl h4) rfl (r_pickT h6) rfl rfl ?_
     refine c0_ rfl rfl (r_pickF h4) rfl rfl ?_
     refine c0_ rfl rfl .move rfl rfl ?_
     rcases Bool.eq_false_or_eq_true (decide (0 < (v.Bytes.length : Int))) with h7 | h7
     ·replace hg := cond_t h7 hg
      iterate 4 refine ch_skip (gdv_f rfl rfl h7) rfl ?_
      iterate 4 refine ch_skip rfl rfl ?_
      refine ch_skip (gdv_f rfl rfl h7) rfl ?_
      refine c0_ rfl rfl (r_pickT h7) rfl rfl ?_
      refine ch_n fun hU288_8 => ?_
      exact ⟨true, hg, Sub.lists [(0, 0)] rfl rfl ⟨⟨_, rfl, .ptr rfl⟩, ⟨_, rfl, .val _⟩, trivial⟩ ⟨.inl ⟨0, _, rfl, rfl, ⟨rfl, .cons (.val _) (.cons (.sl _ _) (.cons (.val _) (.cons (.sl _ _) .nil)))⟩⟩, trivial⟩⟩
     ·replace hg := cond_f h7 hg
      refine c0_ (gdv_t rfl rfl h7) rfl (.fieldP fd97_2 ty4 (by decide)) rfl rfl ?_
      refine ch_s (rd := [0]) (gdv_t rfl rfl h7) rfl (.loadB1 ty4 rfl) rfl rfl ?_
      refine c0_ (gdv_t rfl rfl h7) rfl r_not rfl rfl ?_
      refine c0_ (gdv_t rfl rfl h7) rfl .move rfl rfl ?_
      iterate 4 refine ch_skip (gdv_f rfl rfl (not_t h6)) rfl ?_
      refine c0_ (gdv_t rfl rfl h7) rfl (r_pickF (not_t h6)) rfl rfl ?_
      refine c0_ rfl rfl (r_pickF h7) rfl rfl ?_
      refine ch_n fun hU288_9 => ?_
      exact ⟨false, hg, Sub.lists [(0, 0)] rfl rfl ⟨⟨_, rfl, .ptr rfl⟩, ⟨_, rfl, .val _⟩, trivial⟩ ⟨.inl ⟨0, _, rfl, rfl, ⟨rfl, .cons (.val _) (.cons (.sl _ _) (.cons (.val _) (.cons (.sl _ _) .nil)))⟩⟩, trivial⟩⟩
    ·replace hg := cond_f h6 hg
     iterate 4 refine ch_skip (gdv_f rfl rfl h6) rfl ?_
     refine c0_ (gdv_t rfl rfl h4) rfl (r_pickF h6) rfl rfl ?_
     refine c0_ rfl rfl (r_pickF h4) rfl rfl ?_
     refine c0_ rfl rfl .move rfl rfl ?_
     refine c0_ (gdv_t rfl rfl rfl) rfl (.fieldP fd97_2 ty4 (by decide)) rfl rfl ?_
     refine ch_s (rd := [0]) (gdv_t rfl rfl rfl) rfl (.loadB1 ty4 rfl) rfl rfl ?_
     refine c0_ (gdv_t rfl rfl rfl) rfl r_not rfl rfl ?_
     refine c0_ (gdv_t rfl rfl rfl) rfl .move rfl rfl ?_
     refine c0_ (gdv_t rfl rfl (not_f h6)) rfl (.fieldP fd97_3 ty95 (by decide)) rfl rfl ?_
     refine ch_s (rd := [0]) (gdv_t rfl rfl (not_f h6)) rfl (.loadB1 ty95 rfl) rfl rfl ?_
     refine c0_ (gdv_t rfl rfl (not_f h6)) rfl (r_lenS sl95 api_Value.enc_len) rfl rfl ?_
     refine c0_ (gdv_t rfl rfl (not_f h6)) rfl r_gtr rfl rfl ?_
     refine c0_ (gdv_t rfl rfl rfl) rfl (r_pickT (not_f h6)) rfl rfl ?_
     refine c0_ rfl rfl (r_pickF rfl) rfl rfl ?_
     refine ch_n fun hU288_10 => ?_
     exact ⟨decide (0 < (v.Elements.length : Int)), hg, Sub.lists [(0, 0)] rfl rfl ⟨⟨_, rfl, .ptr rfl⟩, ⟨_, rfl, .val _⟩, trivial⟩ ⟨.inl ⟨0, _, rfl, rfl, ⟨rfl, .cons (.val _) (.cons (.sl _ _) (.cons (.val _) (.cons (.sl _ _) .nil)))⟩⟩, trivial⟩⟩
 ·rintro x36_1 hg
  replace hg : g_der_formed.j1 rec v x36_1 = some r := hg
  show awp _ _ _ _ (mk _ _ _)
  unfold g_der_formed.j1 at hg
  refine awp_cond rfl (fun h11 => ?_) (fun h11 => ?_)
  ·replace hg := cond_t h11 hg
   refine sr_ 1 9 mk_U ?_
   refine c0_ rfl rfl .assign rfl rfl ?_
   refine ch_n fun hU9_12 => ?_
   refine aw_r ?_
   obtain rfl := Option.some.inj hg
   exact ⟨[_], _, [], [], .cons (.tmp rfl) .nil, ⟨rfl, rfl⟩, .val _, trivial, rfl, rfl, rfl, rfl⟩
  ·replace hg := cond_f h11 hg
   refine aw_s ?_
   refine sr_ 1 41 mk_U ?_
   refine c0_ rfl rfl (.fieldP fd97_3 ty95 (by decide)) rfl rfl ?_
   refine ch_s (rd := [0]) rfl rfl (.loadB1 ty95 rfl) rfl rfl ?_
   obtain ⟨y_2, hy_2, hg⟩ := bind_some hg
   refine ch_callP (rd := []) (ps := []) (gs := []) false rfl (w_slices_ContainsFunc_api_Value_clo_105_0_ rec hrec v.Elements (fun x0 => g_der_formed_c1 rec x0) (fun x0 y h => w_der_formed_c1 rec hrec x0 y h) _ hy_2) rfl rfl (.cons .sl (.cons .fn .nil)) rfl rfl (by intro h; cases h) rfl rfl rfl rfl ?_
   refine c0_ rfl rfl r_not rfl rfl ?_
   refine c0_ rfl rfl .assign rfl rfl ?_
   refine ch_n fun hU41_13 => ?_
   refine aw_r ?_
   obtain rfl := Option.some.inj hg
   exact ⟨[_], _, [], [], .cons (.tmp rfl) .nil, ⟨rfl, rfl⟩, .val _, trivial, rfl, rfl, rfl, rfl⟩
theorem w_der_formed (v : api_Value) (r : Bool) (hg : g_der_formed v = some r) : Fn Try.prog 92 0 [.agg [.val (.int .i64 v.Tag), .sl 1 (encL e8 v.Bytes), .val (.bool v.Nested), .sl 4 (encL api_Value.enc v.Elements)]] [] (fun d b => d = .val (.bool r) ∧ b = []) :=
 fixT_ind (motive := fun (x : api_Value) (r : Bool) => Fn Try.prog 92 0 [.agg [.val (.int .i64 x.Tag), .sl 1 (encL e8 x.Bytes), .val (.bool x.Nested), .sl 4 (encL api_Value.enc x.Elements)]] [] (fun d b => d = .val (.bool r) ∧ b = [])) (fun rec hrec x r h => w_der_formed.F _ (fun v r h => hrec v r h) x r h) v r hg
theorem w_der_depth.F (rec : api_Value → Option (Int)) (hrec : ∀ (v : api_Value) (r : Int), rec v = some r → Fn Try.prog 93 0 [.agg [.val (.int .i64 v.Tag), .sl 1 (encL e8 v.Bytes), .val (.bool v.Nested), .sl 4 (encL api_Value.enc v.Elements)]] [] (fun d b => d = .val (.int .i64 r) ∧ b = [])) (v : api_Value) (r : Int) (hg : g_der_depth.F rec v = some r) : Fn Try.prog 93 0 [.agg [.val (.int .i64 v.Tag), .sl 1 (encL e8 v.Bytes), .val (.bool v.Nested), .sl 4 (encL api_Value.enc v.Elements)]] [] (fun d b => d = .val (.int .i64 r) ∧ b = []) := by
 unfold g_der_depth.F at hg
 refine Fn.of Try.func93 rfl rfl rfl fun w0 I ρ0 => ?_
 show awp _ ⟨w0, I, ρ0, 0, 0, 20⟩ _ _ _
 refine sr_ 0 16 mk_U ?_
 refine c0_ rfl rfl (.box rfl) rfl rfl ?_
 refine c0_ rfl rfl .assign rfl rfl ?_
 refine ch_n fun hU16_1 => ?_
 refine sr_ 16 24 hU16_1 ?_
 refine c0_ rfl rfl .assign rfl rfl ?_
 refine ch_n fun hU24_2 => ?_
 refine awp_seq ?_
 refine sr_ 24 56 hU24_2 ?_
 refine c0_ rfl rfl (.fieldP fd97_3 ty95 (by decide)) rfl rfl ?_
 refine ch_s (rd := [0]) rfl rfl (.loadB1 ty95 rfl) rfl rfl ?_
 refine c0_ rfl rfl (r_lenS sl95 api_Value.enc_len) rfl rfl ?_
 refine c0_ rfl rfl .move rfl rfl ?_
 refine ch_n fun hU56_3 => ?_
 refine awp_block ?_
 obtain ⟨n1, hg⟩ := loop_some hg
 refine awp_loop (ι := (Int × Int) × Nat) (fun (((most_1, x9_1), _) : (Int × Int) × Nat) => mk [(3, .val (.int .i64 most_1)), (7, .sl 4 (encL api_Value.enc v.Elements)), (8, .val (.int .i64 (v.Elements.length : Int))), (9, .val (.int .i64 x9_1))] [] 0) (fun (((most_1, x9_1), nq') : (Int × Int) × Nat) => iter (fun q' => g_der_depth.l1 rec v q'.1 q'.2) nq' (most_1, x9_1) = some r) (fun q => q.2) ((0, 0), n1) (Sub.lists [] rfl rfl ⟨⟨_, rfl, .val _⟩, ⟨_, rfl, .sl _ _⟩, ⟨_, rfl, .val _⟩, ⟨_, rfl, .val _⟩, trivial⟩ trivial) hg ?_
 rintro ⟨⟨most_1, x9_1⟩, n1⟩ hg
 obtain ⟨m1, o1, rfl, hg, hn1⟩ := iter_some (show iter (fun q' => g_der_depth.l1 rec v q'.1 q'.2) n1 (most_1, x9_1) = some r from hg)
 replace hg : g_der_depth.l1 rec v most_1 x9_1 = some o1 := hg
 show awp _ _ _ _ (mk _ _ _)
 unfold g_der_depth.l1 at hg
 refine sr_ 0 8 mk_U ?_
 refine c0_ rfl rfl r_lss rfl rfl ?_
 refine ch_n fun hU8_4 => ?_
 refine awp_seq ?_
 refine awp_cond rfl (fun h5 => ?_) (fun h5 => ?_)
 ·replace hg := cond_t h5 hg
  refine aw_s ?_
  refine awp_seq ?_
  refine awp_block ?_
  refine sr_ 8 40 hU8_4 ?_
  obtain ⟨e, he, hg⟩ := bind_some hg
  refine c0_ rfl rfl (r_idxS sl95 api_Value.enc_len (getI_ix he) (getI_at he)) rfl rfl ?_
  refine c0_ rfl rfl (r_loadEA ty97 (enc_cells api_Value.enc_len (getI_at he) (o := 0) (m := 4) (cs := [.int .i64 e.Tag, .sl 1 (encL e8 e.Bytes), .bool e.Nested, .sl 4 (encL api_Value.enc e.Elements)]) (by simp only [api_Value.enc_eq]; rfl) (by decide) rfl) (enc_cells_le api_Value.enc_len (getI_at he) (o := 0) (m := 4) (by decide) rfl)) rfl rfl ?_
  refine c0_ rfl rfl (.alloc z97) rfl rfl ?_
  refine ch_s (rd := [24]) rfl rfl (r_storeB (ds' := [.val (.int .i64 e.Tag), .sl 1 (encL e8 e.Bytes), .val (.bool e.Nested), .sl 4 (encL api_Value.enc e.Elements)]) ty97 rfl (Nat.le_of_ble_eq_true rfl) rfl rfl) rfl rfl ?_
  refine ch_n fun hU40_6 => ?_
  refine awp_region (sys _ _ []) 40 80 hU40_6 rfl rfl ?_
  refine c0_ rfl rfl .move rfl rfl ?_
  refine ch_s (rd := [24]) rfl rfl (.loadBA ty97 (Nat.le_of_ble_eq_true rfl)) rfl rfl ?_
  obtain ⟨y, hy, hg⟩ := bind_some hg
  refine ch_callP (rd := []) (ps := []) (gs := []) false rfl (hrec e _ hy) rfl rfl (.cons (.agg (.cons .val (.cons .sl (.cons .val (.cons .sl .nil))))) .nil) rfl rfl (by intro h; cases h) rfl rfl rfl rfl ?_
  refine c0_ rfl rfl r_max rfl rfl ?_
  refine c0_ rfl rfl .assign rfl rfl ?_
  refine ch_n fun hU80_7 => ?_
  refine awp_region (sys _ _ []) 80 96 hU80_7 rfl rfl ?_
  refine c0_ rfl rfl r_add rfl rfl ?_
  refine c0_ rfl rfl .move rfl rfl ?_
  refine ch_n fun hU96_8 => ?_
  obtain rfl := Option.some.inj hg
  exact ⟨((max most_1 y, W (x9_1 + 1)), m1), Nat.lt_succ_self _, hn1, Sub.lists [] rfl rfl ⟨⟨_, rfl, .val _⟩, ⟨_, rfl, .sl _ _⟩, ⟨_, rfl, .val _⟩, ⟨_, rfl, .val _⟩, trivial⟩ trivial⟩
 ·replace hg := cond_f h5 hg
  refine awp_exit ?_
  repeat first | refine st_ ?_ | refine sn_ ?_
  replace hg := leave hg hn1
  refine sr_ 8 32 hU8_4 ?_
  refine c0_ rfl rfl .move rfl rfl ?_
  refine c0_ rfl rfl r_add rfl rfl ?_
  refine c0_ rfl rfl .assign rfl rfl ?_
  refine ch_n fun hU32_9 => ?_
  refine aw_r ?_
  obtain rfl := Option.some.inj hg
  exact ⟨[_], _, [], [], .cons (.tmp rfl) .nil, ⟨rfl, rfl⟩, .val _, trivial, rfl, rfl, rfl, rfl⟩
theorem w_der_depth (v : api_Value) (r : Int) (hg : g_der_depth v = some r) : Fn Try.prog 93 0 [.agg [.val (.int .i64 v.Tag), .sl 1 (encL e8 v.Bytes), .val (.bool v.Nested), .sl 4 (encL api_Value.enc v.Elements)]] [] (fun d b => d = .val (.int .i64 r) ∧ b = []) :=
 fixT_ind (motive := fun (x : api_Value) (r : Int) => Fn Try.prog 93 0 [.agg [.val (.int .i64 x.Tag), .sl 1 (encL e8 x.Bytes), .val (.bool x.Nested), .sl 4 (encL api_Value.enc x.Elements)]] [] (fun d b => d = .val (.int .i64 r) ∧ b = [])) (fun rec hrec x r h => w_der_depth.F _ (fun v r h => hrec v r h) x r h) v r hg
theorem w_der_length_own (b : List UInt8) (n : Int) (r : (List UInt8)) (hg : g_der_length b n = some r) : Fn Try.prog 107 0 [.row 0, .val (.int .i64 n)] [.row 5 1 (encL e8 b)] (fun d b => d = .row 0 ∧ b = [.row 5 1 (encL e8 r)]) := by
 unfold g_der_length at hg
 refine Fn.of Try.func107 rfl rfl rfl fun w0 I ρ0 => ?_
 show awp _ ⟨w0, I, ρ0, 0, 1, 43⟩ _ _ _
 refine sr_ 1 9 mk_U ?_
 refine c0_ rfl rfl .assign rfl rfl ?_
 refine ch_n fun hU9_1 => ?_
 refine awp_seq ?_
 refine sr_ 9 25 hU9_1 ?_
 refine c0_ rfl rfl .move rfl rfl ?_
 refine c0_ rfl rfl r_lss rfl rfl ?_
 refine ch_n fun hU25_2 => ?_
 refine awp_cond rfl (fun h3 => ?_) (fun h3 => ?_)
 ·replace hg := cond_t h3 hg
  refine sr_ 25 73 hU25_2 ?_
  refine c0_ rfl rfl .move rfl rfl ?_
  refine c0_ rfl rfl .move rfl rfl ?_
  refine c0_ rfl rfl (r_conv_u8 und3 und5) rfl rfl ?_
  refine c0_ rfl rfl (r_buildFull sl82 z5 (by decide) rfl rfl rfl rfl ck5 (cs := [.int .u8 ((u8 n).toNat : Int)]) (.cons .int .nil) rfl (l := ([(u8 n)] : List UInt8)) (f := e8) rfl) rfl rfl ?_
  obtain ⟨l, hl, hg⟩ := bind_some hg
  refine ch_s (rd := [0, 49]) rfl rfl (r_append sl82 e8_len .row rfl .row rfl hl rfl) rfl rfl ?_
  refine c0_ rfl rfl .assign rfl rfl ?_
  refine ch_n fun hU73_4 => ?_
  refine aw_r ?_
  obtain rfl := Option.some.inj hg
  exact ⟨[_], _, [_], [(0, 57)], .cons (.tmp rfl) .nil, ⟨rfl, rfl⟩, .row rfl, ⟨.inl ⟨57, _, rfl, rfl, ⟨rfl, rfl, rfl⟩⟩, trivial⟩, rfl, rfl, rfl, rfl⟩
 ·replace hg := cond_f h3 hg
  refine aw_s ?_
  refine sr_ 25 33 hU25_2 ?_
  refine c0_ rfl rfl .assign rfl rfl ?_
  refine ch_n fun hU33_5 => ?_
  refine awp_seq ?_
  refine sr_ 33 49 hU33_5 ?_
  refine c0_ rfl rfl .move rfl rfl ?_
  refine c0_ rfl rfl .assign rfl rfl ?_
  refine ch_n fun hU49_6 => ?_
  refine awp_block ?_
  obtain ⟨n1, hg⟩ := loop_some hg
  refine awp_loop (ι := (Int × Int) × Nat) (fun (((count_1, m_1), _) : (Int × Int) × Nat) => mk [(0, .row 0), (1, .val (.int .i64 n)), (5, .val (.int .i64 count_1)), (6, .val (.int .i64 m_1))] [(0, .row 5 1 (encL e8 b))] 1) (fun (((count_1, m_1), nq') : (Int × Int) × Nat) => iter (fun q' => g_der_length.l1 b n q'.1 q'.2) nq' (count_1, m_1) = some r) (fun q => q.2) ((0, n), n1) (Sub.lists [(0, 0)] rfl rfl ⟨⟨_, rfl, .row rfl⟩, ⟨_, rfl, .val _⟩, ⟨_, rfl, .val _⟩, ⟨_, rfl, .val _⟩, trivial⟩ ⟨.inl ⟨0, _, rfl, rfl, ⟨rfl, rfl, rfl⟩⟩, trivial⟩) hg ?_
  rintro ⟨⟨count_1, m_1⟩, n1⟩ hg
  obtain ⟨m1, o1, rfl, hg, hn1⟩ := iter_some (show iter (fun q' => g_der_length.l1 b n q'.1 q'.2) n1 (count_1, m_1) = some r from hg)
  replace hg : g_der_length.l1 b n count_1 m_1 = some o1 := hg
  show awp _ _ _ _ (mk _ _ _)
  unfold g_der_length.l1 at hg
  refine awp_seq ?_
  refine sr_ 1 17 mk_U ?_
  refine c0_ rfl rfl .move rfl rfl ?_
  refine c0_ rfl rfl r_gtr rfl rfl ?_
  refine ch_n fun hU17_7 => ?_
  refine awp_cond rfl (fun h8 => ?_) (fun h8 => ?_)
  ·replace hg := cond_t h8 hg
   refine aw_s ?_
   refine awp_seq ?_
   refine awp_block ?_
   refine awp_region (sys _ _ []) 17 41 hU17_7 rfl rfl ?_
   refine c0_ rfl rfl .move rfl rfl ?_
   refine c0_ rfl rfl r_add rfl rfl ?_
   refine c0_ rfl rfl .assign rfl rfl ?_
   refine ch_n fun hU41_9 => ?_
   refine awp_region (sys _ _ []) 41 65 hU41_9 rfl rfl ?_
   refine c0_ rfl rfl .move rfl rfl ?_
   obtain ⟨q, hq, hg⟩ := bind_some hg
   refine c0_ rfl rfl (r_shrK hq) rfl rfl ?_
   refine c0_ rfl rfl .assign rfl rfl ?_
   refine ch_n fun hU65_10 => ?_
   obtain rfl := Option.some.inj hg
   exact ⟨((W (count_1 + 1), q), m1), Nat.lt_succ_self _, hn1, Sub.lists [(0, 0)] rfl rfl ⟨⟨_, rfl, .row rfl⟩, ⟨_, rfl, .val _⟩, ⟨_, rfl, .val _⟩, ⟨_, rfl, .val _⟩, trivial⟩ ⟨.inl ⟨0, _, rfl, rfl, ⟨rfl, rfl, rfl⟩⟩, trivial⟩⟩
  ·replace hg := cond_f h8 hg
   refine awp_exit ?_
   repeat first | refine st_ ?_ | refine sn_ ?_
   replace hg := leave hg hn1
   refine sr_ 17 73 hU17_7 ?_
   refine c0_ rfl rfl .move rfl rfl ?_
   refine c0_ rfl rfl .move rfl rfl ?_
   refine c0_ rfl rfl r_add rfl rfl ?_
   refine c0_ rfl rfl (r_conv_u8 und3 und5) rfl rfl ?_
   refine c0_ rfl rfl (r_buildFull sl82 z5 (by decide) rfl rfl rfl rfl ck5 (cs := [.int .u8 ((u8 (W (128 + count_1))).toNat : Int)]) (.cons .int .nil) rfl (l := ([(u8 (W (128 + count_1)))] : List UInt8)) (f := e8) rfl) rfl rfl ?_
   obtain ⟨l_2, hl_2, hg⟩ := bind_some hg
   refine ch_s (rd := [0, 49]) rfl rfl (r_append sl82 e8_len .row rfl .row rfl hl_2 rfl) rfl rfl ?_
   refine c0_ rfl rfl .assign rfl rfl ?_
   refine ch_n fun hU73_11 => ?_
   refine awp_seq ?_
   refine sr_ 73 97 hU73_11 ?_
   refine c0_ rfl rfl .move rfl rfl ?_
   refine c0_ rfl rfl r_sub rfl rfl ?_
   refine c0_ rfl rfl .assign rfl rfl ?_
   refine ch_n fun hU97_12 => ?_
   refine awp_block ?_
   obtain ⟨n2, hg⟩ := loop_some hg
   refine awp_loop (ι := (Int × List UInt8) × Nat) (fun (((i_2, b_2), _) : (Int × List UInt8) × Nat) => mk [(0, .row 0), (1, .val (.int .i64 n)), (7, .val (.int .i64 i_2))] [(0, .row 5 1 (encL e8 b_2))] 1) (fun (((i_2, b_2), nq') : (Int × List UInt8) × Nat) => iter (fun q' => g_der_length.l2 n q'.1 q'.2) nq' (i_2, b_2) = some r) (fun q => q.2) ((W (count_1 - 1), l_2), n2) (Sub.lists [(0, 57)] rfl rfl ⟨⟨_, rfl, .row rfl⟩, ⟨_, rfl, .val _⟩, ⟨_, rfl, .val _⟩, trivial⟩ ⟨.inl ⟨57, _, rfl, rfl, ⟨rfl, rfl, rfl⟩⟩, trivial⟩) hg ?_
   rintro ⟨⟨i_2, b_2⟩, n2⟩ hg
   obtain ⟨m2, o2, rfl, hg, hn2⟩ := iter_some (show iter (fun q' => g_der_length.l2 n q'.1 q'.2) n2 (i_2, b_2) = some r from hg)
   replace hg : g_der_length.l2 n i_2 b_2 = some o2 := hg
   show awp _ _ _ _ (mk _ _ _)
   unfold g_der_length.l2 at hg
   refine awp_seq ?_
   refine sr_ 1 17 mk_U ?_
   refine c0_ rfl rfl .move rfl rfl ?_
   refine c0_ rfl rfl r_geq rfl rfl ?_
   refine ch_n fun hU17_13 => ?_
   refine awp_cond rfl (fun h14 => ?_) (fun h14 => ?_)
   ·replace hg := cond_t h14 hg
    refine aw_s ?_
    refine awp_seq ?_
    refine awp_block ?_
    refine awp_region (sys _ _ []) 17 89 hU17_13 rfl rfl ?_
    iterate 3 refine c0_ rfl rfl .move rfl rfl ?_
    refine c0_ rfl rfl r_mul rfl rfl ?_
    obtain ⟨q_2, hq_2, hg⟩ := bind_some hg
    refine c0_ rfl rfl (r_shrK hq_2) rfl rfl ?_
    refine c0_ rfl rfl (r_conv_u8 und3 und5) rfl rfl ?_
    refine c0_ rfl rfl (r_buildFull sl82 z5 (by decide) rfl rfl rfl rfl ck5 (cs := [.int .u8 ((u8 q_2).toNat : Int)]) (.cons .int .nil) rfl (l := ([(u8 q_2)] : List UInt8)) (f := e8) rfl) rfl rfl ?_
    obtain ⟨l_3, hl_3, hg⟩ := bind_some hg
    refine ch_s (rd := [0, 65]) rfl rfl (r_append sl82 e8_len .row rfl .row rfl hl_3 rfl) rfl rfl ?_
    refine c0_ rfl rfl .assign rfl rfl ?_
    refine ch_n fun hU89_15 => ?_
    refine awp_region (sys _ _ []) 89 113 hU89_15 rfl rfl ?_
    refine c0_ rfl rfl .move rfl rfl ?_
    refine c0_ rfl rfl r_sub rfl rfl ?_
    refine c0_ rfl rfl .assign rfl rfl ?_
    refine ch_n fun hU113_16 => ?_
    obtain rfl := Option.some.inj hg
    exact ⟨((W (i_2 - 1), l_3), m2), Nat.lt_succ_self _, hn2, Sub.lists [(0, 73)] rfl rfl ⟨⟨_, rfl, .row rfl⟩, ⟨_, rfl, .val _⟩, ⟨_, rfl, .val _⟩, trivial⟩ ⟨.inl ⟨73, _, rfl, rfl, ⟨rfl, rfl, rfl⟩⟩, trivial⟩⟩
   ·replace hg := cond_f h14 hg
    refine awp_exit ?_
    repeat first | refine st_ ?_ | refine sn_ ?_
    replace hg := leave hg hn2
    refine sr_ 17 33 hU17_13 ?_
    refine c0_ rfl rfl .move rfl rfl ?_
    refine c0_ rfl rfl .assign rfl rfl ?_
    refine ch_n fun hU33_17 => ?_
    refine aw_r ?_
    obtain rfl := Option.some.inj hg
    exact ⟨[_], _, [_], [(0, 0)], .cons (.tmp rfl) .nil, ⟨rfl, rfl⟩, .row rfl, ⟨.inl ⟨0, _, rfl, rfl, ⟨rfl, rfl, rfl⟩⟩, trivial⟩, rfl, rfl, rfl, rfl⟩
theorem w_der_element_own (rec : api_Value → Option ((List UInt8))) (hrec : ∀ (v : api_Value) (r : (List UInt8)), rec v = some r → Fn Try.prog 106 0 [.agg [.val (.int .i64 v.Tag), .sl 1 (encL e8 v.Bytes), .val (.bool v.Nested), .sl 4 (encL api_Value.enc v.Elements)]] [] (fun d b => d = .sl 1 (encL e8 r) ∧ b = [])) (b : List UInt8) (v : api_Value) (r : (List UInt8)) (hg : g_der_element rec b v = some r) : Fn Try.prog 94 0 [.row 0, .agg [.val (.int .i64 v.Tag), .sl 1 (encL e8 v.Bytes), .val (.bool v.Nested), .sl 4 (encL api_Value.enc v.Elements)]] [.row 5 1 (encL e8 b)] (fun d b => d = .row 0 ∧ b = [.row 5 1 (encL e8 r)]) := by
 unfold g_der_element at hg
 refine Fn.of Try.func94 rfl rfl rfl fun w0 I ρ0 => ?_
 show awp _ ⟨w0, I, ρ0, 0, 1, 19⟩ _ _ _
 refine sr_ 1 17 mk_U ?_
 refine c0_ rfl rfl (.box rfl) rfl rfl ?_
 refine c0_ rfl rfl .assign rfl rfl ?_
 refine ch_n fun hU17_1 => ?_
 refine sr_ 17 41 hU17_1 ?_
 refine ch_s (rd := [1]) rfl rfl (.loadBA ty97 (Nat.le_of_ble_eq_true rfl)) rfl rfl ?_
 obtain ⟨y, hy, hg⟩ := bind_some hg
 refine ch_callP (rd := []) (ps := []) (gs := []) false rfl (hrec v _ hy) rfl rfl (.cons (.agg (.cons .val (.cons .sl (.cons .val (.cons .sl .nil))))) .nil) rfl rfl (by intro h; cases h) rfl rfl rfl rfl ?_
 refine c0_ rfl rfl .assign rfl rfl ?_
 refine ch_n fun hU41_2 => ?_
 refine sr_ 41 137 hU41_2 ?_
 refine c0_ rfl rfl .move rfl rfl ?_
 refine c0_ rfl rfl (.fieldP fd97_0 ty3 (by decide)) rfl rfl ?_
 refine ch_s (rd := [1]) rfl rfl (.loadB1 ty3 rfl) rfl rfl ?_
 refine c0_ rfl rfl (r_conv_u8 und3 und5) rfl rfl ?_
 refine c0_ rfl rfl (r_buildFull sl82 z5 (by decide) rfl rfl rfl rfl ck5 (cs := [.int .u8 ((u8 v.Tag).toNat : Int)]) (.cons .int .nil) rfl (l := ([(u8 v.Tag)] : List UInt8)) (f := e8) rfl) rfl rfl ?_
 obtain ⟨l, hl, hg⟩ := bind_some hg
 refine ch_s (rd := [0, 73]) rfl rfl (r_append sl82 e8_len .row rfl .row rfl hl rfl) rfl rfl ?_
 refine c0_ rfl rfl .move rfl rfl ?_
 refine c0_ rfl rfl (r_lenS sl82 e8_len) rfl rfl ?_
 obtain ⟨y_2, hy_2, hg⟩ := bind_some hg
 refine ch_call (rd := [81]) (ps := []) (gs := [81]) false rfl (w_der_length_own l (y.length : Int) _ hy_2) rfl rfl (.cons (.rowK rfl) (.cons .val .nil)) ⟨_, _, _, rfl, .head _, rfl, rfl⟩ rfl (by intro h; cases h) rfl (by intro h; first | (cases h; done) | exact ⟨_, _, ⟨rfl, rfl⟩, by simp, by simp⟩) ?_
 rintro _ _ ⟨rfl, rfl⟩
 refine c0_ rfl rfl .move rfl rfl ?_
 obtain ⟨l_2, hl_2, hg⟩ := bind_some hg
 refine ch_s (rd := [105]) rfl rfl (r_append sl82 e8_len .row rfl .sl rfl hl_2 rfl) rfl rfl ?_
 refine c0_ rfl rfl .assign rfl rfl ?_
 refine ch_n fun hU137_3 => ?_
 refine aw_r ?_
 obtain rfl := Option.some.inj hg
 exact ⟨[_], _, [_], [(0, 121)], .cons (.tmp rfl) .nil, ⟨rfl, rfl⟩, .row rfl, ⟨.inl ⟨121, _, rfl, rfl, ⟨rfl, rfl, rfl⟩⟩, trivial⟩, rfl, rfl, rfl, rfl⟩
theorem w_der_contents.F (rec : api_Value → Option ((List UInt8))) (hrec : ∀ (v : api_Value) (r : (List UInt8)), rec v = some r → Fn Try.prog 106 0 [.agg [.val (.int .i64 v.Tag), .sl 1 (encL e8 v.Bytes), .val (.bool v.Nested), .sl 4 (encL api_Value.enc v.Elements)]] [] (fun d b => d = .sl 1 (encL e8 r) ∧ b = [])) (v : api_Value) (r : (List UInt8)) (hg : g_der_contents.F rec v = some r) : Fn Try.prog 106 0 [.agg [.val (.int .i64 v.Tag), .sl 1 (encL e8 v.Bytes), .val (.bool v.Nested), .sl 4 (encL api_Value.enc v.Elements)]] [] (fun d b => d = .sl 1 (encL e8 r) ∧ b = []) := by
 unfold g_der_contents.F at hg
 refine Fn.of Try.func106 rfl rfl rfl fun w0 I ρ0 => ?_
 show awp _ ⟨w0, I, ρ0, 0, 0, 23⟩ _ _ _
 refine sr_ 0 16 mk_U ?_
 refine c0_ rfl rfl (.box rfl) rfl rfl ?_
 refine c0_ rfl rfl .assign rfl rfl ?_
 refine ch_n fun hU16_1 => ?_
 refine awp_seq ?_
 refine sr_ 16 40 hU16_1 ?_
 refine c0_ rfl rfl (.fieldP fd97_2 ty4 (by decide)) rfl rfl ?_
 refine ch_s (rd := [0]) rfl rfl (.loadB1 ty4 rfl) rfl rfl ?_
 refine c0_ rfl rfl r_not rfl rfl ?_
 refine ch_n fun hU40_2 => ?_
 refine awp_cond rfl (fun h3 => ?_) (fun h3 => ?_)
 ·replace hg := cond_t h3 hg
  refine sr_ 40 64 hU40_2 ?_
  refine c0_ rfl rfl (.fieldP fd97_1 ty82 (by decide)) rfl rfl ?_
  refine ch_s (rd := [0]) rfl rfl (.loadB1 ty82 rfl) rfl rfl ?_
  refine c0_ rfl rfl .assign rfl rfl ?_
  refine ch_n fun hU64_4 => ?_
  refine aw_r ?_
  obtain rfl := Option.some.inj hg
  exact ⟨[_], _, [], [], .cons (.tmp rfl) .nil, ⟨rfl, rfl⟩, .sl _ _, trivial, rfl, rfl, rfl, rfl⟩
 ·replace hg := cond_f h3 hg
  refine aw_s ?_
  refine sr_ 40 48 hU40_2 ?_
  refine c0_ rfl rfl .assign rfl rfl ?_
  refine ch_n fun hU48_5 => ?_
  refine awp_seq ?_
  refine sr_ 48 80 hU48_5 ?_
  refine c0_ rfl rfl (.fieldP fd97_3 ty95 (by decide)) rfl rfl ?_
  refine ch_s (rd := [0]) rfl rfl (.loadB1 ty95 rfl) rfl rfl ?_
  refine c0_ rfl rfl (r_lenS sl95 api_Value.enc_len) rfl rfl ?_
  refine c0_ rfl rfl .move rfl rfl ?_
  refine ch_n fun hU80_6 => ?_
  refine awp_block ?_
  obtain ⟨n1, hg⟩ := loop_some hg
  refine awp_loop (ι := (Int × List UInt8) × Nat) (fun (((x14_1, out_1), _) : (Int × List UInt8) × Nat) => mk [(3, .row 0), (12, .sl 4 (encL api_Value.enc v.Elements)), (13, .val (.int .i64 (v.Elements.length : Int))), (14, .val (.int .i64 x14_1))] [(0, .row 5 1 (encL e8 out_1))] 1) (fun (((x14_1, out_1), nq') : (Int × List UInt8) × Nat) => iter (fun q' => g_der_contents.l1 rec v q'.1 q'.2) nq' (x14_1, out_1) = some r) (fun q => q.2) ((0, ([] : List UInt8)), n1) (Sub.lists [] rfl rfl ⟨⟨_, rfl, .nil rfl⟩, ⟨_, rfl, .sl _ _⟩, ⟨_, rfl, .val _⟩, ⟨_, rfl, .val _⟩, trivial⟩ ⟨.inr ⟨rfl, _, _, rfl⟩, trivial⟩) hg ?_
  rintro ⟨⟨x14_1, out_1⟩, n1⟩ hg
  obtain ⟨m1, o1, rfl, hg, hn1⟩ := iter_some (show iter (fun q' => g_der_contents.l1 rec v q'.1 q'.2) n1 (x14_1, out_1) = some r from hg)
  replace hg : g_der_contents.l1 rec v x14_1 out_1 = some o1 := hg
  show awp _ _ _ _ (mk _ _ _)
  unfold g_der_contents.l1 at hg
  refine sr_ 1 9 mk_U ?_
  refine c0_ rfl rfl r_lss rfl rfl ?_
  refine ch_n fun hU9_7 => ?_
  refine awp_seq ?_
  refine awp_cond rfl (fun h8 => ?_) (fun h8 => ?_)
  ·replace hg := cond_t h8 hg
   refine aw_s ?_
   refine awp_seq ?_
   refine awp_block ?_
   refine sr_ 9 41 hU9_7 ?_
   obtain ⟨e, he, hg⟩ := bind_some hg
   refine c0_ rfl rfl (r_idxS sl95 api_Value.enc_len (getI_ix he) (getI_at he)) rfl rfl ?_
   refine c0_ rfl rfl (r_loadEA ty97 (enc_cells api_Value.enc_len (getI_at he) (o := 0) (m := 4) (cs := [.int .i64 e.Tag, .sl 1 (encL e8 e.Bytes), .bool e.Nested, .sl 4 (encL api_Value.enc e.Elements)]) (by simp only [api_Value.enc_eq]; rfl) (by decide) rfl) (enc_cells_le api_Value.enc_len (getI_at he) (o := 0) (m := 4) (by decide) rfl)) rfl rfl ?_
   refine c0_ rfl rfl (.alloc z97) rfl rfl ?_
   refine ch_s (rd := [25]) rfl rfl (r_storeB (ds' := [.val (.int .i64 e.Tag), .sl 1 (encL e8 e.Bytes), .val (.bool e.Nested), .sl 4 (encL api_Value.enc e.Elements)]) ty97 rfl (Nat.le_of_ble_eq_true rfl) rfl rfl) rfl rfl ?_
   refine ch_n fun hU41_9 => ?_
   refine awp_region (sys _ _ []) 41 73 hU41_9 rfl rfl ?_
   refine c0_ rfl rfl .move rfl rfl ?_
   refine ch_s (rd := [25]) rfl rfl (.loadBA ty97 (Nat.le_of_ble_eq_true rfl)) rfl rfl ?_
   obtain ⟨y, hy, hg⟩ := bind_some hg
   refine ch_call (rd := [0]) (ps := []) (gs := [0]) false rfl (w_der_element_own rec hrec out_1 e _ hy) rfl rfl (.cons (.rowK rfl) (.cons (.agg (.cons .val (.cons .sl (.cons .val (.cons .sl .nil))))) .nil)) ⟨_, _, _, rfl, .head _, rfl, rfl⟩ rfl (by intro h; cases h) rfl (by intro h; first | (cases h; done) | exact ⟨_, _, ⟨rfl, rfl⟩, by simp, by simp⟩) ?_
   rintro _ _ ⟨rfl, rfl⟩
   refine c0_ rfl rfl .assign rfl rfl ?_
   refine ch_n fun hU73_10 => ?_
   refine awp_region (sys _ _ []) 73 89 hU73_10 rfl rfl ?_
   refine c0_ rfl rfl r_add rfl rfl ?_
   refine c0_ rfl rfl .move rfl rfl ?_
   refine ch_n fun hU89_11 => ?_
   obtain rfl := Option.some.inj hg
   exact ⟨((W (x14_1 + 1), y), m1), Nat.lt_succ_self _, hn1, Sub.lists [(0, 57)] rfl rfl ⟨⟨_, rfl, .row rfl⟩, ⟨_, rfl, .sl _ _⟩, ⟨_, rfl, .val _⟩, ⟨_, rfl, .val _⟩, trivial⟩ ⟨.inl ⟨57, _, rfl, rfl, ⟨rfl, rfl, rfl⟩⟩, trivial⟩⟩
  ·replace hg := cond_f h8 hg
   refine awp_exit ?_
   repeat first | refine st_ ?_ | refine sn_ ?_
   replace hg := leave hg hn1
   refine sr_ 9 25 hU9_7 ?_
   refine c0_ rfl rfl .move rfl rfl ?_
   refine c0_ rfl rfl .assign rfl rfl ?_
   refine ch_n fun hU25_12 => ?_
   refine aw_r ?_
   obtain rfl := Option.some.inj hg
   exact ⟨[_], _, [], [], .cons (.tmp rfl) .nil, ⟨rfl, rfl⟩, .frz rfl (look_ne rfl), trivial, rfl, rfl, rfl, rfl⟩
theorem w_der_contents (v : api_Value) (r : (List UInt8)) (hg : g_der_contents v = some r) : Fn Try.prog 106 0 [.agg [.val (.int .i64 v.Tag), .sl 1 (encL e8 v.Bytes), .val (.bool v.Nested), .sl 4 (encL api_Value.enc v.Elements)]] [] (fun d b => d = .sl 1 (encL e8 r) ∧ b = []) :=
 fixT_ind (motive := fun (x : api_Value) (r : (List UInt8)) => Fn Try.prog 106 0 [.agg [.val (.int .i64 x.Tag), .sl 1 (encL e8 x.Bytes), .val (.bool x.Nested), .sl 4 (encL api_Value.enc x.Elements)]] [] (fun d b => d = .sl 1 (encL e8 r) ∧ b = [])) (fun rec hrec x r h => w_der_contents.F _ (fun v r h => hrec v r h) x r h) v r hg
theorem w_der_element_nil_own (v : api_Value) (r : (List UInt8)) (hg : g_der_element_nil v = some r) : Fn Try.prog 94 0 [.val (.slice none 0 0), .agg [.val (.int .i64 v.Tag), .sl 1 (encL e8 v.Bytes), .val (.bool v.Nested), .sl 4 (encL api_Value.enc v.Elements)]] [] (fun d b => d = .row 0 ∧ b = [.row 5 1 (encL e8 r)]) := by
 unfold g_der_element_nil at hg
 refine Fn.of Try.func94 rfl rfl rfl fun w0 I ρ0 => ?_
 show awp _ ⟨w0, I, ρ0, 0, 0, 19⟩ _ _ _
 refine sr_ 0 16 mk_U ?_
 refine c0_ rfl rfl (.box rfl) rfl rfl ?_
 refine c0_ rfl rfl .assign rfl rfl ?_
 refine ch_n fun hU16_1 => ?_
 refine sr_ 16 40 hU16_1 ?_
 refine ch_s (rd := [0]) rfl rfl (.loadBA ty97 (Nat.le_of_ble_eq_true rfl)) rfl rfl ?_
 obtain ⟨y, hy, hg⟩ := bind_some hg
 refine ch_callP (rd := []) (ps := []) (gs := []) false rfl (w_der_contents v _ hy) rfl rfl (.cons (.agg (.cons .val (.cons .sl (.cons .val (.cons .sl .nil))))) .nil) rfl rfl (by intro h; cases h) rfl rfl rfl rfl ?_
 refine c0_ rfl rfl .assign rfl rfl ?_
 refine ch_n fun hU40_2 => ?_
 refine sr_ 40 136 hU40_2 ?_
 refine c0_ rfl rfl .move rfl rfl ?_
 refine c0_ rfl rfl (.fieldP fd97_0 ty3 (by decide)) rfl rfl ?_
 refine ch_s (rd := [0]) rfl rfl (.loadB1 ty3 rfl) rfl rfl ?_
 refine c0_ rfl rfl (r_conv_u8 und3 und5) rfl rfl ?_
 refine c0_ rfl rfl (r_buildFull sl82 z5 (by decide) rfl rfl rfl rfl ck5 (cs := [.int .u8 ((u8 v.Tag).toNat : Int)]) (.cons .int .nil) rfl (l := ([(u8 v.Tag)] : List UInt8)) (f := e8) rfl) rfl rfl ?_
 obtain ⟨l, hl, hg⟩ := bind_some hg
 refine ch_s (rd := [72]) rfl rfl (r_append sl82 e8_len .nil rfl .row rfl hl rfl) rfl rfl ?_
 refine c0_ rfl rfl .move rfl rfl ?_
 refine c0_ rfl rfl (r_lenS sl82 e8_len) rfl rfl ?_
 obtain ⟨y_2, hy_2, hg⟩ := bind_some hg
 refine ch_call (rd := [80]) (ps := []) (gs := [80]) false rfl (w_der_length_own l (y.length : Int) _ hy_2) rfl rfl (.cons (.rowK rfl) (.cons .val .nil)) ⟨_, _, _, rfl, .head _, rfl, rfl⟩ rfl (by intro h; cases h) rfl (by intro h; first | (cases h; done) | exact ⟨_, _, ⟨rfl, rfl⟩, by simp, by simp⟩) ?_
 rintro _ _ ⟨rfl, rfl⟩
 refine c0_ rfl rfl .move rfl rfl ?_
 obtain ⟨l_2, hl_2, hg⟩ := bind_some hg
 refine ch_s (rd := [104]) rfl rfl (r_append sl82 e8_len .row rfl .sl rfl hl_2 rfl) rfl rfl ?_
 refine c0_ rfl rfl .assign rfl rfl ?_
 refine ch_n fun hU136_3 => ?_
 refine aw_r ?_
 obtain rfl := Option.some.inj hg
 exact ⟨[_], _, [_], [(0, 120)], .cons (.tmp rfl) .nil, ⟨rfl, rfl⟩, .row rfl, ⟨.inl ⟨120, _, rfl, rfl, ⟨rfl, rfl, rfl⟩⟩, trivial⟩, rfl, rfl, rfl, rfl⟩
theorem w_der_Encode (v : api_Value) (r : (List UInt8) × Int) (hg : g_der_Encode v = some r) : Fn Try.prog 82 0 [.agg [.val (.int .i64 v.Tag), .sl 1 (encL e8 v.Bytes), .val (.bool v.Nested), .sl 4 (encL api_Value.enc v.Elements)]] [] (fun d b => d = .tup [.sl 1 (encL e8 r.1), .val (.int .i64 r.2)] ∧ b = []) := by
 unfold g_der_Encode at hg
 refine Fn.of Try.func82 rfl rfl rfl fun w0 I ρ0 => ?_
 show awp _ ⟨w0, I, ρ0, 0, 0, 17⟩ _ _ _
 refine sr_ 0 24 mk_U ?_
 refine c0_ rfl rfl (.box rfl) rfl rfl ?_
 refine c0_ rfl rfl .assign rfl rfl ?_
 refine c0_ rfl rfl .assign rfl rfl ?_
 refine ch_n fun hU24_1 => ?_
 refine awp_seq ?_
 refine sr_ 24 48 hU24_1 ?_
 refine ch_s (rd := [0]) rfl rfl (.loadBA ty97 (Nat.le_of_ble_eq_true rfl)) rfl rfl ?_
 obtain ⟨y, hy, hg⟩ := bind_some hg
 refine ch_callP (rd := []) (ps := []) (gs := []) false rfl (w_der_formed v _ hy) rfl rfl (.cons (.agg (.cons .val (.cons .sl (.cons .val (.cons .sl .nil))))) .nil) rfl rfl (by intro h; cases h) rfl rfl rfl rfl ?_
 refine c0_ rfl rfl r_not rfl rfl ?_
 refine ch_n fun hU48_2 => ?_
 refine awp_cond rfl (fun h3 => ?_) (fun h3 => ?_)
 ·replace hg := cond_t h3 hg
  refine sr_ 48 64 hU48_2 ?_
  refine c0_ rfl rfl .assign rfl rfl ?_
  refine c0_ rfl rfl .assign rfl rfl ?_
  refine ch_n fun hU64_4 => ?_
  refine aw_r ?_
  obtain rfl := Option.some.inj hg
  exact ⟨[_, _], _, [], [], .cons (.tmp rfl) (.cons (.tmp rfl) .nil), ⟨rfl, rfl⟩, .tup (.cons (.nils _) (.cons (.val _) .nil)), trivial, rfl, rfl, rfl, rfl⟩
 ·replace hg := cond_f h3 hg
  refine aw_s ?_
  refine awp_seq ?_
  refine sr_ 48 72 hU48_2 ?_
  refine ch_s (rd := [0]) rfl rfl (.loadBA ty97 (Nat.le_of_ble_eq_true rfl)) rfl rfl ?_
  obtain ⟨y_2, hy_2, hg⟩ := bind_some hg
  refine ch_callP (rd := []) (ps := []) (gs := []) false rfl (w_der_depth v _ hy_2) rfl rfl (.cons (.agg (.cons .val (.cons .sl (.cons .val (.cons .sl .nil))))) .nil) rfl rfl (by intro h; cases h) rfl rfl rfl rfl ?_
  refine c0_ rfl rfl r_gtr rfl rfl ?_
  refine ch_n fun hU72_5 => ?_
  refine awp_cond rfl (fun h6 => ?_) (fun h6 => ?_)
  ·replace hg := cond_t h6 hg
   refine sr_ 72 88 hU72_5 ?_
   refine c0_ rfl rfl .assign rfl rfl ?_
   refine c0_ rfl rfl .assign rfl rfl ?_
   refine ch_n fun hU88_7 => ?_
   refine aw_r ?_
   obtain rfl := Option.some.inj hg
   exact ⟨[_, _], _, [], [], .cons (.tmp rfl) (.cons (.tmp rfl) .nil), ⟨rfl, rfl⟩, .tup (.cons (.nils _) (.cons (.val _) .nil)), trivial, rfl, rfl, rfl, rfl⟩
  ·replace hg := cond_f h6 hg
   refine aw_s ?_
   refine sr_ 72 96 hU72_5 ?_
   refine ch_s (rd := [0]) rfl rfl (.loadBA ty97 (Nat.le_of_ble_eq_true rfl)) rfl rfl ?_
   obtain ⟨y_3, hy_3, hg⟩ := bind_some hg
   refine ch_call (rd := []) (ps := []) (gs := []) false rfl (w_der_element_nil_own v _ hy_3) rfl rfl (.cons .val (.cons (.agg (.cons .val (.cons .sl (.cons .val (.cons .sl .nil))))) .nil)) rfl rfl (by intro h; cases h) rfl (by intro h; first | (cases h; done) | exact ⟨_, _, ⟨rfl, rfl⟩, by simp, by simp⟩) ?_
   rintro _ _ ⟨rfl, rfl⟩
   refine c0_ rfl rfl .assign rfl rfl ?_
   refine ch_n fun hU96_8 => ?_
   refine awp_seq ?_
   refine sr_ 96 120 hU96_8 ?_
   refine c0_ rfl rfl .move rfl rfl ?_
   refine ch_s (rd := [80]) rfl rfl (r_lenR sl82 e8_len) rfl rfl ?_
   refine c0_ rfl rfl r_gtr rfl rfl ?_
   refine ch_n fun hU120_9 => ?_
   refine awp_cond rfl (fun h10 => ?_) (fun h10 => ?_)
   ·replace hg := cond_t h10 hg
    refine sr_ 120 136 hU120_9 ?_
    refine c0_ rfl rfl .assign rfl rfl ?_
    refine c0_ rfl rfl .assign rfl rfl ?_
    refine ch_n fun hU136_11 => ?_
    refine aw_r ?_
    obtain rfl := Option.some.inj hg
    exact ⟨[_, _], _, [], [], .cons (.tmp rfl) (.cons (.tmp rfl) .nil), ⟨rfl, rfl⟩, .tup (.cons (.nils _) (.cons (.val _) .nil)), trivial, rfl, rfl, rfl, rfl⟩
   ·replace hg := cond_f h10 hg
    refine aw_s ?_
    refine sr_ 120 144 hU120_9 ?_
    refine c0_ rfl rfl .move rfl rfl ?_
    refine c0_ rfl rfl .assign rfl rfl ?_
    refine c0_ rfl rfl .assign rfl rfl ?_
    refine ch_n fun hU144_12 => ?_
    refine aw_r ?_
    obtain rfl := Option.some.inj hg
    exact ⟨[_, _], _, [], [], .cons (.tmp rfl) (.cons (.tmp rfl) .nil), ⟨rfl, rfl⟩, .tup (.cons (.frz rfl (look_ne rfl)) (.cons (.val _) .nil)), trivial, rfl, rfl, rfl, rfl⟩
theorem w_certificate_Bytes (c : api_Certificate) (r : (List UInt8) × Int) (hg : g_certificate_Bytes c = some r) : Fn Try.prog 68 0 [.agg [.val (.int .i64 c.Serial), .val (.string c.Issuer), .val (.string c.Subject), .val (.int .i64 c.Key.Alg), .val (.int .i64 c.Key.Bits), .val (.int .i64 c.KeyId), .val (.int .i64 c.Hash.Alg), .val (.int .i64 c.Hash.Bits), .val (.int .i64 c.From), .val (.int .i64 c.To), .val (.bool c.Authority), .val (.int .i64 c.Path), .sl 1 (encL eS c.Names), .val (.int .i64 c.Seal.Key), .val (.int .i64 c.Seal.Sum)]] [] (fun d b => d = .tup [.sl 1 (encL e8 r.1), .val (.int .i64 r.2)] ∧ b = []) := by
 unfold g_certificate_Bytes at hg
 refine Fn.of Try.func68 rfl rfl rfl fun w0 I ρ0 => ?_
 show awp _ ⟨w0, I, ρ0, 0, 0, 12⟩ _ _ _
 refine sr_ 0 24 mk_U ?_
 refine c0_ rfl rfl (.box rfl) rfl rfl ?_
 refine c0_ rfl rfl .assign rfl rfl ?_
 refine c0_ rfl rfl .assign rfl rfl ?_
 refine ch_n fun hU24_1 => ?_
 refine awp_seq ?_
 refine sr_ 24 48 hU24_1 ?_
 refine ch_s (rd := [0]) rfl rfl (.loadBA ty45 (Nat.le_of_ble_eq_true rfl)) rfl rfl ?_
 obtain ⟨y, hy, hg⟩ := bind_some hg
 refine ch_callP (rd := []) (ps := []) (gs := []) false rfl (w_certificate_valid c _ hy) rfl rfl (.cons (.agg (.cons .val (.cons .val (.cons .val (.cons .val (.cons .val (.cons .val (.cons .val (.cons .val (.cons .val (.cons .val (.cons .val (.cons .val (.cons .sl (.cons .val (.cons .val .nil)))))))))))))))) .nil) rfl rfl (by intro h; cases h) rfl rfl rfl rfl ?_
 refine c0_ rfl rfl r_not rfl rfl ?_
 refine ch_n fun hU48_2 => ?_
 refine awp_cond rfl (fun h3 => ?_) (fun h3 => ?_)
 ·replace hg := cond_t h3 hg
  refine sr_ 48 64 hU48_2 ?_
  refine c0_ rfl rfl .assign rfl rfl ?_
  refine c0_ rfl rfl .assign rfl rfl ?_
  refine ch_n fun hU64_4 => ?_
  refine aw_r ?_
  obtain rfl := Option.some.inj hg
  exact ⟨[_, _], _, [], [], .cons (.tmp rfl) (.cons (.tmp rfl) .nil), ⟨rfl, rfl⟩, .tup (.cons (.nils _) (.cons (.val _) .nil)), trivial, rfl, rfl, rfl, rfl⟩
 ·replace hg := cond_f h3 hg
  refine aw_s ?_
  refine sr_ 48 104 hU48_2 ?_
  refine ch_s (rd := [0]) rfl rfl (.loadBA ty45 (Nat.le_of_ble_eq_true rfl)) rfl rfl ?_
  obtain ⟨y_2, hy_2, hg⟩ := bind_some hg
  refine ch_callP (rd := []) (ps := []) (gs := []) false rfl (w_certificate_body c _ hy_2) rfl rfl (.cons (.agg (.cons .val (.cons .val (.cons .val (.cons .val (.cons .val (.cons .val (.cons .val (.cons .val (.cons .val (.cons .val (.cons .val (.cons .val (.cons .sl (.cons .val (.cons .val .nil)))))))))))))))) .nil) rfl rfl (by intro h; cases h) rfl rfl rfl rfl ?_
  obtain ⟨y_3, hy_3, hg⟩ := bind_some hg
  refine ch_callP (rd := []) (ps := []) (gs := []) false rfl (w_der_Encode y_2 _ hy_3) rfl rfl (.cons (.agg (.cons .val (.cons .sl (.cons .val (.cons .sl .nil))))) .nil) rfl rfl (by intro h; cases h) rfl rfl rfl rfl ?_
  refine c0_ rfl rfl (.extract rfl) rfl rfl ?_
  refine c0_ rfl rfl (.extract rfl) rfl rfl ?_
  refine c0_ rfl rfl .assign rfl rfl ?_
  refine c0_ rfl rfl .assign rfl rfl ?_
  refine ch_n fun hU104_5 => ?_
  refine aw_r ?_
  obtain rfl := Option.some.inj hg
  exact ⟨[_, _], _, [], [], .cons (.tmp rfl) (.cons (.tmp rfl) .nil), ⟨rfl, rfl⟩, .tup (.cons (.sl _ _) (.cons (.val _) .nil)), trivial, rfl, rfl, rfl, rfl⟩
theorem w_certificate_Sum (b : (List UInt8)) (r : Int) (hg : g_certificate_Sum b = some r) : Fn Try.prog 69 0 [.sl 1 (encL e8 b)] [] (fun d b => d = .val (.int .i64 r) ∧ b = []) := by
 unfold g_certificate_Sum at hg
 refine Fn.of Try.func69 rfl rfl rfl fun w0 I ρ0 => ?_
 show awp _ ⟨w0, I, ρ0, 0, 0, 20⟩ _ _ _
 refine sr_ 0 8 mk_U ?_
 refine c0_ rfl rfl .assign rfl rfl ?_
 refine ch_n fun hU8_1 => ?_
 refine sr_ 8 16 hU8_1 ?_
 refine c0_ rfl rfl .assign rfl rfl ?_
 refine ch_n fun hU16_2 => ?_
 refine awp_seq ?_
 refine sr_ 16 40 hU16_2 ?_
 refine c0_ rfl rfl .move rfl rfl ?_
 refine c0_ rfl rfl (r_lenS sl82 e8_len) rfl rfl ?_
 refine c0_ rfl rfl .move rfl rfl ?_
 refine ch_n fun hU40_3 => ?_
 refine awp_block ?_
 obtain ⟨n1, hg⟩ := loop_some hg
 refine awp_loop (ι := (Int × Int) × Nat) (fun (((s_1, x8_1), _) : (Int × Int) × Nat) => mk [(3, .val (.int .u32 s_1)), (6, .sl 1 (encL e8 b)), (7, .val (.int .i64 (b.length : Int))), (8, .val (.int .i64 x8_1))] [] 0) (fun (((s_1, x8_1), nq') : (Int × Int) × Nat) => iter (fun q' => g_certificate_Sum.l1 b q'.1 q'.2) nq' (s_1, x8_1) = some r) (fun q => q.2) ((2166136261, 0), n1) (Sub.lists [] rfl rfl ⟨⟨_, rfl, .val _⟩, ⟨_, rfl, .sl _ _⟩, ⟨_, rfl, .val _⟩, ⟨_, rfl, .val _⟩, trivial⟩ trivial) hg ?_
 rintro ⟨⟨s_1, x8_1⟩, n1⟩ hg
 obtain ⟨m1, o1, rfl, hg, hn1⟩ := iter_some (show iter (fun q' => g_certificate_Sum.l1 b q'.1 q'.2) n1 (s_1, x8_1) = some r from hg)
 replace hg : g_certificate_Sum.l1 b s_1 x8_1 = some o1 := hg
 show awp _ _ _ _ (mk _ _ _)
 unfold g_certificate_Sum.l1 at hg
 refine sr_ 0 8 mk_U ?_
 refine c0_ rfl rfl r_lss rfl rfl ?_
 refine ch_n fun hU8_4 => ?_
 refine awp_seq ?_
 refine awp_cond rfl (fun h5 => ?_) (fun h5 => ?_)
 ·replace hg := cond_t h5 hg
  refine aw_s ?_
  refine awp_seq ?_
  refine awp_block ?_
  refine sr_ 8 32 hU8_4 ?_
  obtain ⟨e, he, hg⟩ := bind_some hg
  refine c0_ rfl rfl (r_idxS sl82 e8_len (getI_ix he) (getI_at he)) rfl rfl ?_
  refine c0_ rfl rfl (r_loadE1 ty5 (enc_cell e8_len (getI_at he) (o := 0) (c := .int .u8 (e.toNat : Int)) rfl rfl)) rfl rfl ?_
  refine c0_ rfl rfl .assign rfl rfl ?_
  refine ch_n fun hU32_6 => ?_
  refine awp_region (sys _ _ []) 32 80 hU32_6 rfl rfl ?_
  refine c0_ rfl rfl .move rfl rfl ?_
  refine c0_ rfl rfl .move rfl rfl ?_
  refine c0_ rfl rfl (r_convK und5 und99) rfl rfl ?_
  refine c0_ rfl rfl r_xorK rfl rfl ?_
  refine c0_ rfl rfl r_mulK rfl rfl ?_
  refine c0_ rfl rfl .assign rfl rfl ?_
  refine ch_n fun hU80_7 => ?_
  refine awp_region (sys _ _ []) 80 96 hU80_7 rfl rfl ?_
  refine c0_ rfl rfl r_add rfl rfl ?_
  refine c0_ rfl rfl .move rfl rfl ?_
  refine ch_n fun hU96_8 => ?_
  obtain rfl := Option.some.inj hg
  exact ⟨((IntKind.wrap .u32 ((xorK .u32 s_1 (IntKind.wrap .u32 (e.toNat : Int))) * 16777619), W (x8_1 + 1)), m1), Nat.lt_succ_self _, hn1, Sub.lists [] rfl rfl ⟨⟨_, rfl, .val _⟩, ⟨_, rfl, .sl _ _⟩, ⟨_, rfl, .val _⟩, ⟨_, rfl, .val _⟩, trivial⟩ trivial⟩
 ·replace hg := cond_f h5 hg
  refine awp_exit ?_
  repeat first | refine st_ ?_ | refine sn_ ?_
  replace hg := leave hg hn1
  refine sr_ 8 32 hU8_4 ?_
  refine c0_ rfl rfl .move rfl rfl ?_
  refine c0_ rfl rfl (r_conv_i64 und99 und3) rfl rfl ?_
  refine c0_ rfl rfl .assign rfl rfl ?_
  refine ch_n fun hU32_9 => ?_
  refine aw_r ?_
  obtain rfl := Option.some.inj hg
  exact ⟨[_], _, [], [], .cons (.tmp rfl) .nil, ⟨rfl, rfl⟩, .val _, trivial, rfl, rfl, rfl, rfl⟩
theorem w_certificate_Sealed (c : api_Certificate) (key : Int) (r : Bool) (hg : g_certificate_Sealed c key = some r) : Fn Try.prog 51 0 [.agg [.val (.int .i64 c.Serial), .val (.string c.Issuer), .val (.string c.Subject), .val (.int .i64 c.Key.Alg), .val (.int .i64 c.Key.Bits), .val (.int .i64 c.KeyId), .val (.int .i64 c.Hash.Alg), .val (.int .i64 c.Hash.Bits), .val (.int .i64 c.From), .val (.int .i64 c.To), .val (.bool c.Authority), .val (.int .i64 c.Path), .sl 1 (encL eS c.Names), .val (.int .i64 c.Seal.Key), .val (.int .i64 c.Seal.Sum)], .val (.int .i64 key)] [] (fun d b => d = .val (.bool r) ∧ b = []) := by
 unfold g_certificate_Sealed at hg
 refine Fn.of Try.func51 rfl rfl rfl fun w0 I ρ0 => ?_
 show awp _ ⟨w0, I, ρ0, 0, 0, 23⟩ _ _ _
 refine sr_ 0 16 mk_U ?_
 refine c0_ rfl rfl (.box rfl) rfl rfl ?_
 refine c0_ rfl rfl .assign rfl rfl ?_
 refine ch_n fun hU16_1 => ?_
 refine sr_ 16 72 hU16_1 ?_
 refine ch_s (rd := [0]) rfl rfl (.loadBA ty45 (Nat.le_of_ble_eq_true rfl)) rfl rfl ?_
 obtain ⟨y, hy, hg⟩ := bind_some hg
 refine ch_callP (rd := []) (ps := []) (gs := []) false rfl (w_certificate_Bytes c _ hy) rfl rfl (.cons (.agg (.cons .val (.cons .val (.cons .val (.cons .val (.cons .val (.cons .val (.cons .val (.cons .val (.cons .val (.cons .val (.cons .val (.cons .val (.cons .sl (.cons .val (.cons .val .nil)))))))))))))))) .nil) rfl rfl (by intro h; cases h) rfl rfl rfl rfl ?_
 refine c0_ rfl rfl .move rfl rfl ?_
 refine c0_ rfl rfl (.extract rfl) rfl rfl ?_
 refine c0_ rfl rfl (.extract rfl) rfl rfl ?_
 refine c0_ rfl rfl .assign rfl rfl ?_
 refine c0_ rfl rfl .assign rfl rfl ?_
 refine ch_n fun hU72_2 => ?_
 refine awp_seq ?_
 refine awp_draw (sys _ _ []) (by kernel_rfl) [0, 1, 3, 7, 15, 7, 7, 71, 231, 511, 1023, 2047] 72 168 hU72_2 rfl rfl (by kernel_rfl) ?_
 refine c0_ rfl rfl .move rfl rfl ?_
 refine c0_ rfl rfl r_eql rfl rfl ?_
 refine c0_ rfl rfl .move rfl rfl ?_
 rcases Bool.eq_false_or_eq_true (decide (y.2 = 0)) with h3 | h3
 ·replace hg := cond_t h3 hg
  refine c0_ (gdv_t rfl rfl h3) rfl (.fieldP fd45_11 ty43 (by decide)) rfl rfl ?_
  refine ch_s (rd := [0]) (gdv_t rfl rfl h3) rfl (.loadBA ty43 (Nat.le_of_ble_eq_true rfl)) rfl rfl ?_
  refine c0_ (gdv_t rfl rfl h3) rfl .move rfl rfl ?_
  refine c0_ (gdv_t rfl rfl h3) rfl .move rfl rfl ?_
  obtain ⟨y_2, hy_2, hg⟩ := bind_some hg
  refine ch_callP (rd := []) (ps := []) (gs := []) false (gdv_t rfl rfl h3) (w_certificate_Sum y.1 _ hy_2) rfl rfl (.cons .sl .nil) rfl rfl (by intro h; cases h) rfl rfl rfl rfl ?_
  refine c0_ (gdv_t rfl rfl h3) rfl (.build (r := [.val (.int .i64 key), .val (.int .i64 y_2)]) und43 pl43 z43 (by kernel_rfl) rfl) rfl rfl ?_
  refine c0_ (gdv_t rfl rfl h3) rfl (steq43_eql c.Seal (api_Seal.mk key y_2)) rfl rfl ?_
  refine c0_ rfl rfl (r_pickT h3) rfl rfl ?_
  refine c0_ rfl rfl .assign rfl rfl ?_
  refine ch_n fun hU168_4 => ?_
  refine aw_r ?_
  obtain rfl := Option.some.inj hg
  exact ⟨[_], _, [], [], .cons (.tmp rfl) .nil, ⟨rfl, rfl⟩, .val _, trivial, rfl, rfl, rfl, rfl⟩
 ·replace hg := cond_f h3 hg
  iterate 7 refine ch_skip (gdv_f rfl rfl h3) rfl ?_
  refine c0_ rfl rfl (r_pickF h3) rfl rfl ?_
  refine c0_ rfl rfl .assign rfl rfl ?_
  refine ch_n fun hU168_5 => ?_
  refine aw_r ?_
  obtain rfl := Option.some.inj hg
  exact ⟨[_], _, [], [], .cons (.tmp rfl) .nil, ⟨rfl, rfl⟩, .val _, trivial, rfl, rfl, rfl, rfl⟩
theorem w_chain_fails (l : (List api_Certificate)) (e : Int) (r : Bool) (hg : g_chain_fails l e = some r) : Fn Try.prog 36 0 [.sl 15 (encL api_Certificate.enc l), .val (.int .i64 e)] [] (fun d b => d = .val (.bool r) ∧ b = []) := by
 unfold g_chain_fails at hg
 refine Fn.of Try.func36 rfl rfl rfl fun w0 I ρ0 => ?_
 show awp _ ⟨w0, I, ρ0, 0, 0, 51⟩ _ _ _
 refine sr_ 0 8 mk_U ?_
 refine c0_ rfl rfl .assign rfl rfl ?_
 refine ch_n fun hU8_1 => ?_
 refine awp_seq ?_
 refine sr_ 8 32 hU8_1 ?_
 refine c0_ rfl rfl .move rfl rfl ?_
 refine c0_ rfl rfl (r_lenS sl27 api_Certificate.enc_len) rfl rfl ?_
 refine c0_ rfl rfl .move rfl rfl ?_
 refine ch_n fun hU32_2 => ?_
 refine awp_block ?_
 obtain ⟨n1, hg⟩ := loop_some hg
 refine awp_loop (ι := (Int) × Nat) (fun ((x9_1, _) : (Int) × Nat) => mk [(0, .sl 15 (encL api_Certificate.enc l)), (1, .val (.int .i64 e)), (8, .val (.int .i64 (l.length : Int))), (9, .val (.int .i64 x9_1))] [] 0) (fun ((x9_1, nq') : (Int) × Nat) => iter (fun q' => g_chain_fails.l1 l e q') nq' x9_1 = some r) (fun q => q.2) (0, n1) (Sub.lists [] rfl rfl ⟨⟨_, rfl, .sl _ _⟩, ⟨_, rfl, .val _⟩, ⟨_, rfl, .val _⟩, ⟨_, rfl, .val _⟩, trivial⟩ trivial) hg ?_
 rintro ⟨x9_1, n1⟩ hg
 obtain ⟨m1, o1, rfl, hg, hn1⟩ := iter_some (show iter (fun q' => g_chain_fails.l1 l e q') n1 x9_1 = some r from hg)
 replace hg : g_chain_fails.l1 l e x9_1 = some o1 := hg
 show awp _ _ _ _ (mk _ _ _)
 unfold g_chain_fails.l1 at hg
 refine sr_ 0 8 mk_U ?_
 refine c0_ rfl rfl r_lss rfl rfl ?_
 refine ch_n fun hU8_3 => ?_
 refine awp_seq ?_
 refine awp_cond rfl (fun h4 => ?_) (fun h4 => ?_)
 ·replace hg := cond_t h4 hg
  refine aw_s ?_
  refine awp_seq ?_
  refine awp_block ?_
  refine sr_ 8 24 hU8_3 ?_
  refine c0_ rfl rfl .move rfl rfl ?_
  refine c0_ rfl rfl .assign rfl rfl ?_
  refine ch_n fun hU24_5 => ?_
  refine sr_ 24 32 hU24_5 ?_
  refine c0_ rfl rfl .assign rfl rfl ?_
  refine ch_n fun hU32_6 => ?_
  refine awp_cut (ι := Bool) (fun (wrong_2 : Bool) => mk [(0, .sl 15 (encL api_Certificate.enc l)), (1, .val (.int .i64 e)), (6, .val (.bool wrong_2)), (8, .val (.int .i64 (l.length : Int))), (9, .val (.int .i64 x9_1))] [] 0) (fun (wrong_2 : Bool) => g_chain_fails.j2 x9_1 wrong_2 = some o1) ?_ ?_
  ·refine awp_seq ?_
   refine awp_region (sys _ _ []) 32 40 hU32_6 rfl rfl ?_
   refine c0_ rfl rfl .move rfl rfl ?_
   refine ch_n fun hU40_7 => ?_
   refine awp_block ?_
   refine sr_ 40 56 hU40_7 ?_
   refine c0_ rfl rfl r_eql rfl rfl ?_
   refine c0_ rfl rfl .assign rfl rfl ?_
   refine ch_n fun hU56_8 => ?_
   refine awp_cond rfl (fun h9 => ?_) (fun h9 => ?_)
   ·replace hg := cond_t h9 hg
    refine awp_draw (sys _ _ []) (by kernel_rfl) [0, 1, 0, 4, 15, 31, 63, 63, 255, 511, 1023, 63, 63, 4159, 14399, 30783, 63551, 131071, 262143, 524287] 56 216 hU56_8 rfl rfl (by kernel_rfl) ?_
    refine c0_ rfl rfl .move rfl rfl ?_
    refine c0_ rfl rfl r_add rfl rfl ?_
    refine c0_ rfl rfl .move rfl rfl ?_
    refine c0_ rfl rfl (r_lenS sl27 api_Certificate.enc_len) rfl rfl ?_
    refine c0_ rfl rfl r_lss rfl rfl ?_
    refine c0_ rfl rfl .move rfl rfl ?_
    rcases Bool.eq_false_or_eq_true (decide ((W (x9_1 + 1)) < (l.length : Int))) with h10 | h10
    ·replace hg := cond_t h10 hg
     refine c0_ (gdv_t rfl rfl h10) rfl .move rfl rfl ?_
     refine c0_ (gdv_t rfl rfl h10) rfl .move rfl rfl ?_
     obtain ⟨e_2, he_2, hg⟩ := bind_some hg
     refine c0_ (gdv_t rfl rfl h10) rfl (r_idxS sl27 api_Certificate.enc_len (getI_ix he_2) (getI_at he_2)) rfl rfl ?_
     refine c0_ (gdv_t rfl rfl h10) rfl (r_fieldE fd45_1 ty9 (by decide) (enc_lt api_Certificate.enc_len (getI_at he_2) (o := 1) (by decide) rfl)) rfl rfl ?_
     refine c0_ (gdv_t rfl rfl h10) rfl (r_loadE1 ty9 (enc_cell api_Certificate.enc_len (getI_at he_2) (o := 1) (c := .str e_2.Issuer) rfl rfl)) rfl rfl ?_
     refine c0_ (gdv_t rfl rfl h10) rfl .move rfl rfl ?_
     refine c0_ (gdv_t rfl rfl h10) rfl .move rfl rfl ?_
     refine c0_ (gdv_t rfl rfl h10) rfl r_add rfl rfl ?_
     obtain ⟨e_3, he_3, hg⟩ := bind_some hg
     refine c0_ (gdv_t rfl rfl h10) rfl (r_idxS sl27 api_Certificate.enc_len (getI_ix he_3) (getI_at he_3)) rfl rfl ?_
     refine c0_ (gdv_t rfl rfl h10) rfl (r_fieldE fd45_2 ty9 (by decide) (enc_lt api_Certificate.enc_len (getI_at he_3) (o := 2) (by decide) rfl)) rfl rfl ?_
     refine c0_ (gdv_t rfl rfl h10) rfl (r_loadE1 ty9 (enc_cell api_Certificate.enc_len (getI_at he_3) (o := 2) (c := .str e_3.Subject) rfl rfl)) rfl rfl ?_
     refine c0_ (gdv_t rfl rfl h10) rfl r_sneq rfl rfl ?_
     refine c0_ rfl rfl (r_pickT h10) rfl rfl ?_
     refine c0_ rfl rfl .assign rfl rfl ?_
     refine ch_n fun hU216_11 => ?_
     exact ⟨!decide (e_2.Issuer = e_3.Subject), hg, Sub.lists [] rfl rfl ⟨⟨_, rfl, .sl _ _⟩, ⟨_, rfl, .val _⟩, ⟨_, rfl, .val _⟩, ⟨_, rfl, .val _⟩, ⟨_, rfl, .val _⟩, trivial⟩ trivial⟩
    ·replace hg := cond_f h10 hg
     iterate 12 refine ch_skip (gdv_f rfl rfl h10) rfl ?_
     refine c0_ rfl rfl (r_pickF h10) rfl rfl ?_
     refine c0_ rfl rfl .assign rfl rfl ?_
     refine ch_n fun hU216_12 => ?_
     exact ⟨false, hg, Sub.lists [] rfl rfl ⟨⟨_, rfl, .sl _ _⟩, ⟨_, rfl, .val _⟩, ⟨_, rfl, .val _⟩, ⟨_, rfl, .val _⟩, ⟨_, rfl, .val _⟩, trivial⟩ trivial⟩
   ·replace hg := cond_f h9 hg
    refine sr_ 56 72 hU56_8 ?_
    refine c0_ rfl rfl r_eql rfl rfl ?_
    refine c0_ rfl rfl .assign rfl rfl ?_
    refine ch_n fun hU72_13 => ?_
    refine awp_cond rfl (fun h14 => ?_) (fun h14 => ?_)
    ·replace hg := cond_t h14 hg
     refine awp_region (sys _ _ []) 72 112 hU72_13 rfl rfl ?_
     refine c0_ rfl rfl .move rfl rfl ?_
     refine c0_ rfl rfl .move rfl rfl ?_
     obtain ⟨y, hy, hg⟩ := bind_some hg
     refine ch_callP (rd := []) (ps := []) (gs := []) false rfl (w_chain_Path l x9_1 _ hy) rfl rfl (.cons .sl (.cons .val .nil)) rfl rfl (by intro h; cases h) rfl rfl rfl rfl ?_
     refine c0_ rfl rfl r_not rfl rfl ?_
     refine c0_ rfl rfl .assign rfl rfl ?_
     refine ch_n fun hU112_15 => ?_
     exact ⟨!y, hg, Sub.lists [] rfl rfl ⟨⟨_, rfl, .sl _ _⟩, ⟨_, rfl, .val _⟩, ⟨_, rfl, .val _⟩, ⟨_, rfl, .val _⟩, ⟨_, rfl, .val _⟩, trivial⟩ trivial⟩
    ·replace hg := cond_f h14 hg
     refine awp_draw (sys _ _ []) (by kernel_rfl) [0, 0, 3, 7, 0, 0, 48, 127, 255, 511] 72 152 hU72_13 rfl rfl (by kernel_rfl) ?_
     refine c0_ rfl rfl .move rfl rfl ?_
     refine c0_ rfl rfl .move rfl rfl ?_
     obtain ⟨e_4, he_4, hg⟩ := bind_some hg
     refine c0_ rfl rfl (r_idxS sl27 api_Certificate.enc_len (getI_ix he_4) (getI_at he_4)) rfl rfl ?_
     refine c0_ rfl rfl (r_loadEA ty45 (enc_cells api_Certificate.enc_len (getI_at he_4) (o := 0) (m := 15) (cs := [.int .i64 e_4.Serial, .str e_4.Issuer, .str e_4.Subject, .int .i64 e_4.Key.Alg, .int .i64 e_4.Key.Bits, .int .i64 e_4.KeyId, .int .i64 e_4.Hash.Alg, .int .i64 e_4.Hash.Bits, .int .i64 e_4.From, .int .i64 e_4.To, .bool e_4.Authority, .int .i64 e_4.Path, .sl 1 (encL eS e_4.Names), .int .i64 e_4.Seal.Key, .int .i64 e_4.Seal.Sum]) rfl (by decide) rfl) (enc_cells_le api_Certificate.enc_len (getI_at he_4) (o := 0) (m := 15) (by decide) rfl)) rfl rfl ?_
     refine c0_ rfl rfl .move rfl rfl ?_
     refine c0_ rfl rfl .move rfl rfl ?_
     obtain ⟨y_2, hy_2, hg⟩ := bind_some hg
     refine ch_callP (rd := []) (ps := []) (gs := []) false rfl (w_chain_sealer l x9_1 _ hy_2) rfl rfl (.cons .sl (.cons .val .nil)) rfl rfl (by intro h; cases h) rfl rfl rfl rfl ?_
     obtain ⟨y_3, hy_3, hg⟩ := bind_some hg
     refine ch_callP (rd := []) (ps := []) (gs := []) false rfl (w_certificate_Sealed e_4 y_2 _ hy_3) rfl rfl (.cons (.agg (.cons .val (.cons .val (.cons .val (.cons .val (.cons .val (.cons .val (.cons .val (.cons .val (.cons .val (.cons .val (.cons .val (.cons .val (.cons .sl (.cons .val (.cons .val .nil)))))))))))))))) (.cons .val .nil)) rfl rfl (by intro h; cases h) rfl rfl rfl rfl ?_
     refine c0_ rfl rfl r_not rfl rfl ?_
     refine c0_ rfl rfl .assign rfl rfl ?_
     refine ch_n fun hU152_16 => ?_
     exact ⟨!y_3, hg, Sub.lists [] rfl rfl ⟨⟨_, rfl, .sl _ _⟩, ⟨_, rfl, .val _⟩, ⟨_, rfl, .val _⟩, ⟨_, rfl, .val _⟩, ⟨_, rfl, .val _⟩, trivial⟩ trivial⟩
  ·rintro wrong_2 hg
   replace hg : g_chain_fails.j2 x9_1 wrong_2 = some o1 := hg
   show awp _ _ _ _ (mk _ _ _)
   unfold g_chain_fails.j2 at hg
   refine sr_ 0 8 mk_U ?_
   refine c0_ rfl rfl .move rfl rfl ?_
   refine ch_n fun hU8_17 => ?_
   refine awp_cond rfl (fun h18 => ?_) (fun h18 => ?_)
   ·replace hg := cond_t h18 hg
    refine sr_ 8 16 hU8_17 ?_
    refine c0_ rfl rfl .assign rfl rfl ?_
    refine ch_n fun hU16_19 => ?_
    refine aw_r ?_
    replace hg := leave hg hn1
    obtain rfl := Option.some.inj hg
    exact ⟨[_], _, [], [], .cons (.tmp rfl) .nil, ⟨rfl, rfl⟩, .val _, trivial, rfl, rfl, rfl, rfl⟩
   ·replace hg := cond_f h18 hg
    refine aw_s ?_
    refine awp_region (sys _ _ []) 8 24 hU8_17 rfl rfl ?_
    refine c0_ rfl rfl r_add rfl rfl ?_
    refine c0_ rfl rfl .move rfl rfl ?_
    refine ch_n fun hU24_20 => ?_
    obtain rfl := Option.some.inj hg
    exact ⟨(W (x9_1 + 1), m1), Nat.lt_succ_self _, hn1, Sub.lists [] rfl rfl ⟨⟨_, rfl, .sl _ _⟩, ⟨_, rfl, .val _⟩, ⟨_, rfl, .val _⟩, ⟨_, rfl, .val _⟩, trivial⟩ trivial⟩
 ·replace hg := cond_f h4 hg
  refine awp_exit ?_
  repeat first | refine st_ ?_ | refine sn_ ?_
  replace hg := leave hg hn1
  refine sr_ 8 16 hU8_3 ?_
  refine c0_ rfl rfl .assign rfl rfl ?_
  refine ch_n fun hU16_21 => ?_
  refine aw_r ?_
  obtain rfl := Option.some.inj hg
  exact ⟨[_], _, [], [], .cons (.tmp rfl) .nil, ⟨rfl, rfl⟩, .val _, trivial, rfl, rfl, rfl, rfl⟩
theorem w_chain_Check (l : (List api_Certificate)) (anchors : (List Int)) (hashes : (List Int)) (day : Int) (name : ByteArray) (r : Int) (hg : g_chain_Check l anchors hashes day name = some r) : Fn Try.prog 17 0 [.sl 15 (encL api_Certificate.enc l), .sl 1 (encL eI anchors), .sl 1 (encL eI hashes), .val (.int .i64 day), .val (.string name)] [] (fun d b => d = .val (.int .i64 r) ∧ b = []) := by
 unfold g_chain_Check at hg
 refine Fn.of Try.func17 rfl rfl rfl fun w0 I ρ0 => ?_
 show awp _ ⟨w0, I, ρ0, 0, 0, 63⟩ _ _ _
 refine sr_ 0 24 mk_U ?_
 refine c0_ rfl rfl (.box rfl) rfl rfl ?_
 refine c0_ rfl rfl (.box rfl) rfl rfl ?_
 refine c0_ rfl rfl .assign rfl rfl ?_
 refine ch_n fun hU24_1 => ?_
 refine awp_seq ?_
 refine awp_block ?_
 refine sr_ 24 56 hU24_1 ?_
 refine c0_ rfl rfl .move rfl rfl ?_
 refine c0_ rfl rfl (r_lenS sl27 api_Certificate.enc_len) rfl rfl ?_
 refine c0_ rfl rfl r_eql rfl rfl ?_
 refine c0_ rfl rfl .assign rfl rfl ?_
 refine ch_n fun hU56_2 => ?_
 refine awp_cond rfl (fun h3 => ?_) (fun h3 => ?_)
 ·replace hg := cond_t h3 hg
  refine sr_ 56 64 hU56_2 ?_
  refine c0_ rfl rfl .assign rfl rfl ?_
  refine ch_n fun hU64_4 => ?_
  refine aw_r ?_
  obtain rfl := Option.some.inj hg
  exact ⟨[_], _, [], [], .cons (.tmp rfl) .nil, ⟨rfl, rfl⟩, .val _, trivial, rfl, rfl, rfl, rfl⟩
 ·replace hg := cond_f h3 hg
  refine sr_ 56 88 hU56_2 ?_
  refine c0_ rfl rfl .move rfl rfl ?_
  refine c0_ rfl rfl (r_lenS sl27 api_Certificate.enc_len) rfl rfl ?_
  refine c0_ rfl rfl r_gtr rfl rfl ?_
  refine c0_ rfl rfl .assign rfl rfl ?_
  refine ch_n fun hU88_5 => ?_
  refine awp_cond rfl (fun h6 => ?_) (fun h6 => ?_)
  ·replace hg := cond_t h6 hg
   refine sr_ 88 96 hU88_5 ?_
   refine c0_ rfl rfl .assign rfl rfl ?_
   refine ch_n fun hU96_7 => ?_
   refine aw_r ?_
   obtain rfl := Option.some.inj hg
   exact ⟨[_], _, [], [], .cons (.tmp rfl) .nil, ⟨rfl, rfl⟩, .val _, trivial, rfl, rfl, rfl, rfl⟩
  ·replace hg := cond_f h6 hg
   refine sr_ 88 112 hU88_5 ?_
   refine c0_ rfl rfl .move rfl rfl ?_
   obtain ⟨y, hy, hg⟩ := bind_some hg
   refine ch_callP (rd := []) (ps := []) (gs := []) false rfl (w_slices_ContainsFunc_api_Certificate_clo_31_0_ l (fun x0 => g_chain_Check_c1 x0) (fun x0 y h => w_chain_Check_c1 x0 y h) _ hy) rfl rfl (.cons .sl (.cons .fn .nil)) rfl rfl (by intro h; cases h) rfl rfl rfl rfl ?_
   refine c0_ rfl rfl .assign rfl rfl ?_
   refine ch_n fun hU112_8 => ?_
   refine awp_cond rfl (fun h9 => ?_) (fun h9 => ?_)
   ·replace hg := cond_t h9 hg
    refine sr_ 112 120 hU112_8 ?_
    refine c0_ rfl rfl .assign rfl rfl ?_
    refine ch_n fun hU120_10 => ?_
    refine aw_r ?_
    obtain rfl := Option.some.inj hg
    exact ⟨[_], _, [], [], .cons (.tmp rfl) .nil, ⟨rfl, rfl⟩, .val _, trivial, rfl, rfl, rfl, rfl⟩
   ·replace hg := cond_f h9 hg
    refine sr_ 112 176 hU112_8 ?_
    refine c0_ rfl rfl .move rfl rfl ?_
    obtain ⟨e, he, hg⟩ := bind_some hg
    refine c0_ rfl rfl (r_idxS sl27 api_Certificate.enc_len (getI_ix he) (getI_at he)) rfl rfl ?_
    refine c0_ rfl rfl (r_fieldE fd45_10 ty41 (by decide) (enc_lt api_Certificate.enc_len (getI_at he) (o := 12) (by decide) rfl)) rfl rfl ?_
    refine c0_ rfl rfl (r_loadE1 ty41 (enc_cell api_Certificate.enc_len (getI_at he) (o := 12) (c := .sl 1 (encL eS e.Names)) rfl rfl)) rfl rfl ?_
    refine c0_ rfl rfl .move rfl rfl ?_
    obtain ⟨y_2, hy_2, hg⟩ := bind_some hg
    refine ch_callP (rd := []) (ps := []) (gs := []) false rfl (w_slices_Contains_string e.Names name _ hy_2) rfl rfl (.cons .sl (.cons .val .nil)) rfl rfl (by intro h; cases h) rfl rfl rfl rfl ?_
    refine c0_ rfl rfl r_not rfl rfl ?_
    refine c0_ rfl rfl .assign rfl rfl ?_
    refine ch_n fun hU176_11 => ?_
    refine awp_cond rfl (fun h12 => ?_) (fun h12 => ?_)
    ·replace hg := cond_t h12 hg
     refine sr_ 176 184 hU176_11 ?_
     refine c0_ rfl rfl .assign rfl rfl ?_
     refine ch_n fun hU184_13 => ?_
     refine aw_r ?_
     obtain rfl := Option.some.inj hg
     exact ⟨[_], _, [], [], .cons (.tmp rfl) .nil, ⟨rfl, rfl⟩, .val _, trivial, rfl, rfl, rfl, rfl⟩
    ·replace hg := cond_f h12 hg
     refine aw_s ?_
     refine awp_seq ?_
     refine sr_ 176 192 hU176_11 ?_
     refine c0_ rfl rfl (.buildArr (sz := 1) (r := [.val (.int .i64 13), .val (.int .i64 7)]) und66 (by kernel_rfl) z66 (by kernel_rfl) rfl) rfl rfl ?_
     refine c0_ rfl rfl .move rfl rfl ?_
     refine ch_n fun hU192_14 => ?_
     refine awp_block ?_
     obtain ⟨n1, hg⟩ := loop_some hg
     refine awp_loop (ι := (Int) × Nat) (fun ((x35_1, _) : (Int) × Nat) => mk [(0, .sl 15 (encL api_Certificate.enc l)), (1, .sl 1 (encL eI anchors)), (7, .elt (([.sl 1 (encL eI hashes)] : List C).drop 0)), (8, .elt (([.int .i64 day] : List C).drop 0)), (34, .agg [.val (.int .i64 13), .val (.int .i64 7)]), (35, .val (.int .i64 x35_1))] [] 0) (fun ((x35_1, nq') : (Int) × Nat) => iter (fun q' => g_chain_Check.l1 l anchors hashes day q') nq' x35_1 = some r) (fun q => q.2) (0, n1) (Sub.lists [] rfl rfl ⟨⟨_, rfl, .sl _ _⟩, ⟨_, rfl, .sl _ _⟩, ⟨_, rfl, .frzb (ks := [some 1]) rfl (.cons .sl .nil) (look_ne rfl)⟩, ⟨_, rfl, .frzb (ks := [none]) rfl (.cons .int .nil) (look_ne rfl)⟩, ⟨_, rfl, .agg (.cons (.val _) (.cons (.val _) .nil))⟩, ⟨_, rfl, .val _⟩, trivial⟩ trivial) hg ?_
     rintro ⟨x35_1, n1⟩ hg
     obtain ⟨m1, o1, rfl, hg, hn1⟩ := iter_some (show iter (fun q' => g_chain_Check.l1 l anchors hashes day q') n1 x35_1 = some r from hg)
     replace hg : g_chain_Check.l1 l anchors hashes day x35_1 = some o1 := hg
     show awp _ _ _ _ (mk _ _ _)
     unfold g_chain_Check.l1 at hg
     refine sr_ 0 8 mk_U ?_
     refine c0_ rfl rfl r_lss rfl rfl ?_
     refine ch_n fun hU8_15 => ?_
     refine awp_seq ?_
     refine awp_cond rfl (fun h16 => ?_) (fun h16 => ?_)
     ·replace hg := cond_t h16 hg
      refine aw_s ?_
      refine awp_seq ?_
      refine awp_block ?_
      refine sr_ 8 32 hU8_15 ?_
      obtain ⟨e_2, he_2, hg⟩ := bind_some hg
      refine c0_ rfl rfl (.indexA und66 ty35 (getI_ix he_2) rfl (arr_int (getI_at he_2))) rfl rfl ?_
      refine c0_ rfl rfl (.alloc z35) rfl rfl ?_
      refine ch_s (rd := [16]) rfl rfl (r_storeB (ds' := [.val (.int .i64 e_2)]) ty35 rfl (Nat.le_of_ble_eq_true rfl) rfl rfl) rfl rfl ?_
      refine ch_n fun hU32_17 => ?_
      refine awp_seq ?_
      refine awp_sub (σ' := mk [(0, .sl 15 (encL api_Certificate.enc l)), (1, .sl 1 (encL eI anchors)), (7, .elt (([.sl 1 (encL eI hashes)] : List C).drop 0)), (8, .elt (([.int .i64 day] : List C).drop 0)), (12, .elt (([.int .i64 e_2] : List C).drop 0)), (34, .agg [.val (.int .i64 13), .val (.int .i64 7)]), (35, .val (.int .i64 x35_1))] [] 0) (Sub.lists [] rfl rfl ⟨⟨_, rfl, .sl _ _⟩, ⟨_, rfl, .sl _ _⟩, ⟨_, rfl, .elt _⟩, ⟨_, rfl, .elt _⟩, ⟨_, rfl, .frzb (ks := [none]) rfl (.cons .int .nil) (look_ne rfl)⟩, ⟨_, rfl, .agg (.cons (.val _) (.cons (.val _) .nil))⟩, ⟨_, rfl, .val _⟩, trivial⟩ trivial) ?_
      refine awp_region (sys _ _ []) 0 24 mk_U rfl rfl ?_
      refine c0_ rfl rfl .move rfl rfl ?_
      refine c0_ rfl rfl .makeFunc rfl rfl ?_
      obtain ⟨y_3, hy_3, hg⟩ := bind_some hg
      refine ch_callP (rd := []) (ps := []) (gs := []) false rfl (w_slices_ContainsFunc_api_Certificate_clo_34_0_ref_22_ref_3_ref_35 l (fun x0 => g_chain_Check_c2 x0 hashes day e_2) hashes day e_2 (fun x0 y h => w_chain_Check_c2 x0 hashes day e_2 y h) _ hy_3) rfl rfl (.cons .sl (.cons (.clo (.cons .elt (.cons .elt (.cons .elt .nil)))) .nil)) rfl rfl (by intro h; cases h) rfl rfl rfl rfl ?_
      refine ch_n fun hU24_18 => ?_
      refine awp_cond rfl (fun h19 => ?_) (fun h19 => ?_)
      ·replace hg := cond_t h19 hg
       refine sr_ 24 40 hU24_18 ?_
       refine c0_ rfl rfl (r_loadE1 ty35 (c := .int .i64 e_2) rfl) rfl rfl ?_
       refine c0_ rfl rfl .assign rfl rfl ?_
       refine ch_n fun hU40_20 => ?_
       refine aw_r ?_
       replace hg := leave hg hn1
       obtain rfl := Option.some.inj hg
       exact ⟨[_], _, [], [], .cons (.tmp rfl) .nil, ⟨rfl, rfl⟩, .val _, trivial, rfl, rfl, rfl, rfl⟩
      ·replace hg := cond_f h19 hg
       refine aw_s ?_
       refine awp_region (sys _ _ []) 24 40 hU24_18 rfl rfl ?_
       refine c0_ rfl rfl r_add rfl rfl ?_
       refine c0_ rfl rfl .move rfl rfl ?_
       refine ch_n fun hU40_21 => ?_
       obtain rfl := Option.some.inj hg
       exact ⟨(W (x35_1 + 1), m1), Nat.lt_succ_self _, hn1, Sub.lists [] rfl rfl ⟨⟨_, rfl, .sl _ _⟩, ⟨_, rfl, .sl _ _⟩, ⟨_, rfl, .elt _⟩, ⟨_, rfl, .elt _⟩, ⟨_, rfl, .agg (.cons (.val _) (.cons (.val _) .nil))⟩, ⟨_, rfl, .val _⟩, trivial⟩ trivial⟩
     ·replace hg := cond_f h16 hg
      refine awp_exit ?_
      repeat first | refine st_ ?_ | refine sn_ ?_
      replace hg := leave hg hn1
      refine awp_seq ?_
      refine sr_ 8 24 hU8_15 ?_
      refine c0_ rfl rfl (.buildArr (sz := 1) (r := [.val (.int .i64 11), .val (.int .i64 15), .val (.int .i64 10)]) und68 (by kernel_rfl) z68 (by kernel_rfl) rfl) rfl rfl ?_
      refine c0_ rfl rfl .move rfl rfl ?_
      refine ch_n fun hU24_22 => ?_
      refine awp_block ?_
      obtain ⟨n3, hg⟩ := loop_some hg
      refine awp_loop (ι := (Int) × Nat) (fun ((x44_3, _) : (Int) × Nat) => mk [(0, .sl 15 (encL api_Certificate.enc l)), (1, .sl 1 (encL eI anchors)), (43, .agg [.val (.int .i64 11), .val (.int .i64 15), .val (.int .i64 10)]), (44, .val (.int .i64 x44_3))] [] 0) (fun ((x44_3, nq') : (Int) × Nat) => iter (fun q' => g_chain_Check.l3 l anchors q') nq' x44_3 = some r) (fun q => q.2) (0, n3) (Sub.lists [] rfl rfl ⟨⟨_, rfl, .sl _ _⟩, ⟨_, rfl, .sl _ _⟩, ⟨_, rfl, .agg (.cons (.val _) (.cons (.val _) (.cons (.val _) .nil)))⟩, ⟨_, rfl, .val _⟩, trivial⟩ trivial) hg ?_
      rintro ⟨x44_3, n3⟩ hg
      obtain ⟨m3, o3, rfl, hg, hn3⟩ := iter_some (show iter (fun q' => g_chain_Check.l3 l anchors q') n3 x44_3 = some r from hg)
      replace hg : g_chain_Check.l3 l anchors x44_3 = some o3 := hg
      show awp _ _ _ _ (mk _ _ _)
      unfold g_chain_Check.l3 at hg
      refine sr_ 0 8 mk_U ?_
      refine c0_ rfl rfl r_lss rfl rfl ?_
      refine ch_n fun hU8_23 => ?_
      refine awp_seq ?_
      refine awp_cond rfl (fun h24 => ?_) (fun h24 => ?_)
      ·replace hg := cond_t h24 hg
       refine aw_s ?_
       refine awp_seq ?_
       refine awp_block ?_
       refine sr_ 8 24 hU8_23 ?_
       obtain ⟨e_3, he_3, hg⟩ := bind_some hg
       refine c0_ rfl rfl (.indexA und68 ty35 (getI_ix he_3) rfl (arr_int (getI_at he_3))) rfl rfl ?_
       refine c0_ rfl rfl .assign rfl rfl ?_
       refine ch_n fun hU24_25 => ?_
       refine sr_ 24 48 hU24_25 ?_
       refine c0_ rfl rfl .move rfl rfl ?_
       refine c0_ rfl rfl .move rfl rfl ?_
       obtain ⟨y_4, hy_4, hg⟩ := bind_some hg
       refine ch_callP (rd := []) (ps := []) (gs := []) false rfl (w_chain_fails l e_3 _ hy_4) rfl rfl (.cons .sl (.cons .val .nil)) rfl rfl (by intro h; cases h) rfl rfl rfl rfl ?_
       refine ch_n fun hU48_26 => ?_
       refine awp_cond rfl (fun h27 => ?_) (fun h27 => ?_)
       ·replace hg := cond_t h27 hg
        refine sr_ 48 64 hU48_26 ?_
        refine c0_ rfl rfl .move rfl rfl ?_
        refine c0_ rfl rfl .assign rfl rfl ?_
        refine ch_n fun hU64_28 => ?_
        refine aw_r ?_
        replace hg := leave hg hn3
        obtain rfl := Option.some.inj hg
        exact ⟨[_], _, [], [], .cons (.tmp rfl) .nil, ⟨rfl, rfl⟩, .val _, trivial, rfl, rfl, rfl, rfl⟩
       ·replace hg := cond_f h27 hg
        refine aw_s ?_
        refine awp_region (sys _ _ []) 48 64 hU48_26 rfl rfl ?_
        refine c0_ rfl rfl r_add rfl rfl ?_
        refine c0_ rfl rfl .move rfl rfl ?_
        refine ch_n fun hU64_29 => ?_
        obtain rfl := Option.some.inj hg
        exact ⟨(W (x44_3 + 1), m3), Nat.lt_succ_self _, hn3, Sub.lists [] rfl rfl ⟨⟨_, rfl, .sl _ _⟩, ⟨_, rfl, .sl _ _⟩, ⟨_, rfl, .agg (.cons (.val _) (.cons (.val _) (.cons (.val _) .nil)))⟩, ⟨_, rfl, .val _⟩, trivial⟩ trivial⟩
      ·replace hg := cond_f h24 hg
       refine awp_exit ?_
       repeat first | refine st_ ?_ | refine sn_ ?_
       replace hg := leave hg hn3
       refine awp_seq ?_
       refine sr_ 8 96 hU8_23 ?_
       iterate 3 refine c0_ rfl rfl .move rfl rfl ?_
       refine c0_ rfl rfl (r_lenS sl27 api_Certificate.enc_len) rfl rfl ?_
       refine c0_ rfl rfl r_sub rfl rfl ?_
       obtain ⟨e_4, he_4, hg⟩ := bind_some hg
       refine c0_ rfl rfl (r_idxS sl27 api_Certificate.enc_len (getI_ix he_4) (getI_at he_4)) rfl rfl ?_
       refine c0_ rfl rfl (r_fieldE fd45_11 ty43 (by decide) (enc_lt api_Certificate.enc_len (getI_at he_4) (o := 13) (by decide) rfl)) rfl rfl ?_
       refine c0_ rfl rfl (r_fieldE fd43_0 ty3 (by decide) (enc_lt api_Certificate.enc_len (getI_at he_4) (o := 13) (by decide) rfl)) rfl rfl ?_
       refine c0_ rfl rfl (r_loadE1 ty3 (enc_cell api_Certificate.enc_len (getI_at he_4) (o := 13) (c := .int .i64 e_4.Seal.Key) rfl rfl)) rfl rfl ?_
       obtain ⟨y_5, hy_5, hg⟩ := bind_some hg
       refine ch_callP (rd := []) (ps := []) (gs := []) false rfl (w_slices_Contains_int anchors e_4.Seal.Key _ hy_5) rfl rfl (.cons .sl (.cons .val .nil)) rfl rfl (by intro h; cases h) rfl rfl rfl rfl ?_
       refine c0_ rfl rfl r_not rfl rfl ?_
       refine ch_n fun hU96_30 => ?_
       refine awp_cond rfl (fun h31 => ?_) (fun h31 => ?_)
       ·replace hg := cond_t h31 hg
        refine sr_ 96 104 hU96_30 ?_
        refine c0_ rfl rfl .assign rfl rfl ?_
        refine ch_n fun hU104_32 => ?_
        refine aw_r ?_
        obtain rfl := Option.some.inj hg
        exact ⟨[_], _, [], [], .cons (.tmp rfl) .nil, ⟨rfl, rfl⟩, .val _, trivial, rfl, rfl, rfl, rfl⟩
       ·replace hg := cond_f h31 hg
        refine aw_s ?_
        refine sr_ 96 104 hU96_30 ?_
        refine c0_ rfl rfl .assign rfl rfl ?_
        refine ch_n fun hU104_33 => ?_
        refine aw_r ?_
        obtain rfl := Option.some.inj hg
        exact ⟨[_], _, [], [], .cons (.tmp rfl) .nil, ⟨rfl, rfl⟩, .val _, trivial, rfl, rfl, rfl, rfl⟩
theorem w_chain_Until (l : (List api_Certificate)) (r : Int) (hg : g_chain_Until l = some r) : Fn Try.prog 19 0 [.sl 15 (encL api_Certificate.enc l)] [] (fun d b => d = .val (.int .i64 r) ∧ b = []) := by
 unfold g_chain_Until at hg
 refine Fn.of Try.func19 rfl rfl rfl fun w0 I ρ0 => ?_
 show awp _ ⟨w0, I, ρ0, 0, 0, 25⟩ _ _ _
 refine sr_ 0 8 mk_U ?_
 refine c0_ rfl rfl .assign rfl rfl ?_
 refine ch_n fun hU8_1 => ?_
 refine awp_seq ?_
 refine sr_ 8 32 hU8_1 ?_
 refine c0_ rfl rfl .move rfl rfl ?_
 refine c0_ rfl rfl (r_lenS sl27 api_Certificate.enc_len) rfl rfl ?_
 refine c0_ rfl rfl r_eql rfl rfl ?_
 refine ch_n fun hU32_2 => ?_
 refine awp_cond rfl (fun h3 => ?_) (fun h3 => ?_)
 ·replace hg := cond_t h3 hg
  refine sr_ 32 40 hU32_2 ?_
  refine c0_ rfl rfl .assign rfl rfl ?_
  refine ch_n fun hU40_4 => ?_
  refine aw_r ?_
  obtain rfl := Option.some.inj hg
  exact ⟨[_], _, [], [], .cons (.tmp rfl) .nil, ⟨rfl, rfl⟩, .val _, trivial, rfl, rfl, rfl, rfl⟩
 ·replace hg := cond_f h3 hg
  refine aw_s ?_
  refine sr_ 32 72 hU32_2 ?_
  refine c0_ rfl rfl .move rfl rfl ?_
  obtain ⟨e, he, hg⟩ := bind_some hg
  refine c0_ rfl rfl (r_idxS sl27 api_Certificate.enc_len (getI_ix he) (getI_at he)) rfl rfl ?_
  refine c0_ rfl rfl (r_fieldE fd45_7 ty3 (by decide) (enc_lt api_Certificate.enc_len (getI_at he) (o := 9) (by decide) rfl)) rfl rfl ?_
  refine c0_ rfl rfl (r_loadE1 ty3 (enc_cell api_Certificate.enc_len (getI_at he) (o := 9) (c := .int .i64 e.To) rfl rfl)) rfl rfl ?_
  refine c0_ rfl rfl .assign rfl rfl ?_
  refine ch_n fun hU72_5 => ?_
  refine awp_seq ?_
  refine sr_ 72 96 hU72_5 ?_
  refine c0_ rfl rfl .move rfl rfl ?_
  refine c0_ rfl rfl (r_lenS sl27 api_Certificate.enc_len) rfl rfl ?_
  refine c0_ rfl rfl .move rfl rfl ?_
  refine ch_n fun hU96_6 => ?_
  refine awp_block ?_
  obtain ⟨n1, hg⟩ := loop_some hg
  refine awp_loop (ι := (Int × Int) × Nat) (fun (((least_1, x15_1), _) : (Int × Int) × Nat) => mk [(3, .val (.int .i64 least_1)), (13, .sl 15 (encL api_Certificate.enc l)), (14, .val (.int .i64 (l.length : Int))), (15, .val (.int .i64 x15_1))] [] 0) (fun (((least_1, x15_1), nq') : (Int × Int) × Nat) => iter (fun q' => g_chain_Until.l1 l q'.1 q'.2) nq' (least_1, x15_1) = some r) (fun q => q.2) ((e.To, 0), n1) (Sub.lists [] rfl rfl ⟨⟨_, rfl, .val _⟩, ⟨_, rfl, .sl _ _⟩, ⟨_, rfl, .val _⟩, ⟨_, rfl, .val _⟩, trivial⟩ trivial) hg ?_
  rintro ⟨⟨least_1, x15_1⟩, n1⟩ hg
  obtain ⟨m1, o1, rfl, hg, hn1⟩ := iter_some (show iter (fun q' => g_chain_Until.l1 l q'.1 q'.2) n1 (least_1, x15_1) = some r from hg)
  replace hg : g_chain_Until.l1 l least_1 x15_1 = some o1 := hg
  show awp _ _ _ _ (mk _ _ _)
  unfold g_chain_Until.l1 at hg
  refine sr_ 0 8 mk_U ?_
  refine c0_ rfl rfl r_lss rfl rfl ?_
  refine ch_n fun hU8_7 => ?_
  refine awp_seq ?_
  refine awp_cond rfl (fun h8 => ?_) (fun h8 => ?_)
  ·replace hg := cond_t h8 hg
   refine aw_s ?_
   refine awp_seq ?_
   refine awp_block ?_
   refine sr_ 8 40 hU8_7 ?_
   obtain ⟨e_2, he_2, hg⟩ := bind_some hg
   refine c0_ rfl rfl (r_idxS sl27 api_Certificate.enc_len (getI_ix he_2) (getI_at he_2)) rfl rfl ?_
   refine c0_ rfl rfl (r_loadEA ty45 (enc_cells api_Certificate.enc_len (getI_at he_2) (o := 0) (m := 15) (cs := [.int .i64 e_2.Serial, .str e_2.Issuer, .str e_2.Subject, .int .i64 e_2.Key.Alg, .int .i64 e_2.Key.Bits, .int .i64 e_2.KeyId, .int .i64 e_2.Hash.Alg, .int .i64 e_2.Hash.Bits, .int .i64 e_2.From, .int .i64 e_2.To, .bool e_2.Authority, .int .i64 e_2.Path, .sl 1 (encL eS e_2.Names), .int .i64 e_2.Seal.Key, .int .i64 e_2.Seal.Sum]) rfl (by decide) rfl) (enc_cells_le api_Certificate.enc_len (getI_at he_2) (o := 0) (m := 15) (by decide) rfl)) rfl rfl ?_
   refine c0_ rfl rfl (.alloc z45) rfl rfl ?_
   refine ch_s (rd := [24]) rfl rfl (r_storeB (ds' := [.val (.int .i64 e_2.Serial), .val (.string e_2.Issuer), .val (.string e_2.Subject), .val (.int .i64 e_2.Key.Alg), .val (.int .i64 e_2.Key.Bits), .val (.int .i64 e_2.KeyId), .val (.int .i64 e_2.Hash.Alg), .val (.int .i64 e_2.Hash.Bits), .val (.int .i64 e_2.From), .val (.int .i64 e_2.To), .val (.bool e_2.Authority), .val (.int .i64 e_2.Path), .sl 1 (encL eS e_2.Names), .val (.int .i64 e_2.Seal.Key), .val (.int .i64 e_2.Seal.Sum)]) ty45 rfl (Nat.le_of_ble_eq_true rfl) rfl rfl) rfl rfl ?_
   refine ch_n fun hU40_9 => ?_
   refine awp_region (sys _ _ []) 40 80 hU40_9 rfl rfl ?_
   refine c0_ rfl rfl .move rfl rfl ?_
   refine c0_ rfl rfl (.fieldP fd45_7 ty3 (by decide)) rfl rfl ?_
   refine ch_s (rd := [24]) rfl rfl (.loadB1 ty3 rfl) rfl rfl ?_
   refine c0_ rfl rfl r_min rfl rfl ?_
   refine c0_ rfl rfl .assign rfl rfl ?_
   refine ch_n fun hU80_10 => ?_
   refine awp_region (sys _ _ []) 80 96 hU80_10 rfl rfl ?_
   refine c0_ rfl rfl r_add rfl rfl ?_
   refine c0_ rfl rfl .move rfl rfl ?_
   refine ch_n fun hU96_11 => ?_
   obtain rfl := Option.some.inj hg
   exact ⟨((min least_1 e_2.To, W (x15_1 + 1)), m1), Nat.lt_succ_self _, hn1, Sub.lists [] rfl rfl ⟨⟨_, rfl, .val _⟩, ⟨_, rfl, .sl _ _⟩, ⟨_, rfl, .val _⟩, ⟨_, rfl, .val _⟩, trivial⟩ trivial⟩
  ·replace hg := cond_f h8 hg
   refine awp_exit ?_
   repeat first | refine st_ ?_ | refine sn_ ?_
   replace hg := leave hg hn1
   refine sr_ 8 24 hU8_7 ?_
   refine c0_ rfl rfl .move rfl rfl ?_
   refine c0_ rfl rfl .assign rfl rfl ?_
   refine ch_n fun hU24_12 => ?_
   refine aw_r ?_
   obtain rfl := Option.some.inj hg
   exact ⟨[_], _, [], [], .cons (.tmp rfl) .nil, ⟨rfl, rfl⟩, .val _, trivial, rfl, rfl, rfl, rfl⟩
theorem w_law04_awake  (r : Bool) (hg : g_law04_awake = some r) : Fn Try.prog 8 0 [] [] (fun d b => d = .val (.bool r) ∧ b = []) := by
 unfold g_law04_awake at hg
 refine Fn.of Try.func8 rfl rfl rfl fun w0 I ρ0 => ?_
 show awp _ ⟨w0, I, ρ0, 0, 0, 35⟩ _ _ _
 refine sr_ 0 8 mk_U ?_
 refine c0_ rfl rfl .assign rfl rfl ?_
 refine ch_n fun hU8_1 => ?_
 refine sr_ 8 56 hU8_1 ?_
 refine c0_ rfl rfl (.build (r := [.val (.int .i64 5), .val (.int .i64 2048)]) und40 pl40 z40 (by kernel_rfl) rfl) rfl rfl ?_
 refine c0_ rfl rfl (.build (r := [.val (.int .i64 3), .val (.int .i64 0)]) und40 pl40 z40 (by kernel_rfl) rfl) rfl rfl ?_
 refine c0_ rfl rfl (r_buildFull sl41 z9 (by decide) rfl rfl rfl rfl ck9 (cs := [.str (⟨#[119, 101, 98]⟩ : ByteArray)]) (.cons .str .nil) rfl (l := ([(⟨#[119, 101, 98]⟩ : ByteArray)] : List ByteArray)) (f := eS) rfl) rfl rfl ?_
 refine c0_ rfl rfl (.build (r := [.val (.int .i64 0), .val (.string (⟨#[99, 97]⟩ : ByteArray)), .val (.string (⟨#[119, 101, 98]⟩ : ByteArray)), .val (.int .i64 5), .val (.int .i64 2048), .val (.int .i64 7), .val (.int .i64 3), .val (.int .i64 0), .val (.int .i64 0), .val (.int .i64 9), .val (.bool false), .val (.int .i64 0), .row 24, .val (.int .i64 0), .val (.int .i64 0)]) und45 pl45 z45 (by kernel_rfl) rfl) rfl rfl ?_
 refine c0_ rfl rfl (.alloc z45) rfl rfl ?_
 refine ch_s (rd := [40]) rfl rfl (r_storeB (ds' := [.val (.int .i64 0), .val (.string (⟨#[99, 97]⟩ : ByteArray)), .val (.string (⟨#[119, 101, 98]⟩ : ByteArray)), .val (.int .i64 5), .val (.int .i64 2048), .val (.int .i64 7), .val (.int .i64 3), .val (.int .i64 0), .val (.int .i64 0), .val (.int .i64 9), .val (.bool false), .val (.int .i64 0), .row 24, .val (.int .i64 0), .val (.int .i64 0)]) ty45 rfl (Nat.le_of_ble_eq_true rfl) rfl rfl) rfl rfl ?_
 refine ch_n fun hU56_2 => ?_
 refine awp_seq ?_
 refine awp_sub (σ' := mk [(1, .ptr 0 0)] [(0, .box [.val (.int .i64 0), .val (.string (⟨#[99, 97]⟩ : ByteArray)), .val (.string (⟨#[119, 101, 98]⟩ : ByteArray)), .val (.int .i64 5), .val (.int .i64 2048), .val (.int .i64 7), .val (.int .i64 3), .val (.int .i64 0), .val (.int .i64 0), .val (.int .i64 9), .val (.bool false), .val (.int .i64 0), .sl 1 (encL eS ([(⟨#[119, 101, 98]⟩ : ByteArray)] : List ByteArray)), .val (.int .i64 0), .val (.int .i64 0)] 45)] 1) (Sub.lists [(0, 40)] rfl rfl ⟨⟨_, rfl, .ptr rfl⟩, trivial⟩ ⟨.inl ⟨40, _, rfl, rfl, ⟨rfl, .cons (.val _) (.cons (.val _) (.cons (.val _) (.cons (.val _) (.cons (.val _) (.cons (.val _) (.cons (.val _) (.cons (.val _) (.cons (.val _) (.cons (.val _) (.cons (.val _) (.cons (.val _) (.cons (.frz rfl (look_ne rfl)) (.cons (.val _) (.cons (.val _) .nil))))))))))))))⟩⟩, trivial⟩) ?_
 refine awp_region (sys _ _ []) 1 49 mk_U rfl rfl ?_
 refine ch_s (rd := [0]) rfl rfl (.loadBA ty45 (Nat.le_of_ble_eq_true rfl)) rfl rfl ?_
 obtain ⟨y, hy, hg⟩ := bind_some hg
 refine ch_callP (rd := []) (ps := []) (gs := []) false rfl (w_ref03_Sign (api_Certificate.mk 0 (⟨#[99, 97]⟩ : ByteArray) (⟨#[119, 101, 98]⟩ : ByteArray) (api_Use.mk 5 2048) 7 (api_Use.mk 3 0) 0 9 false 0 ([(⟨#[119, 101, 98]⟩ : ByteArray)] : List ByteArray) (api_Seal.mk 0 0)) 3 _ hy) rfl rfl (.cons (.agg (.cons .val (.cons .val (.cons .val (.cons .val (.cons .val (.cons .val (.cons .val (.cons .val (.cons .val (.cons .val (.cons .val (.cons .val (.cons .sl (.cons .val (.cons .val .nil)))))))))))))))) (.cons .val .nil)) rfl rfl (by intro h; cases h) rfl rfl rfl rfl ?_
 refine c0_ rfl rfl .move rfl rfl ?_
 refine c0_ rfl rfl (.extract rfl) rfl rfl ?_
 refine c0_ rfl rfl (.extract rfl) rfl rfl ?_
 refine ch_s (rd := [0]) rfl rfl (r_storeB (ds' := [.val (.int .i64 y.1.Serial), .val (.string y.1.Issuer), .val (.string y.1.Subject), .val (.int .i64 y.1.Key.Alg), .val (.int .i64 y.1.Key.Bits), .val (.int .i64 y.1.KeyId), .val (.int .i64 y.1.Hash.Alg), .val (.int .i64 y.1.Hash.Bits), .val (.int .i64 y.1.From), .val (.int .i64 y.1.To), .val (.bool y.1.Authority), .val (.int .i64 y.1.Path), .sl 1 (encL eS y.1.Names), .val (.int .i64 y.1.Seal.Key), .val (.int .i64 y.1.Seal.Sum)]) ty45 rfl (Nat.le_of_ble_eq_true rfl) rfl rfl) rfl rfl ?_
 refine ch_n fun hU49_3 => ?_
 refine sr_ 49 73 hU49_3 ?_
 refine ch_s (rd := [0]) rfl rfl (.loadBA ty45 (Nat.le_of_ble_eq_true rfl)) rfl rfl ?_
 refine c0_ rfl rfl (r_buildFull sl27 z45 (by decide) rfl rfl rfl rfl ck45 (cs := [.int .i64 y.1.Serial, .str y.1.Issuer, .str y.1.Subject, .int .i64 y.1.Key.Alg, .int .i64 y.1.Key.Bits, .int .i64 y.1.KeyId, .int .i64 y.1.Hash.Alg, .int .i64 y.1.Hash.Bits, .int .i64 y.1.From, .int .i64 y.1.To, .bool y.1.Authority, .int .i64 y.1.Path, .sl 1 (encL eS y.1.Names), .int .i64 y.1.Seal.Key, .int .i64 y.1.Seal.Sum]) (.cons .int (.cons .str (.cons .str (.cons .int (.cons .int (.cons .int (.cons .int (.cons .int (.cons .int (.cons .int (.cons .bool (.cons .int (.cons .sl (.cons .int (.cons .int .nil))))))))))))))) rfl (l := ([y.1] : List api_Certificate)) (f := api_Certificate.enc) rfl) rfl rfl ?_
 refine c0_ rfl rfl .assign rfl rfl ?_
 refine ch_n fun hU73_4 => ?_
 refine sr_ 73 249 hU73_4 ?_
 refine c0_ rfl rfl .move rfl rfl ?_
 refine c0_ rfl rfl (r_buildFull sl22 z3 (by decide) rfl rfl rfl rfl ck3 (cs := [.int .i64 3]) (.cons .int .nil) rfl (l := ([3] : List Int)) (f := eI) rfl) rfl rfl ?_
 refine c0_ rfl rfl (r_buildFull sl22 z3 (by decide) rfl rfl rfl rfl ck3 (cs := [.int .i64 3]) (.cons .int .nil) rfl (l := ([3] : List Int)) (f := eI) rfl) rfl rfl ?_
 obtain ⟨y_2, hy_2, hg⟩ := bind_some hg
 refine ch_callP (rd := [57, 81, 89]) (ps := []) (gs := []) true rfl (w_chain_Check ([y.1] : List api_Certificate) ([3] : List Int) ([3] : List Int) 5 (⟨#[119, 101, 98]⟩ : ByteArray) _ hy_2) rfl rfl (.cons (.row rfl (.head _) rfl) (.cons (.row rfl (.tail _ (.head _)) rfl) (.cons (.row rfl (.tail _ (.tail _ (.head _))) rfl) (.cons .val (.cons .val .nil))))) rfl rfl (fun _ => ⟨by simp [flatD, flatDs], by simp [flatB, flatDs, flatD]⟩) rfl rfl rfl rfl ?_
 refine c0_ rfl rfl r_eql rfl rfl ?_
 refine c0_ rfl rfl .move rfl rfl ?_
 rcases Bool.eq_false_or_eq_true (decide (y_2 = 0)) with h5 | h5
 ·replace hg := cond_t h5 hg
  refine c0_ (gdv_t rfl rfl h5) rfl .move rfl rfl ?_
  refine c0_ (gdv_t rfl rfl h5) rfl (r_buildFull sl22 z3 (by decide) rfl rfl rfl rfl ck3 (cs := [.int .i64 4]) (.cons .int .nil) rfl (l := ([4] : List Int)) (f := eI) rfl) rfl rfl ?_
  refine c0_ (gdv_t rfl rfl h5) rfl (r_buildFull sl22 z3 (by decide) rfl rfl rfl rfl ck3 (cs := [.int .i64 3]) (.cons .int .nil) rfl (l := ([3] : List Int)) (f := eI) rfl) rfl rfl ?_
  obtain ⟨y_3, hy_3, hg⟩ := bind_some hg
  refine ch_callP (rd := [57, 129, 137]) (ps := []) (gs := []) true (gdv_t rfl rfl h5) (w_chain_Check ([y.1] : List api_Certificate) ([4] : List Int) ([3] : List Int) 5 (⟨#[119, 101, 98]⟩ : ByteArray) _ hy_3) rfl rfl (.cons (.row rfl (.head _) rfl) (.cons (.row rfl (.tail _ (.head _)) rfl) (.cons (.row rfl (.tail _ (.tail _ (.head _))) rfl) (.cons .val (.cons .val .nil))))) rfl rfl (fun _ => ⟨by simp [flatD, flatDs], by simp [flatB, flatDs, flatD]⟩) rfl rfl rfl rfl ?_
  refine c0_ (gdv_t rfl rfl h5) rfl r_eql rfl rfl ?_
  refine c0_ rfl rfl (r_pickT h5) rfl rfl ?_
  refine c0_ rfl rfl .move rfl rfl ?_
  rcases Bool.eq_false_or_eq_true (decide (y_3 = 12)) with h6 | h6
  ·replace hg := cond_t h6 hg
   refine c0_ (gdv_t rfl rfl h6) rfl .move rfl rfl ?_
   obtain ⟨y_4, hy_4, hg⟩ := bind_some hg
   refine ch_callP (rd := [57]) (ps := []) (gs := []) true (gdv_t rfl rfl h6) (w_chain_Until ([y.1] : List api_Certificate) _ hy_4) rfl rfl (.cons (.row rfl (.head _) rfl) .nil) rfl rfl (fun _ => ⟨by simp [flatD, flatDs], by simp [flatB, flatDs, flatD]⟩) rfl rfl rfl rfl ?_
   refine c0_ (gdv_t rfl rfl h6) rfl r_eql rfl rfl ?_
   refine c0_ rfl rfl (r_pickT h6) rfl rfl ?_
   refine c0_ rfl rfl .move rfl rfl ?_
   rcases Bool.eq_false_or_eq_true (decide (y_4 = 9)) with h7 | h7
   ·replace hg := cond_t h7 hg
    refine c0_ (gdv_t rfl rfl h7) rfl .move rfl rfl ?_
    obtain ⟨y_5, hy_5, hg⟩ := bind_some hg
    refine ch_callP (rd := [57]) (ps := []) (gs := []) true (gdv_t rfl rfl h7) (w_chain_Path ([y.1] : List api_Certificate) 0 _ hy_5) rfl rfl (.cons (.row rfl (.head _) rfl) (.cons .val .nil)) rfl rfl (fun _ => ⟨by simp [flatD, flatDs], by simp [flatB, flatDs, flatD]⟩) rfl rfl rfl rfl ?_
    refine c0_ rfl rfl (r_pickT h7) rfl rfl ?_
    refine c0_ rfl rfl .assign rfl rfl ?_
    refine ch_n fun hU249_8 => ?_
    refine aw_r ?_
    obtain rfl := Option.some.inj hg
    exact ⟨[_], _, [], [], .cons (.tmp rfl) .nil, ⟨rfl, rfl⟩, .val _, trivial, rfl, rfl, rfl, rfl⟩
   ·replace hg := cond_f h7 hg
    refine ch_skip (gdv_f rfl rfl h7) rfl ?_
    refine ch_skip (gdv_f rfl rfl h7) rfl ?_
    refine c0_ rfl rfl (r_pickF h7) rfl rfl ?_
    refine c0_ rfl rfl .assign rfl rfl ?_
    refine ch_n fun hU249_9 => ?_
    refine aw_r ?_
    obtain rfl := Option.some.inj hg
    exact ⟨[_], _, [], [], .cons (.tmp rfl) .nil, ⟨rfl, rfl⟩, .val _, trivial, rfl, rfl, rfl, rfl⟩
  ·replace hg := cond_f h6 hg
   iterate 3 refine ch_skip (gdv_f rfl rfl h6) rfl ?_
   refine c0_ rfl rfl (r_pickF h6) rfl rfl ?_
   refine c0_ rfl rfl .move rfl rfl ?_
   refine ch_skip (gdv_f rfl rfl rfl) rfl ?_
   refine ch_skip (gdv_f rfl rfl rfl) rfl ?_
   refine c0_ rfl rfl (r_pickF rfl) rfl rfl ?_
   refine c0_ rfl rfl .assign rfl rfl ?_
   refine ch_n fun hU249_10 => ?_
   refine aw_r ?_
   obtain rfl := Option.some.inj hg
   exact ⟨[_], _, [], [], .cons (.tmp rfl) .nil, ⟨rfl, rfl⟩, .val _, trivial, rfl, rfl, rfl, rfl⟩
 ·replace hg := cond_f h5 hg
  iterate 5 refine ch_skip (gdv_f rfl rfl h5) rfl ?_
  refine c0_ rfl rfl (r_pickF h5) rfl rfl ?_
  refine c0_ rfl rfl .move rfl rfl ?_
  iterate 3 refine ch_skip (gdv_f rfl rfl rfl) rfl ?_
  refine c0_ rfl rfl (r_pickF rfl) rfl rfl ?_
  refine c0_ rfl rfl .move rfl rfl ?_
  refine ch_skip (gdv_f rfl rfl rfl) rfl ?_
  refine ch_skip (gdv_f rfl rfl rfl) rfl ?_
  refine c0_ rfl rfl (r_pickF rfl) rfl rfl ?_
  refine c0_ rfl rfl .assign rfl rfl ?_
  refine ch_n fun hU249_11 => ?_
  refine aw_r ?_
  obtain rfl := Option.some.inj hg
  exact ⟨[_], _, [], [], .cons (.tmp rfl) .nil, ⟨rfl, rfl⟩, .val _, trivial, rfl, rfl, rfl, rfl⟩
end Go.Proofs.Ytadjcdhcdmiifaa
