/- The program computes the plain functions. -/
import Derived.Test.YtlcfdnjokgbccaaT1
set_option linter.unusedVariables false
set_option linter.unusedSimpArgs false
set_option maxRecDepth 100000
set_option maxHeartbeats 1600000
namespace Go.Proofs.Ytlcfdnjokgbccaa
open Go.RowKit
theorem w_der_Text (s : ByteArray) (r : api_Value) (hg : g_der_Text s = some r) : Fn Try.prog 48 0 [.val (.string s)] [] (fun d b => d = .agg [.val (.int .i64 r.Tag), .sl 1 (encL e8 r.Bytes), .val (.bool r.Nested), .sl 4 (encL api_Value.enc r.Elements)] ∧ b = []) := by
 unfold g_der_Text at hg
 refine Fn.of Try.func48 rfl rfl rfl fun w0 I ρ0 => ?_
 show awp _ ⟨w0, I, ρ0, 0, 0, 6⟩ _ _ _
 refine sr_ 0 8 mk_U ?_
 refine c0_ rfl rfl (.alloc z49) rfl rfl ?_
 refine ch_n fun hU8_1 => ?_
 refine sr_ 8 40 hU8_1 ?_
 refine c0_ rfl rfl .move rfl rfl ?_
 refine c0_ rfl rfl (r_convB und9 und22 und5) rfl rfl ?_
 refine c0_ rfl rfl (.build (r := [.val (.int .i64 12), .sl 1 (encL e8 (toB s)), .val (.bool false), .val (.slice none 0 0)]) und49 pl49 z49 (by kernel_rfl) rfl) rfl rfl ?_
 refine ch_s (rd := [0]) rfl rfl (r_storeB (ds' := [.val (.int .i64 12), .sl 1 (encL e8 (toB s)), .val (.bool false), .val (.slice none 0 0)]) ty49 rfl (Nat.le_of_ble_eq_true rfl) rfl rfl) rfl rfl ?_
 refine ch_n fun hU40_2 => ?_
 refine aw_r ?_
 obtain rfl := Option.some.inj hg
 exact ⟨[_], _, [], [], .cons (.cellA rfl rfl ty49 rfl) .nil, ⟨rfl, rfl⟩, .agg (.cons (.val _) (.cons (.sl _ _) (.cons (.val _) (.cons (.nils _) .nil)))), trivial, rfl, rfl, rfl, rfl⟩
theorem w_der_Int (n : Int) (r : api_Value) (hg : g_der_Int n = some r) : Fn Try.prog 31 0 [.val (.int .i64 n)] [] (fun d b => d = .agg [.val (.int .i64 r.Tag), .sl 1 (encL e8 r.Bytes), .val (.bool r.Nested), .sl 4 (encL api_Value.enc r.Elements)] ∧ b = []) := by
 unfold g_der_Int at hg
 refine Fn.of Try.func31 rfl rfl rfl fun w0 I ρ0 => ?_
 show awp _ ⟨w0, I, ρ0, 0, 0, 48⟩ _ _ _
 refine sr_ 0 8 mk_U ?_
 refine c0_ rfl rfl (.alloc z49) rfl rfl ?_
 refine ch_n fun hU8_1 => ?_
 refine sr_ 8 16 hU8_1 ?_
 refine c0_ rfl rfl .assign rfl rfl ?_
 refine ch_n fun hU16_2 => ?_
 refine awp_seq ?_
 refine sr_ 16 24 hU16_2 ?_
 refine c0_ rfl rfl .assign rfl rfl ?_
 refine ch_n fun hU24_3 => ?_
 refine awp_block ?_
 obtain ⟨n1, hg⟩ := loop_some hg
 refine awp_loop (ι := (Int × List UInt8) × Nat) (fun (((i_1, b_1), _) : (Int × List UInt8) × Nat) => mk [(0, .val (.int .i64 n)), (2, .ptr 0 0), (3, .row 1), (4, .val (.int .i64 i_1))] [(0, .box [.val (.int .i64 0), .val (.slice none 0 0), .val (.bool false), .val (.slice none 0 0)] 49), (1, .row 5 1 (encL e8 b_1))] 2) (fun (((i_1, b_1), nq') : (Int × List UInt8) × Nat) => iter (fun q' => g_der_Int.l1 n q'.1 q'.2) nq' (i_1, b_1) = some r) (fun q => q.2) ((56, ([] : List UInt8)), n1) (Sub.lists [(0, 0)] rfl rfl ⟨⟨_, rfl, .val _⟩, ⟨_, rfl, .ptr rfl⟩, ⟨_, rfl, .nil rfl⟩, ⟨_, rfl, .val _⟩, trivial⟩ ⟨.inl ⟨0, _, rfl, rfl, ⟨rfl, .cons (.val _) (.cons (.val _) (.cons (.val _) (.cons (.val _) .nil)))⟩⟩, .inr ⟨rfl, _, _, rfl⟩, trivial⟩) hg ?_
 rintro ⟨⟨i_1, b_1⟩, n1⟩ hg
 obtain ⟨m1, o1, rfl, hg, hn1⟩ := iter_some (show iter (fun q' => g_der_Int.l1 n q'.1 q'.2) n1 (i_1, b_1) = some r from hg)
 replace hg : g_der_Int.l1 n i_1 b_1 = some o1 := hg
 show awp _ _ _ _ (mk _ _ _)
 unfold g_der_Int.l1 at hg
 refine awp_seq ?_
 refine sr_ 2 18 mk_U ?_
 refine c0_ rfl rfl .move rfl rfl ?_
 refine c0_ rfl rfl r_geq rfl rfl ?_
 refine ch_n fun hU18_4 => ?_
 refine awp_cond rfl (fun h5 => ?_) (fun h5 => ?_)
 ·replace hg := cond_t h5 hg
  refine aw_s ?_
  refine awp_seq ?_
  refine awp_block ?_
  refine awp_region (sys _ _ []) 18 90 hU18_4 rfl rfl ?_
  refine c0_ rfl rfl .move rfl rfl ?_
  refine c0_ rfl rfl .move rfl rfl ?_
  refine c0_ rfl rfl (r_convK und3 und86) rfl rfl ?_
  refine c0_ rfl rfl .move rfl rfl ?_
  obtain ⟨q, hq, hg⟩ := bind_some hg
  refine c0_ rfl rfl (r_shrK hq) rfl rfl ?_
  refine c0_ rfl rfl (r_conv_u8 und86 und5) rfl rfl ?_
  refine c0_ rfl rfl (r_buildFull sl22 z5 (by decide) rfl rfl rfl rfl ck5 (cs := [.int .u8 ((u8 q).toNat : Int)]) (.cons .int .nil) rfl (l := ([(u8 q)] : List UInt8)) (f := e8) rfl) rfl rfl ?_
  obtain ⟨l, hl, hg⟩ := bind_some hg
  refine ch_s (rd := [1, 66]) rfl rfl (r_append sl22 e8_len .row rfl .row rfl hl rfl) rfl rfl ?_
  refine c0_ rfl rfl .assign rfl rfl ?_
  refine ch_n fun hU90_6 => ?_
  refine awp_region (sys _ _ []) 90 114 hU90_6 rfl rfl ?_
  refine c0_ rfl rfl .move rfl rfl ?_
  refine c0_ rfl rfl r_sub rfl rfl ?_
  refine c0_ rfl rfl .assign rfl rfl ?_
  refine ch_n fun hU114_7 => ?_
  obtain rfl := Option.some.inj hg
  exact ⟨((W (i_1 - 8), l), m1), Nat.lt_succ_self _, hn1, Sub.lists [(0, 0), (1, 74)] rfl rfl ⟨⟨_, rfl, .val _⟩, ⟨_, rfl, .ptr rfl⟩, ⟨_, rfl, .row rfl⟩, ⟨_, rfl, .val _⟩, trivial⟩ ⟨.inl ⟨0, _, rfl, rfl, ⟨rfl, .cons (.val _) (.cons (.val _) (.cons (.val _) (.cons (.val _) .nil)))⟩⟩, .inl ⟨74, _, rfl, rfl, ⟨rfl, rfl, rfl⟩⟩, trivial⟩⟩
 ·replace hg := cond_f h5 hg
  refine awp_exit ?_
  repeat first | refine st_ ?_ | refine sn_ ?_
  replace hg := leave hg hn1
  refine awp_seq ?_
  refine awp_block ?_
  obtain ⟨n2, hg⟩ := loop_some hg
  refine awp_loop (ι := (List UInt8) × Nat) (fun ((b_2, _) : (List UInt8) × Nat) => mk [(2, .ptr 0 0), (3, .sl 1 (encL e8 b_2))] [(0, .box [.val (.int .i64 0), .val (.slice none 0 0), .val (.bool false), .val (.slice none 0 0)] 49)] 1) (fun ((b_2, nq') : (List UInt8) × Nat) => iter (fun q' => g_der_Int.l2 q') nq' b_2 = some r) (fun q => q.2) (b_1, n2) (Sub.lists [(0, 0)] rfl rfl ⟨⟨_, rfl, .ptr rfl⟩, ⟨_, rfl, .frz rfl (look_ne rfl)⟩, trivial⟩ ⟨.inl ⟨0, _, rfl, rfl, ⟨rfl, .cons (.val _) (.cons (.val _) (.cons (.val _) (.cons (.val _) .nil)))⟩⟩, trivial⟩) hg ?_
  rintro ⟨b_2, n2⟩ hg
  obtain ⟨m2, o2, rfl, hg, hn2⟩ := iter_some (show iter (fun q' => g_der_Int.l2 q') n2 b_2 = some r from hg)
  replace hg : g_der_Int.l2 b_2 = some o2 := hg
  show awp _ _ _ _ (mk _ _ _)
  unfold g_der_Int.l2 at hg
  refine awp_seq ?_
  refine awp_cut (ι := Bool) (fun (x43_3 : Bool) => mk [(2, .ptr 0 0), (3, .sl 1 (encL e8 b_2)), (43, .val (.bool x43_3))] [(0, .box [.val (.int .i64 0), .val (.slice none 0 0), .val (.bool false), .val (.slice none 0 0)] 49)] 1) (fun (x43_3 : Bool) => g_der_Int.j3 b_2 x43_3 = some o2) ?_ ?_
  ·refine awp_region (sys _ _ []) 1 217 mk_U rfl rfl ?_
   refine c0_ rfl rfl .move rfl rfl ?_
   refine c0_ rfl rfl (r_lenS sl22 e8_len) rfl rfl ?_
   refine c0_ rfl rfl r_gtr rfl rfl ?_
   refine c0_ rfl rfl .move rfl rfl ?_
   rcases Bool.eq_false_or_eq_true (decide (1 < (b_2.length : Int))) with h8 | h8
   ·replace hg := cond_t h8 hg
    refine c0_ (gdv_t rfl rfl h8) rfl .move rfl rfl ?_
    obtain ⟨e, he, hg⟩ := bind_some hg
    refine c0_ (gdv_t rfl rfl h8) rfl (r_idxS sl22 e8_len (getI_ix he) (getI_at he)) rfl rfl ?_
    refine c0_ (gdv_t rfl rfl h8) rfl (r_loadE1 ty5 (enc_cell e8_len (getI_at he) (o := 0) (c := .int .u8 (e.toNat : Int)) rfl rfl)) rfl rfl ?_
    refine c0_ (gdv_t rfl rfl h8) rfl r_eql rfl rfl ?_
    refine c0_ (gdv_t rfl rfl h8) rfl .move rfl rfl ?_
    rcases Bool.eq_false_or_eq_true (decide ((e.toNat : Int) = 0)) with h9 | h9
    ·replace hg := cond_t h9 hg
     refine c0_ (gdv_t rfl rfl h9) rfl .move rfl rfl ?_
     obtain ⟨e_2, he_2, hg⟩ := bind_some hg
     refine c0_ (gdv_t rfl rfl h9) rfl (r_idxS sl22 e8_len (getI_ix he_2) (getI_at he_2)) rfl rfl ?_
     refine c0_ (gdv_t rfl rfl h9) rfl (r_loadE1 ty5 (enc_cell e8_len (getI_at he_2) (o := 0) (c := .int .u8 (e_2.toNat : Int)) rfl rfl)) rfl rfl ?_
     refine c0_ (gdv_t rfl rfl h9) rfl r_lss rfl rfl ?_
     refine c0_ (gdv_t rfl rfl h8) rfl (r_pickT h9) rfl rfl ?_
     refine c0_ (gdv_t rfl rfl h8) rfl .move rfl rfl ?_
     rcases Bool.eq_false_or_eq_true (decide ((e_2.toNat : Int) < 128)) with h10 | h10
     ·replace hg := cond_t h10 hg
      iterate 5 refine ch_skip (gdv_f rfl rfl h10) rfl ?_
      iterate 4 refine ch_skip rfl rfl ?_
      refine ch_skip (gdv_f rfl rfl h10) rfl ?_
      refine c0_ (gdv_t rfl rfl h8) rfl (r_pickT h10) rfl rfl ?_
      refine c0_ rfl rfl (r_pickT h8) rfl rfl ?_
      refine ch_n fun hU217_11 => ?_
      exact ⟨true, hg, Sub.lists [(0, 0)] rfl rfl ⟨⟨_, rfl, .ptr rfl⟩, ⟨_, rfl, .sl _ _⟩, ⟨_, rfl, .val _⟩, trivial⟩ ⟨.inl ⟨0, _, rfl, rfl, ⟨rfl, .cons (.val _) (.cons (.val _) (.cons (.val _) (.cons (.val _) .nil)))⟩⟩, trivial⟩⟩
     ·replace hg := cond_f h10 hg
      refine c0_ (gdv_t rfl rfl h10) rfl .move rfl rfl ?_
      refine c0_ (gdv_t rfl rfl h10) rfl (r_idxS sl22 e8_len (getI_ix he) (getI_at he)) rfl rfl ?_
      refine c0_ (gdv_t rfl rfl h10) rfl (r_loadE1 ty5 (enc_cell e8_len (getI_at he) (o := 0) (c := .int .u8 (e.toNat : Int)) rfl rfl)) rfl rfl ?_
      refine c0_ (gdv_t rfl rfl h10) rfl r_eql rfl rfl ?_
      refine c0_ (gdv_t rfl rfl h10) rfl .move rfl rfl ?_
      rcases Bool.eq_false_or_eq_true (decide ((e.toNat : Int) = 255)) with h12 | h12
      ·replace hg := cond_t h12 hg
       refine c0_ (gdv_t rfl rfl h12) rfl .move rfl rfl ?_
       refine c0_ (gdv_t rfl rfl h12) rfl (r_idxS sl22 e8_len (getI_ix he_2) (getI_at he_2)) rfl rfl ?_
       refine c0_ (gdv_t rfl rfl h12) rfl (r_loadE1 ty5 (enc_cell e8_len (getI_at he_2) (o := 0) (c := .int .u8 (e_2.toNat : Int)) rfl rfl)) rfl rfl ?_
       refine c0_ (gdv_t rfl rfl h12) rfl r_geq rfl rfl ?_
       refine c0_ (gdv_t rfl rfl h10) rfl (r_pickT h12) rfl rfl ?_
       refine c0_ (gdv_t rfl rfl h8) rfl (r_pickF h10) rfl rfl ?_
       refine c0_ rfl rfl (r_pickT h8) rfl rfl ?_
       refine ch_n fun hU217_13 => ?_
       exact ⟨decide (128 ≤ (e_2.toNat : Int)), hg, Sub.lists [(0, 0)] rfl rfl ⟨⟨_, rfl, .ptr rfl⟩, ⟨_, rfl, .sl _ _⟩, ⟨_, rfl, .val _⟩, trivial⟩ ⟨.inl ⟨0, _, rfl, rfl, ⟨rfl, .cons (.val _) (.cons (.val _) (.cons (.val _) (.cons (.val _) .nil)))⟩⟩, trivial⟩⟩
      ·replace hg := cond_f h12 hg
       iterate 4 refine ch_skip (gdv_f rfl rfl h12) rfl ?_
       refine c0_ (gdv_t rfl rfl h10) rfl (r_pickF h12) rfl rfl ?_
       refine c0_ (gdv_t rfl rfl h8) rfl (r_pickF h10) rfl rfl ?_
       refine c0_ rfl rfl (r_pickT h8) rfl rfl ?_
       refine ch_n fun hU217_14 => ?_
       exact ⟨false, hg, Sub.lists [(0, 0)] rfl rfl ⟨⟨_, rfl, .ptr rfl⟩, ⟨_, rfl, .sl _ _⟩, ⟨_, rfl, .val _⟩, trivial⟩ ⟨.inl ⟨0, _, rfl, rfl, ⟨rfl, .cons (.val _) (.cons (.val _) (.cons (.val _) (.cons (.val _) .nil)))⟩⟩, trivial⟩⟩
    ·replace hg := cond_f h9 hg
     iterate 4 refine ch_skip (gdv_f rfl rfl h9) rfl ?_
     refine c0_ (gdv_t rfl rfl h8) rfl (r_pickF h9) rfl rfl ?_
     refine c0_ (gdv_t rfl rfl h8) rfl .move rfl rfl ?_
     refine c0_ (gdv_t rfl rfl rfl) rfl .move rfl rfl ?_
     refine c0_ (gdv_t rfl rfl rfl) rfl (r_idxS sl22 e8_len (getI_ix he) (getI_at he)) rfl rfl ?_
     refine c0_ (gdv_t rfl rfl rfl) rfl (r_loadE1 ty5 (enc_cell e8_len (getI_at he) (o := 0) (c := .int .u8 (e.toNat : Int)) rfl rfl)) rfl rfl ?_
     refine c0_ (gdv_t rfl rfl rfl) rfl r_eql rfl rfl ?_
     refine c0_ (gdv_t rfl rfl rfl) rfl .move rfl rfl ?_
     rcases Bool.eq_false_or_eq_true (decide ((e.toNat : Int) = 255)) with h15 | h15
     ·replace hg := cond_t h15 hg
      refine c0_ (gdv_t rfl rfl h15) rfl .move rfl rfl ?_
      obtain ⟨e_3, he_3, hg⟩ := bind_some hg
      refine c0_ (gdv_t rfl rfl h15) rfl (r_idxS sl22 e8_len (getI_ix he_3) (getI_at he_3)) rfl rfl ?_
      refine c0_ (gdv_t rfl rfl h15) rfl (r_loadE1 ty5 (enc_cell e8_len (getI_at he_3) (o := 0) (c := .int .u8 (e_3.toNat : Int)) rfl rfl)) rfl rfl ?_
      refine c0_ (gdv_t rfl rfl h15) rfl r_geq rfl rfl ?_
      refine c0_ (gdv_t rfl rfl rfl) rfl (r_pickT h15) rfl rfl ?_
      refine c0_ (gdv_t rfl rfl h8) rfl (r_pickF rfl) rfl rfl ?_
      refine c0_ rfl rfl (r_pickT h8) rfl rfl ?_
      refine ch_n fun hU217_16 => ?_
      exact ⟨decide (128 ≤ (e_3.toNat : Int)), hg, Sub.lists [(0, 0)] rfl rfl ⟨⟨_, rfl, .ptr rfl⟩, ⟨_, rfl, .sl _ _⟩, ⟨_, rfl, .val _⟩, trivial⟩ ⟨.inl ⟨0, _, rfl, rfl, ⟨rfl, .cons (.val _) (.cons (.val _) (.cons (.val _) (.cons (.val _) .nil)))⟩⟩, trivial⟩⟩
     ·replace hg := cond_f h15 hg
      iterate 4 refine ch_skip (gdv_f rfl rfl h15) rfl ?_
      refine c0_ (gdv_t rfl rfl rfl) rfl (r_pickF h15) rfl rfl ?_
      refine c0_ (gdv_t rfl rfl h8) rfl (r_pickF rfl) rfl rfl ?_
      refine c0_ rfl rfl (r_pickT h8) rfl rfl ?_
      refine ch_n fun hU217_17 => ?_
      exact ⟨false, hg, Sub.lists [(0, 0)] rfl rfl ⟨⟨_, rfl, .ptr rfl⟩, ⟨_, rfl, .sl _ _⟩, ⟨_, rfl, .val _⟩, trivial⟩ ⟨.inl ⟨0, _, rfl, rfl, ⟨rfl, .cons (.val _) (.cons (.val _) (.cons (.val _) (.cons (.val _) .nil)))⟩⟩, trivial⟩⟩
   ·replace hg := cond_f h8 hg
    iterate 5 refine ch_skip (gdv_f rfl rfl h8) rfl ?_
    iterate 4 refine ch_skip rfl rfl ?_
    refine ch_skip (gdv_f rfl rfl h8) rfl ?_
    refine ch_skip (gdv_f rfl rfl h8) rfl ?_
    iterate 10 refine ch_skip rfl rfl ?_
    refine ch_skip (gdv_f rfl rfl h8) rfl ?_
    refine c0_ rfl rfl (r_pickF h8) rfl rfl ?_
    refine ch_n fun hU217_18 => ?_
    exact ⟨false, hg, Sub.lists [(0, 0)] rfl rfl ⟨⟨_, rfl, .ptr rfl⟩, ⟨_, rfl, .sl _ _⟩, ⟨_, rfl, .val _⟩, trivial⟩ ⟨.inl ⟨0, _, rfl, rfl, ⟨rfl, .cons (.val _) (.cons (.val _) (.cons (.val _) (.cons (.val _) .nil)))⟩⟩, trivial⟩⟩
  ·rintro x43_3 hg
   replace hg : g_der_Int.j3 b_2 x43_3 = some o2 := hg
   show awp _ _ _ _ (mk _ _ _)
   unfold g_der_Int.j3 at hg
   refine awp_cond rfl (fun h19 => ?_) (fun h19 => ?_)
   ·replace hg := cond_t h19 hg
    refine aw_s ?_
    refine awp_block ?_
    refine awp_region (sys _ _ []) 1 25 mk_U rfl rfl ?_
    refine c0_ rfl rfl .move rfl rfl ?_
    obtain ⟨l_2, hl_2, hg⟩ := bind_some hg
    refine c0_ rfl rfl (r_sliS_lo sl22 e8_len hl_2) rfl rfl ?_
    refine c0_ rfl rfl .assign rfl rfl ?_
    refine ch_n fun hU25_20 => ?_
    obtain rfl := Option.some.inj hg
    exact ⟨(l_2, m2), Nat.lt_succ_self _, hn2, Sub.lists [(0, 0)] rfl rfl ⟨⟨_, rfl, .ptr rfl⟩, ⟨_, rfl, .sl _ _⟩, trivial⟩ ⟨.inl ⟨0, _, rfl, rfl, ⟨rfl, .cons (.val _) (.cons (.val _) (.cons (.val _) (.cons (.val _) .nil)))⟩⟩, trivial⟩⟩
   ·replace hg := cond_f h19 hg
    refine awp_exit ?_
    repeat first | refine st_ ?_ | refine sn_ ?_
    replace hg := leave hg hn2
    refine sr_ 1 25 mk_U ?_
    refine c0_ rfl rfl .move rfl rfl ?_
    refine c0_ rfl rfl (.build (r := [.val (.int .i64 2), .sl 1 (encL e8 b_2), .val (.bool false), .val (.slice none 0 0)]) und49 pl49 z49 (by kernel_rfl) rfl) rfl rfl ?_
    refine ch_s (rd := [0]) rfl rfl (r_storeB (ds' := [.val (.int .i64 2), .sl 1 (encL e8 b_2), .val (.bool false), .val (.slice none 0 0)]) ty49 rfl (Nat.le_of_ble_eq_true rfl) rfl rfl) rfl rfl ?_
    refine ch_n fun hU25_21 => ?_
    refine aw_r ?_
    obtain rfl := Option.some.inj hg
    exact ⟨[_], _, [], [], .cons (.cellA rfl rfl ty49 rfl) .nil, ⟨rfl, rfl⟩, .agg (.cons (.val _) (.cons (.sl _ _) (.cons (.val _) (.cons (.nils _) .nil)))), trivial, rfl, rfl, rfl, rfl⟩
theorem w_bytes_Clone (b : (List UInt8)) (r : (List UInt8)) (hg : g_bytes_Clone b = some r) : Fn Try.prog 62 0 [.sl 1 (encL e8 b)] [] (fun d b => d = .sl 1 (encL e8 r) ∧ b = []) := by
 unfold g_bytes_Clone at hg
 refine Fn.of Try.func62 rfl rfl rfl fun w0 I ρ0 => ?_
 show awp _ ⟨w0, I, ρ0, 0, 0, 8⟩ _ _ _
 refine sr_ 0 8 mk_U ?_
 refine c0_ rfl rfl .assign rfl rfl ?_
 refine ch_n fun hU8_1 => ?_
 refine awp_seq ?_
 refine awp_cut (ι := Bool) (fun (x4_1 : Bool) => mk [(0, .sl 1 (encL e8 b)), (4, .val (.bool x4_1))] [] 0) (fun (x4_1 : Bool) => g_bytes_Clone.j1 b x4_1 = some r) ?_ ?_
 ·refine awp_region (sys _ _ []) 8 24 hU8_1 rfl rfl ?_
  refine c0_ rfl rfl .move rfl rfl ?_
  refine ch_nilE rfl rfl ⟨_, und22⟩ rfl ?_
  intro bz hz2
  rcases bz with _ | _
  ·replace hg := nilC_f hg
   refine ch_n fun hU24_4 => ?_
   exact ⟨false, hg, Sub.lists [] rfl rfl ⟨⟨_, rfl, .sl _ _⟩, ⟨_, rfl, .val _⟩, trivial⟩ trivial⟩
  ·replace hg := nilC_t ((nil_of_enc e8_len (by decide) (hz2 rfl))) hg
   refine ch_n fun hU24_3 => ?_
   exact ⟨true, hg, Sub.lists [] rfl rfl ⟨⟨_, rfl, .sl _ _⟩, ⟨_, rfl, .val _⟩, trivial⟩ trivial⟩
 ·rintro x4_1 hg
  replace hg : g_bytes_Clone.j1 b x4_1 = some r := hg
  show awp _ _ _ _ (mk _ _ _)
  unfold g_bytes_Clone.j1 at hg
  refine awp_cond rfl (fun h5 => ?_) (fun h5 => ?_)
  ·replace hg := cond_t h5 hg
   refine sr_ 0 8 mk_U ?_
   refine c0_ rfl rfl .assign rfl rfl ?_
   refine ch_n fun hU8_6 => ?_
   refine aw_r ?_
   obtain rfl := Option.some.inj hg
   exact ⟨[_], _, [], [], .cons (.tmp rfl) .nil, ⟨rfl, rfl⟩, .nils _, trivial, rfl, rfl, rfl, rfl⟩
  ·replace hg := cond_f h5 hg
   refine aw_s ?_
   refine sr_ 0 32 mk_U ?_
   refine c0_ rfl rfl (r_buildFull sl22 z5 (by decide) rfl rfl rfl rfl ck5 (cs := []) .nil rfl (l := ([] : List UInt8)) (f := e8) rfl) rfl rfl ?_
   refine c0_ rfl rfl .move rfl rfl ?_
   obtain ⟨l, hl, hg⟩ := bind_some hg
   refine ch_s (rd := [0]) rfl rfl (r_append sl22 e8_len .row rfl .sl rfl hl rfl) rfl rfl ?_
   refine c0_ rfl rfl .assign rfl rfl ?_
   refine ch_n fun hU32_7 => ?_
   refine aw_r ?_
   obtain rfl := Option.some.inj hg
   exact ⟨[_], _, [], [], .cons (.tmp rfl) .nil, ⟨rfl, rfl⟩, .frz rfl (look_ne rfl), trivial, rfl, rfl, rfl, rfl⟩
theorem w_der_copied.F (rec : (List api_Value) → Option ((List api_Value))) (hrec : ∀ (l : (List api_Value)) (r : (List api_Value)), rec l = some r → Fn Try.prog 59 0 [.sl 4 (encL api_Value.enc l)] [] (fun d b => d = .sl 4 (encL api_Value.enc r) ∧ b = [])) (l : (List api_Value)) (r : (List api_Value)) (hg : g_der_copied.F rec l = some r) : Fn Try.prog 59 0 [.sl 4 (encL api_Value.enc l)] [] (fun d b => d = .sl 4 (encL api_Value.enc r) ∧ b = []) := by
 unfold g_der_copied.F at hg
 refine Fn.of Try.func59 rfl rfl rfl fun w0 I ρ0 => ?_
 show awp _ ⟨w0, I, ρ0, 0, 0, 26⟩ _ _ _
 refine sr_ 0 8 mk_U ?_
 refine c0_ rfl rfl .assign rfl rfl ?_
 refine ch_n fun hU8_1 => ?_
 refine sr_ 8 16 hU8_1 ?_
 refine c0_ rfl rfl .assign rfl rfl ?_
 refine ch_n fun hU16_2 => ?_
 refine awp_seq ?_
 refine sr_ 16 40 hU16_2 ?_
 refine c0_ rfl rfl .move rfl rfl ?_
 refine c0_ rfl rfl (r_lenS sl47 api_Value.enc_len) rfl rfl ?_
 refine c0_ rfl rfl .move rfl rfl ?_
 refine ch_n fun hU40_3 => ?_
 refine awp_block ?_
 obtain ⟨n1, hg⟩ := loop_some hg
 refine awp_loop (ι := (Int × List api_Value) × Nat) (fun (((x8_1, out_1), _) : (Int × List api_Value) × Nat) => mk [(3, .row 0), (6, .sl 4 (encL api_Value.enc l)), (7, .val (.int .i64 (l.length : Int))), (8, .val (.int .i64 x8_1))] [(0, .row 49 4 (encL api_Value.enc out_1))] 1) (fun (((x8_1, out_1), nq') : (Int × List api_Value) × Nat) => iter (fun q' => g_der_copied.l1 rec l q'.1 q'.2) nq' (x8_1, out_1) = some r) (fun q => q.2) ((0, ([] : List api_Value)), n1) (Sub.lists [] rfl rfl ⟨⟨_, rfl, .nil rfl⟩, ⟨_, rfl, .sl _ _⟩, ⟨_, rfl, .val _⟩, ⟨_, rfl, .val _⟩, trivial⟩ ⟨.inr ⟨rfl, _, _, rfl⟩, trivial⟩) hg ?_
 rintro ⟨⟨x8_1, out_1⟩, n1⟩ hg
 obtain ⟨m1, o1, rfl, hg, hn1⟩ := iter_some (show iter (fun q' => g_der_copied.l1 rec l q'.1 q'.2) n1 (x8_1, out_1) = some r from hg)
 replace hg : g_der_copied.l1 rec l x8_1 out_1 = some o1 := hg
 show awp _ _ _ _ (mk _ _ _)
 unfold g_der_copied.l1 at hg
 refine sr_ 1 9 mk_U ?_
 refine c0_ rfl rfl r_lss rfl rfl ?_
 refine ch_n fun hU9_4 => ?_
 refine awp_seq ?_
 refine awp_cond rfl (fun h5 => ?_) (fun h5 => ?_)
 ·replace hg := cond_t h5 hg
  refine aw_s ?_
  refine awp_seq ?_
  refine awp_block ?_
  refine sr_ 9 41 hU9_4 ?_
  obtain ⟨e, he, hg⟩ := bind_some hg
  refine c0_ rfl rfl (r_idxS sl47 api_Value.enc_len (getI_ix he) (getI_at he)) rfl rfl ?_
  refine c0_ rfl rfl (r_loadEA ty49 (enc_cells api_Value.enc_len (getI_at he) (o := 0) (m := 4) (cs := [.int .i64 e.Tag, .sl 1 (encL e8 e.Bytes), .bool e.Nested, .sl 4 (encL api_Value.enc e.Elements)]) (by simp only [api_Value.enc_eq]; rfl) (by decide) rfl) (enc_cells_le api_Value.enc_len (getI_at he) (o := 0) (m := 4) (by decide) rfl)) rfl rfl ?_
  refine c0_ rfl rfl (.alloc z49) rfl rfl ?_
  refine ch_s (rd := [25]) rfl rfl (r_storeB (ds' := [.val (.int .i64 e.Tag), .sl 1 (encL e8 e.Bytes), .val (.bool e.Nested), .sl 4 (encL api_Value.enc e.Elements)]) ty49 rfl (Nat.le_of_ble_eq_true rfl) rfl rfl) rfl rfl ?_
  refine ch_n fun hU41_6 => ?_
  refine awp_seq ?_
  refine awp_draw (sys _ _ []) (by kernel_rfl) [0, 1, 3, 0, 8, 31, 31, 127, 255, 511] 41 121 hU41_6 rfl rfl (by kernel_rfl) ?_
  refine c0_ rfl rfl (.fieldP fd49_1 ty22 (by decide)) rfl rfl ?_
  refine ch_s (rd := [25]) rfl rfl (.loadB1 ty22 rfl) rfl rfl ?_
  obtain ⟨y, hy, hg⟩ := bind_some hg
  refine ch_callP (rd := []) (ps := []) (gs := []) false rfl (w_bytes_Clone e.Bytes _ hy) rfl rfl (.cons .sl .nil) rfl rfl (by intro h; cases h) rfl rfl rfl rfl ?_
  refine c0_ rfl rfl (.fieldP fd49_3 ty47 (by decide)) rfl rfl ?_
  refine ch_s (rd := [25]) rfl rfl (.loadB1 ty47 rfl) rfl rfl ?_
  obtain ⟨y_2, hy_2, hg⟩ := bind_some hg
  refine ch_callP (rd := []) (ps := []) (gs := []) false rfl (hrec e.Elements _ hy_2) rfl rfl (.cons .sl .nil) rfl rfl (by intro h; cases h) rfl rfl rfl rfl ?_
  refine c0_ rfl rfl (.fieldP fd49_1 ty22 (by decide)) rfl rfl ?_
  refine ch_s (rd := [25]) rfl rfl (r_storeB (ds' := [.val (.int .i64 e.Tag), .sl 1 (encL e8 y), .val (.bool e.Nested), .sl 4 (encL api_Value.enc e.Elements)]) ty22 rfl (Nat.le_of_ble_eq_true rfl) rfl rfl) rfl rfl ?_
  refine c0_ rfl rfl (.fieldP fd49_3 ty47 (by decide)) rfl rfl ?_
  refine ch_s (rd := [25]) rfl rfl (r_storeB (ds' := [.val (.int .i64 e.Tag), .sl 1 (encL e8 y), .val (.bool e.Nested), .sl 4 (encL api_Value.enc y_2)]) ty47 rfl (Nat.le_of_ble_eq_true rfl) rfl rfl) rfl rfl ?_
  refine ch_n fun hU121_7 => ?_
  refine awp_region (sys _ _ []) 121 161 hU121_7 rfl rfl ?_
  refine c0_ rfl rfl .move rfl rfl ?_
  refine ch_s (rd := [25]) rfl rfl (.loadBA ty49 (Nat.le_of_ble_eq_true rfl)) rfl rfl ?_
  refine c0_ rfl rfl (r_buildFull sl47 z49 (by decide) rfl rfl rfl rfl ck49 (cs := [.int .i64 e.Tag, .sl 1 (encL e8 y), .bool e.Nested, .sl 4 (encL api_Value.enc y_2)]) (.cons .int (.cons .sl (.cons .bool (.cons .sl .nil)))) rfl (l := ([(api_Value.mk e.Tag y e.Nested y_2)] : List api_Value)) (f := api_Value.enc) (by simp only [encL, List.flatMap_cons, List.flatMap_nil, api_Value.enc_eq]; rfl)) rfl rfl ?_
  obtain ⟨l_2, hl_2, hg⟩ := bind_some hg
  refine ch_s (rd := [0, 137]) rfl rfl (r_append sl47 api_Value.enc_len .row rfl .row rfl hl_2 rfl) rfl rfl ?_
  refine c0_ rfl rfl .assign rfl rfl ?_
  refine ch_n fun hU161_8 => ?_
  refine awp_region (sys _ _ []) 161 177 hU161_8 rfl rfl ?_
  refine c0_ rfl rfl r_add rfl rfl ?_
  refine c0_ rfl rfl .move rfl rfl ?_
  refine ch_n fun hU177_9 => ?_
  obtain rfl := Option.some.inj hg
  exact ⟨((W (x8_1 + 1), l_2), m1), Nat.lt_succ_self _, hn1, Sub.lists [(0, 145)] rfl rfl ⟨⟨_, rfl, .row rfl⟩, ⟨_, rfl, .sl _ _⟩, ⟨_, rfl, .val _⟩, ⟨_, rfl, .val _⟩, trivial⟩ ⟨.inl ⟨145, _, rfl, rfl, ⟨rfl, rfl, rfl⟩⟩, trivial⟩⟩
 ·replace hg := cond_f h5 hg
  refine awp_exit ?_
  repeat first | refine st_ ?_ | refine sn_ ?_
  replace hg := leave hg hn1
  refine sr_ 9 25 hU9_4 ?_
  refine c0_ rfl rfl .move rfl rfl ?_
  refine c0_ rfl rfl .assign rfl rfl ?_
  refine ch_n fun hU25_10 => ?_
  refine aw_r ?_
  obtain rfl := Option.some.inj hg
  exact ⟨[_], _, [], [], .cons (.tmp rfl) .nil, ⟨rfl, rfl⟩, .frz rfl (look_ne rfl), trivial, rfl, rfl, rfl, rfl⟩
theorem w_der_copied (l : (List api_Value)) (r : (List api_Value)) (hg : g_der_copied l = some r) : Fn Try.prog 59 0 [.sl 4 (encL api_Value.enc l)] [] (fun d b => d = .sl 4 (encL api_Value.enc r) ∧ b = []) :=
 fixT_ind (motive := fun (x : (List api_Value)) (r : (List api_Value)) => Fn Try.prog 59 0 [.sl 4 (encL api_Value.enc x)] [] (fun d b => d = .sl 4 (encL api_Value.enc r) ∧ b = [])) (fun rec hrec x r h => w_der_copied.F _ (fun l r h => hrec l r h) x r h) l r hg
theorem w_der_Of (l : (List api_Value)) (r : api_Value) (hg : g_der_Of l = some r) : Fn Try.prog 30 0 [.sl 4 (encL api_Value.enc l)] [] (fun d b => d = .agg [.val (.int .i64 r.Tag), .sl 1 (encL e8 r.Bytes), .val (.bool r.Nested), .sl 4 (encL api_Value.enc r.Elements)] ∧ b = []) := by
 unfold g_der_Of at hg
 refine Fn.of Try.func30 rfl rfl rfl fun w0 I ρ0 => ?_
 show awp _ ⟨w0, I, ρ0, 0, 0, 6⟩ _ _ _
 refine sr_ 0 8 mk_U ?_
 refine c0_ rfl rfl (.alloc z49) rfl rfl ?_
 refine ch_n fun hU8_1 => ?_
 refine sr_ 8 40 hU8_1 ?_
 refine c0_ rfl rfl .move rfl rfl ?_
 obtain ⟨y, hy, hg⟩ := bind_some hg
 refine ch_callP (rd := []) (ps := []) (gs := []) false rfl (w_der_copied l _ hy) rfl rfl (.cons .sl .nil) rfl rfl (by intro h; cases h) rfl rfl rfl rfl ?_
 refine c0_ rfl rfl (.build (r := [.val (.int .i64 48), .val (.slice none 0 0), .val (.bool true), .sl 4 (encL api_Value.enc y)]) und49 pl49 z49 (by kernel_rfl) rfl) rfl rfl ?_
 refine ch_s (rd := [0]) rfl rfl (r_storeB (ds' := [.val (.int .i64 48), .val (.slice none 0 0), .val (.bool true), .sl 4 (encL api_Value.enc y)]) ty49 rfl (Nat.le_of_ble_eq_true rfl) rfl rfl) rfl rfl ?_
 refine ch_n fun hU40_2 => ?_
 refine aw_r ?_
 obtain rfl := Option.some.inj hg
 exact ⟨[_], _, [], [], .cons (.cellA rfl rfl ty49 rfl) .nil, ⟨rfl, rfl⟩, .agg (.cons (.val _) (.cons (.nils _) (.cons (.val _) (.cons (.sl _ _) .nil)))), trivial, rfl, rfl, rfl, rfl⟩
theorem w_certificate_Use (u : api_Use) (r : api_Value) (hg : g_certificate_Use u = some r) : Fn Try.prog 49 0 [.agg [.val (.int .i64 u.Alg), .val (.int .i64 u.Bits)]] [] (fun d b => d = .agg [.val (.int .i64 r.Tag), .sl 1 (encL e8 r.Bytes), .val (.bool r.Nested), .sl 4 (encL api_Value.enc r.Elements)] ∧ b = []) := by
 unfold g_certificate_Use at hg
 refine Fn.of Try.func49 rfl rfl rfl fun w0 I ρ0 => ?_
 show awp _ ⟨w0, I, ρ0, 0, 0, 11⟩ _ _ _
 refine sr_ 0 16 mk_U ?_
 refine c0_ rfl rfl (.box rfl) rfl rfl ?_
 refine c0_ rfl rfl (.alloc z49) rfl rfl ?_
 refine ch_n fun hU16_1 => ?_
 refine awp_seq ?_
 refine awp_draw (sys _ _ [64]) (by kernel_rfl) [0, 1, 3, 0, 8, 31, 63, 127, 255] 16 88 hU16_1 rfl rfl (by kernel_rfl) ?_
 refine c0_ rfl rfl (.fieldP fd28_0 ty3 (by decide)) rfl rfl ?_
 refine ch_s (rd := [0]) rfl rfl (.loadB1 ty3 rfl) rfl rfl ?_
 obtain ⟨y, hy, hg⟩ := bind_some hg
 refine ch_callP (rd := []) (ps := []) (gs := []) false rfl (w_der_Int u.Alg _ hy) rfl rfl (.cons .val .nil) rfl rfl (by intro h; cases h) rfl rfl rfl rfl ?_
 refine c0_ rfl rfl (.fieldP fd28_1 ty3 (by decide)) rfl rfl ?_
 refine ch_s (rd := [0]) rfl rfl (.loadB1 ty3 rfl) rfl rfl ?_
 obtain ⟨y_2, hy_2, hg⟩ := bind_some hg
 refine ch_callP (rd := []) (ps := []) (gs := []) false rfl (w_der_Int u.Bits _ hy_2) rfl rfl (.cons .val .nil) rfl rfl (by intro h; cases h) rfl rfl rfl rfl ?_
 refine ch_z (rd := []) rfl rfl (r_buildFull sl47 z49 (by decide) rfl rfl rfl rfl ck49 (cs := [.int .i64 y.Tag, .sl 1 (encL e8 y.Bytes), .bool y.Nested, .sl 4 (encL api_Value.enc y.Elements), .int .i64 y_2.Tag, .sl 1 (encL e8 y_2.Bytes), .bool y_2.Nested, .sl 4 (encL api_Value.enc y_2.Elements)]) (.cons .int (.cons .sl (.cons .bool (.cons .sl (.cons .int (.cons .sl (.cons .bool (.cons .sl .nil)))))))) rfl (l := ([y, y_2] : List api_Value)) (f := api_Value.enc) (by simp only [encL, List.flatMap_cons, List.flatMap_nil, api_Value.enc_eq]; rfl)) rfl rfl rfl ?_
 obtain ⟨y_3, hy_3, hg⟩ := bind_some hg
 refine ch_callP (rd := []) (ps := []) (gs := []) false rfl (w_der_Of ([y, y_2] : List api_Value) _ hy_3) rfl rfl (.cons .sl .nil) rfl rfl (by intro h; cases h) rfl rfl rfl rfl ?_
 refine ch_s (rd := [8]) rfl rfl (r_storeB (ds' := [.val (.int .i64 y_3.Tag), .sl 1 (encL e8 y_3.Bytes), .val (.bool y_3.Nested), .sl 4 (encL api_Value.enc y_3.Elements)]) ty49 rfl (Nat.le_of_ble_eq_true rfl) rfl rfl) rfl rfl ?_
 refine ch_n fun hU88_2 => ?_
 refine aw_r ?_
 obtain rfl := Option.some.inj hg
 exact ⟨[_], _, [], [], .cons (.cellA rfl rfl ty49 rfl) .nil, ⟨rfl, rfl⟩, .agg (.cons (.val _) (.cons (.sl _ _) (.cons (.val _) (.cons (.sl _ _) .nil)))), trivial, rfl, rfl, rfl, rfl⟩
theorem w_der_Bool (b : Bool) (r : api_Value) (hg : g_der_Bool b = some r) : Fn Try.prog 50 0 [.val (.bool b)] [] (fun d b => d = .agg [.val (.int .i64 r.Tag), .sl 1 (encL e8 r.Bytes), .val (.bool r.Nested), .sl 4 (encL api_Value.enc r.Elements)] ∧ b = []) := by
 unfold g_der_Bool at hg
 refine Fn.of Try.func50 rfl rfl rfl fun w0 I ρ0 => ?_
 show awp _ ⟨w0, I, ρ0, 0, 0, 8⟩ _ _ _
 refine sr_ 0 8 mk_U ?_
 refine c0_ rfl rfl (.alloc z49) rfl rfl ?_
 refine ch_n fun hU8_1 => ?_
 refine awp_seq ?_
 refine sr_ 8 16 hU8_1 ?_
 refine c0_ rfl rfl .move rfl rfl ?_
 refine ch_n fun hU16_2 => ?_
 refine awp_cond rfl (fun h3 => ?_) (fun h3 => ?_)
 ·replace hg := cond_t h3 hg
  refine sr_ 16 40 hU16_2 ?_
  refine c0_ rfl rfl (r_buildFull sl22 z5 (by decide) rfl rfl rfl rfl ck5 (cs := [.int .u8 255]) (.cons .int .nil) rfl (l := ([(255 : UInt8)] : List UInt8)) (f := e8) rfl) rfl rfl ?_
  refine c0_ rfl rfl (.build (r := [.val (.int .i64 1), .row 16, .val (.bool false), .val (.slice none 0 0)]) und49 pl49 z49 (by kernel_rfl) rfl) rfl rfl ?_
  refine ch_s (rd := [0]) rfl rfl (r_storeB (ds' := [.val (.int .i64 1), .row 16, .val (.bool false), .val (.slice none 0 0)]) ty49 rfl (Nat.le_of_ble_eq_true rfl) rfl rfl) rfl rfl ?_
  refine ch_n fun hU40_4 => ?_
  refine aw_r ?_
  obtain rfl := Option.some.inj hg
  exact ⟨[_], _, [], [], .cons (.cellA rfl rfl ty49 rfl) .nil, ⟨rfl, rfl⟩, .agg (.cons (.val _) (.cons (.frz rfl (look_ne rfl)) (.cons (.val _) (.cons (.nils _) .nil)))), trivial, rfl, rfl, rfl, rfl⟩
 ·replace hg := cond_f h3 hg
  refine aw_s ?_
  refine sr_ 16 40 hU16_2 ?_
  refine c0_ rfl rfl (r_buildFull sl22 z5 (by decide) rfl rfl rfl rfl ck5 (cs := [.int .u8 0]) (.cons .int .nil) rfl (l := ([(0 : UInt8)] : List UInt8)) (f := e8) rfl) rfl rfl ?_
  refine c0_ rfl rfl (.build (r := [.val (.int .i64 1), .row 16, .val (.bool false), .val (.slice none 0 0)]) und49 pl49 z49 (by kernel_rfl) rfl) rfl rfl ?_
  refine ch_s (rd := [0]) rfl rfl (r_storeB (ds' := [.val (.int .i64 1), .row 16, .val (.bool false), .val (.slice none 0 0)]) ty49 rfl (Nat.le_of_ble_eq_true rfl) rfl rfl) rfl rfl ?_
  refine ch_n fun hU40_5 => ?_
  refine aw_r ?_
  obtain rfl := Option.some.inj hg
  exact ⟨[_], _, [], [], .cons (.cellA rfl rfl ty49 rfl) .nil, ⟨rfl, rfl⟩, .agg (.cons (.val _) (.cons (.frz rfl (look_ne rfl)) (.cons (.val _) (.cons (.nils _) .nil)))), trivial, rfl, rfl, rfl, rfl⟩
theorem w_der_List (l : (List api_Value)) (r : api_Value) (hg : g_der_List l = some r) : Fn Try.prog 51 0 [.sl 4 (encL api_Value.enc l)] [] (fun d b => d = .agg [.val (.int .i64 r.Tag), .sl 1 (encL e8 r.Bytes), .val (.bool r.Nested), .sl 4 (encL api_Value.enc r.Elements)] ∧ b = []) := by
 unfold g_der_List at hg
 refine Fn.of Try.func51 rfl rfl rfl fun w0 I ρ0 => ?_
 show awp _ ⟨w0, I, ρ0, 0, 0, 5⟩ _ _ _
 refine sr_ 0 8 mk_U ?_
 refine c0_ rfl rfl (.alloc z49) rfl rfl ?_
 refine ch_n fun hU8_1 => ?_
 refine sr_ 8 32 hU8_1 ?_
 refine c0_ rfl rfl .move rfl rfl ?_
 obtain ⟨y, hy, hg⟩ := bind_some hg
 refine ch_callP (rd := []) (ps := []) (gs := []) false rfl (w_der_Of l _ hy) rfl rfl (.cons .sl .nil) rfl rfl (by intro h; cases h) rfl rfl rfl rfl ?_
 refine ch_s (rd := [0]) rfl rfl (r_storeB (ds' := [.val (.int .i64 y.Tag), .sl 1 (encL e8 y.Bytes), .val (.bool y.Nested), .sl 4 (encL api_Value.enc y.Elements)]) ty49 rfl (Nat.le_of_ble_eq_true rfl) rfl rfl) rfl rfl ?_
 refine ch_n fun hU32_2 => ?_
 refine aw_r ?_
 obtain rfl := Option.some.inj hg
 exact ⟨[_], _, [], [], .cons (.cellA rfl rfl ty49 rfl) .nil, ⟨rfl, rfl⟩, .agg (.cons (.val _) (.cons (.sl _ _) (.cons (.val _) (.cons (.sl _ _) .nil)))), trivial, rfl, rfl, rfl, rfl⟩
theorem w_certificate_body (c : api_Certificate) (r : api_Value) (hg : g_certificate_body c = some r) : Fn Try.prog 22 0 [.agg [.val (.int .i64 c.Serial), .val (.string c.Issuer), .val (.string c.Subject), .val (.int .i64 c.Key.Alg), .val (.int .i64 c.Key.Bits), .val (.int .i64 c.KeyId), .val (.int .i64 c.Hash.Alg), .val (.int .i64 c.Hash.Bits), .val (.int .i64 c.From), .val (.int .i64 c.To), .val (.bool c.Authority), .val (.int .i64 c.Path), .sl 1 (encL eS c.Names), .val (.int .i64 c.Seal.Key), .val (.int .i64 c.Seal.Sum)]] [] (fun d b => d = .agg [.val (.int .i64 r.Tag), .sl 1 (encL e8 r.Bytes), .val (.bool r.Nested), .sl 4 (encL api_Value.enc r.Elements)] ∧ b = []) := by
 unfold g_certificate_body at hg
 refine Fn.of Try.func22 rfl rfl rfl fun w0 I ρ0 => ?_
 show awp _ ⟨w0, I, ρ0, 0, 0, 53⟩ _ _ _
 refine sr_ 0 16 mk_U ?_
 refine c0_ rfl rfl (.box rfl) rfl rfl ?_
 refine c0_ rfl rfl (.alloc z49) rfl rfl ?_
 refine ch_n fun hU16_1 => ?_
 refine sr_ 16 24 hU16_1 ?_
 refine c0_ rfl rfl .assign rfl rfl ?_
 refine ch_n fun hU24_2 => ?_
 refine awp_seq ?_
 refine sr_ 24 56 hU24_2 ?_
 refine c0_ rfl rfl (.fieldP fd33_10 ty29 (by decide)) rfl rfl ?_
 refine ch_s (rd := [0]) rfl rfl (.loadB1 ty29 rfl) rfl rfl ?_
 refine c0_ rfl rfl (r_lenS sl29 eS_len) rfl rfl ?_
 refine c0_ rfl rfl .move rfl rfl ?_
 refine ch_n fun hU56_3 => ?_
 refine awp_block ?_
 obtain ⟨n1, hg⟩ := loop_some hg
 refine awp_loop (ι := (Int × List api_Value) × Nat) (fun (((x9_1, names_1), _) : (Int × List api_Value) × Nat) => mk [(1, .ptr 0 0), (2, .ptr 1 0), (3, .row 2), (7, .sl 1 (encL eS c.Names)), (8, .val (.int .i64 (c.Names.length : Int))), (9, .val (.int .i64 x9_1))] [(0, .box [.val (.int .i64 c.Serial), .val (.string c.Issuer), .val (.string c.Subject), .val (.int .i64 c.Key.Alg), .val (.int .i64 c.Key.Bits), .val (.int .i64 c.KeyId), .val (.int .i64 c.Hash.Alg), .val (.int .i64 c.Hash.Bits), .val (.int .i64 c.From), .val (.int .i64 c.To), .val (.bool c.Authority), .val (.int .i64 c.Path), .sl 1 (encL eS c.Names), .val (.int .i64 c.Seal.Key), .val (.int .i64 c.Seal.Sum)] 33), (1, .box [.val (.int .i64 0), .val (.slice none 0 0), .val (.bool false), .val (.slice none 0 0)] 49), (2, .row 49 4 (encL api_Value.enc names_1))] 3) (fun (((x9_1, names_1), nq') : (Int × List api_Value) × Nat) => iter (fun q' => g_certificate_body.l1 c q'.1 q'.2) nq' (x9_1, names_1) = some r) (fun q => q.2) ((0, ([] : List api_Value)), n1) (Sub.lists [(0, 0), (1, 8)] rfl rfl ⟨⟨_, rfl, .ptr rfl⟩, ⟨_, rfl, .ptr rfl⟩, ⟨_, rfl, .nil rfl⟩, ⟨_, rfl, .sl _ _⟩, ⟨_, rfl, .val _⟩, ⟨_, rfl, .val _⟩, trivial⟩ ⟨.inl ⟨0, _, rfl, rfl, ⟨rfl, .cons (.val _) (.cons (.val _) (.cons (.val _) (.cons (.val _) (.cons (.val _) (.cons (.val _) (.cons (.val _) (.cons (.val _) (.cons (.val _) (.cons (.val _) (.cons (.val _) (.cons (.val _) (.cons (.sl _ _) (.cons (.val _) (.cons (.val _) .nil))))))))))))))⟩⟩, .inl ⟨8, _, rfl, rfl, ⟨rfl, .cons (.val _) (.cons (.val _) (.cons (.val _) (.cons (.val _) .nil)))⟩⟩, .inr ⟨rfl, _, _, rfl⟩, trivial⟩) hg ?_
 rintro ⟨⟨x9_1, names_1⟩, n1⟩ hg
 obtain ⟨m1, o1, rfl, hg, hn1⟩ := iter_some (show iter (fun q' => g_certificate_body.l1 c q'.1 q'.2) n1 (x9_1, names_1) = some r from hg)
 replace hg : g_certificate_body.l1 c x9_1 names_1 = some o1 := hg
 show awp _ _ _ _ (mk _ _ _)
 unfold g_certificate_body.l1 at hg
 refine sr_ 3 11 mk_U ?_
 refine c0_ rfl rfl r_lss rfl rfl ?_
 refine ch_n fun hU11_4 => ?_
 refine awp_seq ?_
 refine awp_cond rfl (fun h5 => ?_) (fun h5 => ?_)
 ·replace hg := cond_t h5 hg
  refine aw_s ?_
  refine awp_seq ?_
  refine awp_block ?_
  refine sr_ 11 35 hU11_4 ?_
  obtain ⟨e, he, hg⟩ := bind_some hg
  refine c0_ rfl rfl (r_idxS sl29 eS_len (getI_ix he) (getI_at he)) rfl rfl ?_
  refine c0_ rfl rfl (r_loadE1 ty9 (enc_cell eS_len (getI_at he) (o := 0) (c := .str e) rfl rfl)) rfl rfl ?_
  refine c0_ rfl rfl .assign rfl rfl ?_
  refine ch_n fun hU35_6 => ?_
  refine awp_region (sys _ _ []) 35 83 hU35_6 rfl rfl ?_
  refine c0_ rfl rfl .move rfl rfl ?_
  refine c0_ rfl rfl .move rfl rfl ?_
  obtain ⟨y, hy, hg⟩ := bind_some hg
  refine ch_callP (rd := []) (ps := []) (gs := []) false rfl (w_der_Text e _ hy) rfl rfl (.cons .val .nil) rfl rfl (by intro h; cases h) rfl rfl rfl rfl ?_
  refine c0_ rfl rfl (r_buildFull sl47 z49 (by decide) rfl rfl rfl rfl ck49 (cs := [.int .i64 y.Tag, .sl 1 (encL e8 y.Bytes), .bool y.Nested, .sl 4 (encL api_Value.enc y.Elements)]) (.cons .int (.cons .sl (.cons .bool (.cons .sl .nil)))) rfl (l := ([y] : List api_Value)) (f := api_Value.enc) (by simp only [encL, List.flatMap_cons, List.flatMap_nil, api_Value.enc_eq]; rfl)) rfl rfl ?_
  obtain ⟨l, hl, hg⟩ := bind_some hg
  refine ch_s (rd := [2, 59]) rfl rfl (r_append sl47 api_Value.enc_len .row rfl .row rfl hl rfl) rfl rfl ?_
  refine c0_ rfl rfl .assign rfl rfl ?_
  refine ch_n fun hU83_7 => ?_
  refine awp_region (sys _ _ []) 83 99 hU83_7 rfl rfl ?_
  refine c0_ rfl rfl r_add rfl rfl ?_
  refine c0_ rfl rfl .move rfl rfl ?_
  refine ch_n fun hU99_8 => ?_
  obtain rfl := Option.some.inj hg
  exact ⟨((W (x9_1 + 1), l), m1), Nat.lt_succ_self _, hn1, Sub.lists [(0, 0), (1, 1), (2, 67)] rfl rfl ⟨⟨_, rfl, .ptr rfl⟩, ⟨_, rfl, .ptr rfl⟩, ⟨_, rfl, .row rfl⟩, ⟨_, rfl, .sl _ _⟩, ⟨_, rfl, .val _⟩, ⟨_, rfl, .val _⟩, trivial⟩ ⟨.inl ⟨0, _, rfl, rfl, ⟨rfl, .cons (.val _) (.cons (.val _) (.cons (.val _) (.cons (.val _) (.cons (.val _) (.cons (.val _) (.cons (.val _) (.cons (.val _) (.cons (.val _) (.cons (.val _) (.cons (.val _) (.cons (.val _) (.cons (.sl _ _) (.cons (.val _) (.cons (.val _) .nil))))))))))))))⟩⟩, .inl ⟨1, _, rfl, rfl, ⟨rfl, .cons (.val _) (.cons (.val _) (.cons (.val _) (.cons (.val _) .nil)))⟩⟩, .inl ⟨67, _, rfl, rfl, ⟨rfl, rfl, rfl⟩⟩, trivial⟩⟩
 ·replace hg := cond_f h5 hg
  refine awp_exit ?_
  repeat first | refine st_ ?_ | refine sn_ ?_
  replace hg := leave hg hn1
  refine awp_seq ?_
  refine awp_sub (σ' := mk [(1, .ptr 0 0), (2, .ptr 1 0), (3, .sl 4 (encL api_Value.enc names_1))] [(0, .box [.val (.int .i64 c.Serial), .val (.string c.Issuer), .val (.string c.Subject), .val (.int .i64 c.Key.Alg), .val (.int .i64 c.Key.Bits), .val (.int .i64 c.KeyId), .val (.int .i64 c.Hash.Alg), .val (.int .i64 c.Hash.Bits), .val (.int .i64 c.From), .val (.int .i64 c.To), .val (.bool c.Authority), .val (.int .i64 c.Path), .sl 1 (encL eS c.Names), .val (.int .i64 c.Seal.Key), .val (.int .i64 c.Seal.Sum)] 33), (1, .box [.val (.int .i64 0), .val (.slice none 0 0), .val (.bool false), .val (.slice none 0 0)] 49)] 2) (Sub.lists [(0, 0), (1, 1)] rfl rfl ⟨⟨_, rfl, .ptr rfl⟩, ⟨_, rfl, .ptr rfl⟩, ⟨_, rfl, .frz rfl (look_ne rfl)⟩, trivial⟩ ⟨.inl ⟨0, _, rfl, rfl, ⟨rfl, .cons (.val _) (.cons (.val _) (.cons (.val _) (.cons (.val _) (.cons (.val _) (.cons (.val _) (.cons (.val _) (.cons (.val _) (.cons (.val _) (.cons (.val _) (.cons (.val _) (.cons (.val _) (.cons (.sl _ _) (.cons (.val _) (.cons (.val _) .nil))))))))))))))⟩⟩, .inl ⟨1, _, rfl, rfl, ⟨rfl, .cons (.val _) (.cons (.val _) (.cons (.val _) (.cons (.val _) .nil)))⟩⟩, trivial⟩) ?_
  refine awp_draw (sys _ _ [258]) (by kernel_rfl) [0, 1, 3, 0, 8, 31, 0, 64, 255, 0, 512, 2047, 0, 4096, 16383, 0, 32768, 131071, 0, 262144, 1048575, 0, 2097152, 8388607, 0, 16777216, 67108863, 0, 134217728, 536870911, 0, 2147483647, 4294967295, 8589934591, 17179869183] 2 282 mk_U rfl rfl (by kernel_rfl) ?_
  refine c0_ rfl rfl (.fieldP fd33_0 ty3 (by decide)) rfl rfl ?_
  refine ch_s (rd := [0]) rfl rfl (.loadB1 ty3 rfl) rfl rfl ?_
  obtain ⟨y_12, hy_12, hg⟩ := bind_some hg
  refine ch_callP (rd := []) (ps := []) (gs := []) false rfl (w_der_Int c.Serial _ hy_12) rfl rfl (.cons .val .nil) rfl rfl (by intro h; cases h) rfl rfl rfl rfl ?_
  refine c0_ rfl rfl (.fieldP fd33_1 ty9 (by decide)) rfl rfl ?_
  refine ch_s (rd := [0]) rfl rfl (.loadB1 ty9 rfl) rfl rfl ?_
  obtain ⟨y_13, hy_13, hg⟩ := bind_some hg
  refine ch_callP (rd := []) (ps := []) (gs := []) false rfl (w_der_Text c.Issuer _ hy_13) rfl rfl (.cons .val .nil) rfl rfl (by intro h; cases h) rfl rfl rfl rfl ?_
  refine c0_ rfl rfl (.fieldP fd33_2 ty9 (by decide)) rfl rfl ?_
  refine ch_s (rd := [0]) rfl rfl (.loadB1 ty9 rfl) rfl rfl ?_
  obtain ⟨y_14, hy_14, hg⟩ := bind_some hg
  refine ch_callP (rd := []) (ps := []) (gs := []) false rfl (w_der_Text c.Subject _ hy_14) rfl rfl (.cons .val .nil) rfl rfl (by intro h; cases h) rfl rfl rfl rfl ?_
  refine c0_ rfl rfl (.fieldP fd33_3 ty28 (by decide)) rfl rfl ?_
  refine ch_s (rd := [0]) rfl rfl (.loadBA ty28 (Nat.le_of_ble_eq_true rfl)) rfl rfl ?_
  obtain ⟨y_15, hy_15, hg⟩ := bind_some hg
  refine ch_callP (rd := []) (ps := []) (gs := []) false rfl (w_certificate_Use c.Key _ hy_15) rfl rfl (.cons (.agg (.cons .val (.cons .val .nil))) .nil) rfl rfl (by intro h; cases h) rfl rfl rfl rfl ?_
  refine c0_ rfl rfl (.fieldP fd33_4 ty3 (by decide)) rfl rfl ?_
  refine ch_s (rd := [0]) rfl rfl (.loadB1 ty3 rfl) rfl rfl ?_
  obtain ⟨y_16, hy_16, hg⟩ := bind_some hg
  refine ch_callP (rd := []) (ps := []) (gs := []) false rfl (w_der_Int c.KeyId _ hy_16) rfl rfl (.cons .val .nil) rfl rfl (by intro h; cases h) rfl rfl rfl rfl ?_
  refine c0_ rfl rfl (.fieldP fd33_5 ty28 (by decide)) rfl rfl ?_
  refine ch_s (rd := [0]) rfl rfl (.loadBA ty28 (Nat.le_of_ble_eq_true rfl)) rfl rfl ?_
  obtain ⟨y_17, hy_17, hg⟩ := bind_some hg
  refine ch_callP (rd := []) (ps := []) (gs := []) false rfl (w_certificate_Use c.Hash _ hy_17) rfl rfl (.cons (.agg (.cons .val (.cons .val .nil))) .nil) rfl rfl (by intro h; cases h) rfl rfl rfl rfl ?_
  refine c0_ rfl rfl (.fieldP fd33_6 ty3 (by decide)) rfl rfl ?_
  refine ch_s (rd := [0]) rfl rfl (.loadB1 ty3 rfl) rfl rfl ?_
  obtain ⟨y_18, hy_18, hg⟩ := bind_some hg
  refine ch_callP (rd := []) (ps := []) (gs := []) false rfl (w_der_Int c.From _ hy_18) rfl rfl (.cons .val .nil) rfl rfl (by intro h; cases h) rfl rfl rfl rfl ?_
  refine c0_ rfl rfl (.fieldP fd33_7 ty3 (by decide)) rfl rfl ?_
  refine ch_s (rd := [0]) rfl rfl (.loadB1 ty3 rfl) rfl rfl ?_
  obtain ⟨y_19, hy_19, hg⟩ := bind_some hg
  refine ch_callP (rd := []) (ps := []) (gs := []) false rfl (w_der_Int c.To _ hy_19) rfl rfl (.cons .val .nil) rfl rfl (by intro h; cases h) rfl rfl rfl rfl ?_
  refine c0_ rfl rfl (.fieldP fd33_8 ty4 (by decide)) rfl rfl ?_
  refine ch_s (rd := [0]) rfl rfl (.loadB1 ty4 rfl) rfl rfl ?_
  obtain ⟨y_20, hy_20, hg⟩ := bind_some hg
  refine ch_callP (rd := []) (ps := []) (gs := []) false rfl (w_der_Bool c.Authority _ hy_20) rfl rfl (.cons .val .nil) rfl rfl (by intro h; cases h) rfl rfl rfl rfl ?_
  refine c0_ rfl rfl (.fieldP fd33_9 ty3 (by decide)) rfl rfl ?_
  refine ch_s (rd := [0]) rfl rfl (.loadB1 ty3 rfl) rfl rfl ?_
  obtain ⟨y_21, hy_21, hg⟩ := bind_some hg
  refine ch_callP (rd := []) (ps := []) (gs := []) false rfl (w_der_Int c.Path _ hy_21) rfl rfl (.cons .val .nil) rfl rfl (by intro h; cases h) rfl rfl rfl rfl ?_
  refine c0_ rfl rfl .move rfl rfl ?_
  obtain ⟨y_22, hy_22, hg⟩ := bind_some hg
  refine ch_callP (rd := []) (ps := []) (gs := []) false rfl (w_der_List names_1 _ hy_22) rfl rfl (.cons .sl .nil) rfl rfl (by intro h; cases h) rfl rfl rfl rfl ?_
  refine ch_z (rd := []) rfl rfl (r_buildFull sl47 z49 (by decide) rfl rfl rfl rfl ck49 (cs := [.int .i64 y_12.Tag, .sl 1 (encL e8 y_12.Bytes), .bool y_12.Nested, .sl 4 (encL api_Value.enc y_12.Elements), .int .i64 y_13.Tag, .sl 1 (encL e8 y_13.Bytes), .bool y_13.Nested, .sl 4 (encL api_Value.enc y_13.Elements), .int .i64 y_14.Tag, .sl 1 (encL e8 y_14.Bytes), .bool y_14.Nested, .sl 4 (encL api_Value.enc y_14.Elements), .int .i64 y_15.Tag, .sl 1 (encL e8 y_15.Bytes), .bool y_15.Nested, .sl 4 (encL api_Value.enc y_15.Elements), .int .i64 y_16.Tag, .sl 1 (encL e8 y_16.Bytes), .bool y_16.Nested, .sl 4 (encL api_Value.enc y_16.Elements), .int .i64 y_17.Tag, .sl 1 (encL e8 y_17.Bytes), .bool y_17.Nested, .sl 4 (encL api_Value.enc y_17.Elements), .int .i64 y_18.Tag, .sl 1 (encL e8 y_18.Bytes), .bool y_18.Nested, .sl 4 (encL api_Value.enc y_18.Elements), .int .i64 y_19.Tag, .sl 1 (encL e8 y_19.Bytes), .bool y_19.Nested, .sl 4 (encL api_Value.enc y_19.Elements), .int .i64 y_20.Tag, .sl 1 (encL e8 y_20.Bytes), .bool y_20.Nested, .sl 4 (encL api_Value.enc y_20.Elements), .int .i64 y_21.Tag, .sl 1 (encL e8 y_21.Bytes), .bool y_21.Nested, .sl 4 (encL api_Value.enc y_21.Elements), .int .i64 y_22.Tag, .sl 1 (encL e8 y_22.Bytes), .bool y_22.Nested, .sl 4 (encL api_Value.enc y_22.Elements)]) (.cons .int (.cons .sl (.cons .bool (.cons .sl (.cons .int (.cons .sl (.cons .bool (.cons .sl (.cons .int (.cons .sl (.cons .bool (.cons .sl (.cons .int (.cons .sl (.cons .bool (.cons .sl (.cons .int (.cons .sl (.cons .bool (.cons .sl (.cons .int (.cons .sl (.cons .bool (.cons .sl (.cons .int (.cons .sl (.cons .bool (.cons .sl (.cons .int (.cons .sl (.cons .bool (.cons .sl (.cons .int (.cons .sl (.cons .bool (.cons .sl (.cons .int (.cons .sl (.cons .bool (.cons .sl (.cons .int (.cons .sl (.cons .bool (.cons .sl .nil)))))))))))))))))))))))))))))))))))))))))))) rfl (l := ([y_12, y_13, y_14, y_15, y_16, y_17, y_18, y_19, y_20, y_21, y_22] : List api_Value)) (f := api_Value.enc) (by simp only [encL, List.flatMap_cons, List.flatMap_nil, api_Value.enc_eq]; rfl)) rfl rfl rfl ?_
  obtain ⟨y_23, hy_23, hg⟩ := bind_some hg
  refine ch_callP (rd := []) (ps := []) (gs := []) false rfl (w_der_Of ([y_12, y_13, y_14, y_15, y_16, y_17, y_18, y_19, y_20, y_21, y_22] : List api_Value) _ hy_23) rfl rfl (.cons .sl .nil) rfl rfl (by intro h; cases h) rfl rfl rfl rfl ?_
  refine ch_s (rd := [1]) rfl rfl (r_storeB (ds' := [.val (.int .i64 y_23.Tag), .sl 1 (encL e8 y_23.Bytes), .val (.bool y_23.Nested), .sl 4 (encL api_Value.enc y_23.Elements)]) ty49 rfl (Nat.le_of_ble_eq_true rfl) rfl rfl) rfl rfl ?_
  refine ch_n fun hU282_9 => ?_
  refine aw_r ?_
  obtain rfl := Option.some.inj hg
  exact ⟨[_], _, [], [], .cons (.cellA rfl rfl ty49 rfl) .nil, ⟨rfl, rfl⟩, .agg (.cons (.val _) (.cons (.sl _ _) (.cons (.val _) (.cons (.sl _ _) .nil)))), trivial, rfl, rfl, rfl, rfl⟩
theorem w_der_tag (n : Int) (r : Bool) (hg : g_der_tag n = some r) : Fn Try.prog 54 0 [.val (.int .i64 n)] [] (fun d b => d = .val (.bool r) ∧ b = []) := by
 unfold g_der_tag at hg
 refine Fn.of Try.func54 rfl rfl rfl fun w0 I ρ0 => ?_
 show awp _ ⟨w0, I, ρ0, 0, 0, 14⟩ _ _ _
 refine sr_ 0 8 mk_U ?_
 refine c0_ rfl rfl .assign rfl rfl ?_
 refine ch_n fun hU8_1 => ?_
 refine sr_ 8 104 hU8_1 ?_
 refine c0_ rfl rfl .move rfl rfl ?_
 refine c0_ rfl rfl r_geq rfl rfl ?_
 refine c0_ rfl rfl .move rfl rfl ?_
 rcases Bool.eq_false_or_eq_true (decide (1 ≤ n)) with h2 | h2
 ·replace hg := cond_t h2 hg
  refine c0_ (gdv_t rfl rfl h2) rfl .move rfl rfl ?_
  refine c0_ (gdv_t rfl rfl h2) rfl r_leq rfl rfl ?_
  refine c0_ rfl rfl (r_pickT h2) rfl rfl ?_
  refine c0_ rfl rfl .move rfl rfl ?_
  rcases Bool.eq_false_or_eq_true (decide (n ≤ 255)) with h3 | h3
  ·replace hg := cond_t h3 hg
   refine c0_ (gdv_t rfl rfl h3) rfl .move rfl rfl ?_
   refine c0_ (gdv_t rfl rfl h3) rfl r_andK rfl rfl ?_
   refine c0_ (gdv_t rfl rfl h3) rfl r_neq rfl rfl ?_
   refine c0_ rfl rfl (r_pickT h3) rfl rfl ?_
   refine c0_ rfl rfl .assign rfl rfl ?_
   refine ch_n fun hU104_4 => ?_
   refine aw_r ?_
   obtain rfl := Option.some.inj hg
   exact ⟨[_], _, [], [], .cons (.tmp rfl) .nil, ⟨rfl, rfl⟩, .val _, trivial, rfl, rfl, rfl, rfl⟩
  ·replace hg := cond_f h3 hg
   iterate 3 refine ch_skip (gdv_f rfl rfl h3) rfl ?_
   refine c0_ rfl rfl (r_pickF h3) rfl rfl ?_
   refine c0_ rfl rfl .assign rfl rfl ?_
   refine ch_n fun hU104_5 => ?_
   refine aw_r ?_
   obtain rfl := Option.some.inj hg
   exact ⟨[_], _, [], [], .cons (.tmp rfl) .nil, ⟨rfl, rfl⟩, .val _, trivial, rfl, rfl, rfl, rfl⟩
 ·replace hg := cond_f h2 hg
  refine ch_skip (gdv_f rfl rfl h2) rfl ?_
  refine ch_skip (gdv_f rfl rfl h2) rfl ?_
  refine c0_ rfl rfl (r_pickF h2) rfl rfl ?_
  refine c0_ rfl rfl .move rfl rfl ?_
  iterate 3 refine ch_skip (gdv_f rfl rfl rfl) rfl ?_
  refine c0_ rfl rfl (r_pickF rfl) rfl rfl ?_
  refine c0_ rfl rfl .assign rfl rfl ?_
  refine ch_n fun hU104_6 => ?_
  refine aw_r ?_
  obtain rfl := Option.some.inj hg
  exact ⟨[_], _, [], [], .cons (.tmp rfl) .nil, ⟨rfl, rfl⟩, .val _, trivial, rfl, rfl, rfl, rfl⟩
theorem w_der_formed_c1 (rec : api_Value → Option (Bool)) (hrec : ∀ (v : api_Value) (r : Bool), rec v = some r → Fn Try.prog 27 0 [.agg [.val (.int .i64 v.Tag), .sl 1 (encL e8 v.Bytes), .val (.bool v.Nested), .sl 4 (encL api_Value.enc v.Elements)]] [] (fun d b => d = .val (.bool r) ∧ b = [])) (x' : api_Value) (r : Bool) (hg : g_der_formed_c1 rec x' = some r) : Fn Try.prog 56 0 [.agg [.val (.int .i64 x'.Tag), .sl 1 (encL e8 x'.Bytes), .val (.bool x'.Nested), .sl 4 (encL api_Value.enc x'.Elements)]] [] (fun d b => d = .val (.bool r) ∧ b = []) := by
 unfold g_der_formed_c1 at hg
 refine Fn.of Try.func56 rfl rfl rfl fun w0 I ρ0 => ?_
 show awp _ ⟨w0, I, ρ0, 0, 0, 6⟩ _ _ _
 refine sr_ 0 16 mk_U ?_
 refine c0_ rfl rfl (.box rfl) rfl rfl ?_
 refine c0_ rfl rfl .assign rfl rfl ?_
 refine ch_n fun hU16_1 => ?_
 refine sr_ 16 48 hU16_1 ?_
 refine ch_s (rd := [0]) rfl rfl (.loadBA ty49 (Nat.le_of_ble_eq_true rfl)) rfl rfl ?_
 obtain ⟨y, hy, hg⟩ := bind_some hg
 refine ch_callP (rd := []) (ps := []) (gs := []) false rfl (hrec x' _ hy) rfl rfl (.cons (.agg (.cons .val (.cons .sl (.cons .val (.cons .sl .nil))))) .nil) rfl rfl (by intro h; cases h) rfl rfl rfl rfl ?_
 refine c0_ rfl rfl r_not rfl rfl ?_
 refine c0_ rfl rfl .assign rfl rfl ?_
 refine ch_n fun hU48_2 => ?_
 refine aw_r ?_
 obtain rfl := Option.some.inj hg
 exact ⟨[_], _, [], [], .cons (.tmp rfl) .nil, ⟨rfl, rfl⟩, .val _, trivial, rfl, rfl, rfl, rfl⟩
theorem w_slices_IndexFunc_api_Value_clo_56_0_ (rec : api_Value → Option (Bool)) (hrec : ∀ (v : api_Value) (r : Bool), rec v = some r → Fn Try.prog 27 0 [.agg [.val (.int .i64 v.Tag), .sl 1 (encL e8 v.Bytes), .val (.bool v.Nested), .sl 4 (encL api_Value.enc v.Elements)]] [] (fun d b => d = .val (.bool r) ∧ b = [])) (s : (List api_Value)) (f : api_Value → Option (Bool)) (hf_f : ∀ (x0 : api_Value) (y : Bool), f x0 = some y → Fn Try.prog 56 0 [.agg [.val (.int .i64 x0.Tag), .sl 1 (encL e8 x0.Bytes), .val (.bool x0.Nested), .sl 4 (encL api_Value.enc x0.Elements)]] [] (fun d b => d = .val (.bool y) ∧ b = [])) (r : Int) (hg : g_slices_IndexFunc_api_Value rec s f = some r) : Fn Try.prog 70 0 [.sl 4 (encL api_Value.enc s), .clo 56 0 []] [] (fun d b => d = .val (.int .i64 r) ∧ b = []) := by
 unfold g_slices_IndexFunc_api_Value at hg
 refine Fn.of Try.func70 rfl rfl rfl fun w0 I ρ0 => ?_
 show awp _ ⟨w0, I, ρ0, 0, 0, 19⟩ _ _ _
 refine sr_ 0 8 mk_U ?_
 refine c0_ rfl rfl .assign rfl rfl ?_
 refine ch_n fun hU8_1 => ?_
 refine awp_seq ?_
 refine sr_ 8 32 hU8_1 ?_
 refine c0_ rfl rfl .move rfl rfl ?_
 refine c0_ rfl rfl (r_lenS sl47 api_Value.enc_len) rfl rfl ?_
 refine c0_ rfl rfl .move rfl rfl ?_
 refine ch_n fun hU32_2 => ?_
 refine awp_block ?_
 obtain ⟨n1, hg⟩ := loop_some hg
 refine awp_loop (ι := (Int) × Nat) (fun ((x8_1, _) : (Int) × Nat) => mk [(0, .sl 4 (encL api_Value.enc s)), (1, .clo 56 0 []), (7, .val (.int .i64 (s.length : Int))), (8, .val (.int .i64 x8_1))] [] 0) (fun ((x8_1, nq') : (Int) × Nat) => iter (fun q' => g_slices_IndexFunc_api_Value.l1 s f q') nq' x8_1 = some r) (fun q => q.2) (0, n1) (Sub.lists [] rfl rfl ⟨⟨_, rfl, .sl _ _⟩, ⟨_, rfl, .clo _ _ (.nil)⟩, ⟨_, rfl, .val _⟩, ⟨_, rfl, .val _⟩, trivial⟩ trivial) hg ?_
 rintro ⟨x8_1, n1⟩ hg
 obtain ⟨m1, o1, rfl, hg, hn1⟩ := iter_some (show iter (fun q' => g_slices_IndexFunc_api_Value.l1 s f q') n1 x8_1 = some r from hg)
 replace hg : g_slices_IndexFunc_api_Value.l1 s f x8_1 = some o1 := hg
 show awp _ _ _ _ (mk _ _ _)
 unfold g_slices_IndexFunc_api_Value.l1 at hg
 refine sr_ 0 8 mk_U ?_
 refine c0_ rfl rfl r_lss rfl rfl ?_
 refine ch_n fun hU8_3 => ?_
 refine awp_seq ?_
 refine awp_cond rfl (fun h4 => ?_) (fun h4 => ?_)
 ·replace hg := cond_t h4 hg
  refine aw_s ?_
  refine awp_seq ?_
  refine awp_block ?_
  refine sr_ 8 24 hU8_3 ?_
  refine c0_ rfl rfl .move rfl rfl ?_
  refine c0_ rfl rfl .assign rfl rfl ?_
  refine ch_n fun hU24_5 => ?_
  refine sr_ 24 72 hU24_5 ?_
  iterate 3 refine c0_ rfl rfl .move rfl rfl ?_
  obtain ⟨e, he, hg⟩ := bind_some hg
  refine c0_ rfl rfl (r_idxS sl47 api_Value.enc_len (getI_ix he) (getI_at he)) rfl rfl ?_
  refine c0_ rfl rfl (r_loadEA ty49 (enc_cells api_Value.enc_len (getI_at he) (o := 0) (m := 4) (cs := [.int .i64 e.Tag, .sl 1 (encL e8 e.Bytes), .bool e.Nested, .sl 4 (encL api_Value.enc e.Elements)]) (by simp only [api_Value.enc_eq]; rfl) (by decide) rfl) (enc_cells_le api_Value.enc_len (getI_at he) (o := 0) (m := 4) (by decide) rfl)) rfl rfl ?_
  obtain ⟨y, hy, hg⟩ := bind_some hg
  refine ch_callCP (rd := []) (ps := []) (gs := []) false rfl rfl (hf_f e _ hy) rfl rfl (.cons (.agg (.cons .val (.cons .sl (.cons .val (.cons .sl .nil))))) .nil) rfl rfl (by intro h; cases h) rfl rfl rfl rfl ?_
  refine ch_n fun hU72_6 => ?_
  refine awp_cond rfl (fun h7 => ?_) (fun h7 => ?_)
  ·replace hg := cond_t h7 hg
   refine sr_ 72 88 hU72_6 ?_
   refine c0_ rfl rfl .move rfl rfl ?_
   refine c0_ rfl rfl .assign rfl rfl ?_
   refine ch_n fun hU88_8 => ?_
   refine aw_r ?_
   replace hg := leave hg hn1
   obtain rfl := Option.some.inj hg
   exact ⟨[_], _, [], [], .cons (.tmp rfl) .nil, ⟨rfl, rfl⟩, .val _, trivial, rfl, rfl, rfl, rfl⟩
  ·replace hg := cond_f h7 hg
   refine aw_s ?_
   refine awp_region (sys _ _ []) 72 88 hU72_6 rfl rfl ?_
   refine c0_ rfl rfl r_add rfl rfl ?_
   refine c0_ rfl rfl .move rfl rfl ?_
   refine ch_n fun hU88_9 => ?_
   obtain rfl := Option.some.inj hg
   exact ⟨(W (x8_1 + 1), m1), Nat.lt_succ_self _, hn1, Sub.lists [] rfl rfl ⟨⟨_, rfl, .sl _ _⟩, ⟨_, rfl, .clo _ _ (.nil)⟩, ⟨_, rfl, .val _⟩, ⟨_, rfl, .val _⟩, trivial⟩ trivial⟩
 ·replace hg := cond_f h4 hg
  refine awp_exit ?_
  repeat first | refine st_ ?_ | refine sn_ ?_
  replace hg := leave hg hn1
  refine sr_ 8 16 hU8_3 ?_
  refine c0_ rfl rfl .assign rfl rfl ?_
  refine ch_n fun hU16_10 => ?_
  refine aw_r ?_
  obtain rfl := Option.some.inj hg
  exact ⟨[_], _, [], [], .cons (.tmp rfl) .nil, ⟨rfl, rfl⟩, .val _, trivial, rfl, rfl, rfl, rfl⟩
theorem w_slices_ContainsFunc_api_Value_clo_56_0_ (rec : api_Value → Option (Bool)) (hrec : ∀ (v : api_Value) (r : Bool), rec v = some r → Fn Try.prog 27 0 [.agg [.val (.int .i64 v.Tag), .sl 1 (encL e8 v.Bytes), .val (.bool v.Nested), .sl 4 (encL api_Value.enc v.Elements)]] [] (fun d b => d = .val (.bool r) ∧ b = [])) (s : (List api_Value)) (f : api_Value → Option (Bool)) (hf_f : ∀ (x0 : api_Value) (y : Bool), f x0 = some y → Fn Try.prog 56 0 [.agg [.val (.int .i64 x0.Tag), .sl 1 (encL e8 x0.Bytes), .val (.bool x0.Nested), .sl 4 (encL api_Value.enc x0.Elements)]] [] (fun d b => d = .val (.bool y) ∧ b = [])) (r : Bool) (hg : g_slices_ContainsFunc_api_Value rec s f = some r) : Fn Try.prog 55 0 [.sl 4 (encL api_Value.enc s), .clo 56 0 []] [] (fun d b => d = .val (.bool r) ∧ b = []) := by
 unfold g_slices_ContainsFunc_api_Value at hg
 refine Fn.of Try.func55 rfl rfl rfl fun w0 I ρ0 => ?_
 show awp _ ⟨w0, I, ρ0, 0, 0, 9⟩ _ _ _
 refine sr_ 0 8 mk_U ?_
 refine c0_ rfl rfl .assign rfl rfl ?_
 refine ch_n fun hU8_1 => ?_
 refine sr_ 8 48 hU8_1 ?_
 refine c0_ rfl rfl .move rfl rfl ?_
 refine c0_ rfl rfl .move rfl rfl ?_
 obtain ⟨y, hy, hg⟩ := bind_some hg
 refine ch_callP (rd := []) (ps := []) (gs := []) false rfl (w_slices_IndexFunc_api_Value_clo_56_0_ rec hrec s f hf_f _ hy) rfl rfl (.cons .sl (.cons (.clo (.nil)) .nil)) rfl rfl (by intro h; cases h) rfl rfl rfl rfl ?_
 refine c0_ rfl rfl r_geq rfl rfl ?_
 refine c0_ rfl rfl .assign rfl rfl ?_
 refine ch_n fun hU48_2 => ?_
 refine aw_r ?_
 obtain rfl := Option.some.inj hg
 exact ⟨[_], _, [], [], .cons (.tmp rfl) .nil, ⟨rfl, rfl⟩, .val _, trivial, rfl, rfl, rfl, rfl⟩
theorem w_der_formed.F (rec : api_Value → Option (Bool)) (hrec : ∀ (v : api_Value) (r : Bool), rec v = some r → Fn Try.prog 27 0 [.agg [.val (.int .i64 v.Tag), .sl 1 (encL e8 v.Bytes), .val (.bool v.Nested), .sl 4 (encL api_Value.enc v.Elements)]] [] (fun d b => d = .val (.bool r) ∧ b = [])) (v : api_Value) (r : Bool) (hg : g_der_formed.F rec v = some r) : Fn Try.prog 27 0 [.agg [.val (.int .i64 v.Tag), .sl 1 (encL e8 v.Bytes), .val (.bool v.Nested), .sl 4 (encL api_Value.enc v.Elements)]] [] (fun d b => d = .val (.bool r) ∧ b = []) := by
 unfold g_der_formed.F at hg
 refine Fn.of Try.func27 rfl rfl rfl fun w0 I ρ0 => ?_
 show awp _ ⟨w0, I, ρ0, 0, 0, 41⟩ _ _ _
 refine sr_ 0 16 mk_U ?_
 refine c0_ rfl rfl (.box rfl) rfl rfl ?_
 refine c0_ rfl rfl .assign rfl rfl ?_
 refine ch_n fun hU16_1 => ?_
 refine awp_seq ?_
 refine awp_cut (ι := Bool) (fun (x36_1 : Bool) => mk [(1, .ptr 0 0), (36, .val (.bool x36_1))] [(0, .box [.val (.int .i64 v.Tag), .sl 1 (encL e8 v.Bytes), .val (.bool v.Nested), .sl 4 (encL api_Value.enc v.Elements)] 49)] 1) (fun (x36_1 : Bool) => g_der_formed.j1 rec v x36_1 = some r) ?_ ?_
 ·refine awp_region (sys _ _ []) 16 288 hU16_1 rfl rfl ?_
  refine c0_ rfl rfl (.fieldP fd49_0 ty3 (by decide)) rfl rfl ?_
  refine ch_s (rd := [0]) rfl rfl (.loadB1 ty3 rfl) rfl rfl ?_
  obtain ⟨y, hy, hg⟩ := bind_some hg
  refine ch_callP (rd := []) (ps := []) (gs := []) false rfl (w_der_tag v.Tag _ hy) rfl rfl (.cons .val .nil) rfl rfl (by intro h; cases h) rfl rfl rfl rfl ?_
  refine c0_ rfl rfl r_not rfl rfl ?_
  refine c0_ rfl rfl .move rfl rfl ?_
  rcases Bool.eq_false_or_eq_true (!y) with h2 | h2
  ·replace hg := cond_t h2 hg
   iterate 7 refine ch_skip (gdv_f rfl rfl h2) rfl ?_
   refine c0_ rfl rfl (r_pickT h2) rfl rfl ?_
   refine c0_ rfl rfl .move rfl rfl ?_
   iterate 3 refine ch_skip (gdv_f rfl rfl rfl) rfl ?_
   iterate 4 refine ch_skip rfl rfl ?_
   refine ch_skip (gdv_f rfl rfl rfl) rfl ?_
   refine c0_ rfl rfl (r_pickT rfl) rfl rfl ?_
   refine c0_ rfl rfl .move rfl rfl ?_
   iterate 4 refine ch_skip (gdv_f rfl rfl rfl) rfl ?_
   iterate 4 refine ch_skip rfl rfl ?_
   refine ch_skip (gdv_f rfl rfl rfl) rfl ?_
   refine c0_ rfl rfl (r_pickT rfl) rfl rfl ?_
   refine ch_n fun hU288_3 => ?_
   exact ⟨true, hg, Sub.lists [(0, 0)] rfl rfl ⟨⟨_, rfl, .ptr rfl⟩, ⟨_, rfl, .val _⟩, trivial⟩ ⟨.inl ⟨0, _, rfl, rfl, ⟨rfl, .cons (.val _) (.cons (.sl _ _) (.cons (.val _) (.cons (.sl _ _) .nil)))⟩⟩, trivial⟩⟩
  ·replace hg := cond_f h2 hg
   refine c0_ (gdv_t rfl rfl h2) rfl (.fieldP fd49_2 ty4 (by decide)) rfl rfl ?_
   refine ch_s (rd := [0]) (gdv_t rfl rfl h2) rfl (.loadB1 ty4 rfl) rfl rfl ?_
   refine c0_ (gdv_t rfl rfl h2) rfl (.fieldP fd49_0 ty3 (by decide)) rfl rfl ?_
   refine ch_s (rd := [0]) (gdv_t rfl rfl h2) rfl (.loadB1 ty3 rfl) rfl rfl ?_
   refine c0_ (gdv_t rfl rfl h2) rfl r_andK rfl rfl ?_
   refine c0_ (gdv_t rfl rfl h2) rfl r_neq rfl rfl ?_
   refine c0_ (gdv_t rfl rfl h2) rfl (r_bneq und4) rfl rfl ?_
   refine c0_ rfl rfl (r_pickF h2) rfl rfl ?_
   refine c0_ rfl rfl .move rfl rfl ?_
   rcases Bool.eq_false_or_eq_true (!decide (v.Nested = (!decide ((andK .i64 v.Tag 32) = 0)))) with h4 | h4
   ·replace hg := cond_t h4 hg
    iterate 3 refine ch_skip (gdv_f rfl rfl h4) rfl ?_
    iterate 4 refine ch_skip rfl rfl ?_
    refine ch_skip (gdv_f rfl rfl h4) rfl ?_
    refine c0_ rfl rfl (r_pickT h4) rfl rfl ?_
    refine c0_ rfl rfl .move rfl rfl ?_
    iterate 4 refine ch_skip (gdv_f rfl rfl rfl) rfl ?_
    iterate 4 refine ch_skip rfl rfl ?_
    refine ch_skip (gdv_f rfl rfl rfl) rfl ?_
    refine c0_ rfl rfl (r_pickT rfl) rfl rfl ?_
    refine ch_n fun hU288_5 => ?_
    exact ⟨true, hg, Sub.lists [(0, 0)] rfl rfl ⟨⟨_, rfl, .ptr rfl⟩, ⟨_, rfl, .val _⟩, trivial⟩ ⟨.inl ⟨0, _, rfl, rfl, ⟨rfl, .cons (.val _) (.cons (.sl _ _) (.cons (.val _) (.cons (.sl _ _) .nil)))⟩⟩, trivial⟩⟩
   ·replace hg := cond_f h4 hg
    refine c0_ (gdv_t rfl rfl h4) rfl (.fieldP fd49_2 ty4 (by decide)) rfl rfl ?_
    refine ch_s (rd := [0]) (gdv_t rfl rfl h4) rfl (.loadB1 ty4 rfl) rfl rfl ?_
    refine c0_ (gdv_t rfl rfl h4) rfl .move rfl rfl ?_
    rcases Bool.eq_false_or_eq_true (v.Nested) with h6 | h6
    ·replace hg := cond_t h6 hg
     refine c0_ (gdv_t rfl rfl h6) rfl (.fieldP fd49_1 ty22 (by decide)) rfl rfl ?_
     refine ch_s (rd := [0]) (gdv_t rfl rfl h6) rfl (.loadB1 ty22 rfl) rfl rfl ?_
     refine c0_ (gdv_t rfl rfl h6) rfl (r_lenS sl22 e8_len) rfl rfl ?_
     refine c0_ (gdv_t rfl rfl h6) rfl r_gtr rfl rfl ?_
     refine c0_ (gdv_t rfl rfl h4) rfl (r_pickT h6) rfl rfl ?_
     refine c0_ rfl rfl (r_pickF h4) rfl rfl ?_
     refine c0_ rfl rfl .move rfl rfl ?_
     rcases Bool.eq_false_or_eq_true (decide (0 < (v.Bytes.length : Int))) with h7 | h7
     ·replace hg := cond_t h7 hg
      iterate 4 refine ch_skip (gdv_f rfl rfl h7) rfl ?_
      iterate 4 refine ch_skip rfl rfl ?_
      refine ch_skip (gdv_f rfl rfl h7) rfl ?_
      refine c0_ rfl rfl (r_pickT h7) rfl rfl ?_
      refine ch_n fun hU288_8 => ?_
      exact ⟨true, hg, Sub.lists [(0, 0)] rfl rfl ⟨⟨_, rfl, .ptr rfl⟩, ⟨_, rfl, .val _⟩, trivial⟩ ⟨.inl ⟨0, _, rfl, rfl, ⟨rfl, .cons (.val _) (.cons (.sl _ _) (.cons (.val _) (.cons (.sl _ _) .nil)))⟩⟩, trivial⟩⟩
     ·replace hg := cond_f h7 hg
      refine c0_ (gdv_t rfl rfl h7) rfl (.fieldP fd49_2 ty4 (by decide)) rfl rfl ?_
      refine ch_s (rd := [0]) (gdv_t rfl rfl h7) rfl (.loadB1 ty4 rfl) rfl rfl ?_
      refine c0_ (gdv_t rfl rfl h7) rfl r_not rfl rfl ?_
      refine c0_ (gdv_t rfl rfl h7) rfl .move rfl rfl ?_
      iterate 4 refine ch_skip (gdv_f rfl rfl (not_t h6)) rfl ?_
      refine c0_ (gdv_t rfl rfl h7) rfl (r_pickF (not_t h6)) rfl rfl ?_
      refine c0_ rfl rfl (r_pickF h7) rfl rfl ?_
      refine ch_n fun hU288_9 => ?_
      exact ⟨false, hg, Sub.lists [(0, 0)] rfl rfl ⟨⟨_, rfl, .ptr rfl⟩, ⟨_, rfl, .val _⟩, trivial⟩ ⟨.inl ⟨0, _, rfl, rfl, ⟨rfl, .cons (.val _) (.cons (.sl _ _) (.cons (.val _) (.cons (.sl _ _) .nil)))⟩⟩, trivial⟩⟩
    ·replace hg := cond_f h6 hg
     iterate 4 refine ch_skip (gdv_f rfl rfl h6) rfl ?_
     refine c0_ (gdv_t rfl rfl h4) rfl (r_pickF h6) rfl rfl ?_
     refine c0_ rfl rfl (r_pickF h4) rfl rfl ?_
     refine c0_ rfl rfl .move rfl rfl ?_
     refine c0_ (gdv_t rfl rfl rfl) rfl (.fieldP fd49_2 ty4 (by decide)) rfl rfl ?_
     refine ch_s (rd := [0]) (gdv_t rfl rfl rfl) rfl (.loadB1 ty4 rfl) rfl rfl ?_
     refine c0_ (gdv_t rfl rfl rfl) rfl r_not rfl rfl ?_
     refine c0_ (gdv_t rfl rfl rfl) rfl .move rfl rfl ?_
     refine c0_ (gdv_t rfl rfl (not_f h6)) rfl (.fieldP fd49_3 ty47 (by decide)) rfl rfl ?_
     refine ch_s (rd := [0]) (gdv_t rfl rfl (not_f h6)) rfl (.loadB1 ty47 rfl) rfl rfl ?_
     refine c0_ (gdv_t rfl rfl (not_f h6)) rfl (r_lenS sl47 api_Value.enc_len) rfl rfl ?_
     refine c0_ (gdv_t rfl rfl (not_f h6)) rfl r_gtr rfl rfl ?_
     refine c0_ (gdv_t rfl rfl rfl) rfl (r_pickT (not_f h6)) rfl rfl ?_
     refine c0_ rfl rfl (r_pickF rfl) rfl rfl ?_
     refine ch_n fun hU288_10 => ?_
     exact ⟨decide (0 < (v.Elements.length : Int)), hg, Sub.lists [(0, 0)] rfl rfl ⟨⟨_, rfl, .ptr rfl⟩, ⟨_, rfl, .val _⟩, trivial⟩ ⟨.inl ⟨0, _, rfl, rfl, ⟨rfl, .cons (.val _) (.cons (.sl _ _) (.cons (.val _) (.cons (.sl _ _) .nil)))⟩⟩, trivial⟩⟩
 ·rintro x36_1 hg
  replace hg : g_der_formed.j1 rec v x36_1 = some r := hg
  show awp _ _ _ _ (mk _ _ _)
  unfold g_der_formed.j1 at hg
  refine awp_cond rfl (fun h11 => ?_) (fun h11 => ?_)
  ·replace hg := cond_t h11 hg
   refine sr_ 1 9 mk_U ?_
   refine c0_ rfl rfl .assign rfl rfl ?_
   refine ch_n fun hU9_12 => ?_
   refine aw_r ?_
   obtain rfl := Option.some.inj hg
   exact ⟨[_], _, [], [], .cons (.tmp rfl) .nil, ⟨rfl, rfl⟩, .val _, trivial, rfl, rfl, rfl, rfl⟩
  ·replace hg := cond_f h11 hg
   refine aw_s ?_
   refine sr_ 1 41 mk_U ?_
   refine c0_ rfl rfl (.fieldP fd49_3 ty47 (by decide)) rfl rfl ?_
   refine ch_s (rd := [0]) rfl rfl (.loadB1 ty47 rfl) rfl rfl ?_
   obtain ⟨y_2, hy_2, hg⟩ := bind_some hg
   refine ch_callP (rd := []) (ps := []) (gs := []) false rfl (w_slices_ContainsFunc_api_Value_clo_56_0_ rec hrec v.Elements (fun x0 => g_der_formed_c1 rec x0) (fun x0 y h => w_der_formed_c1 rec hrec x0 y h) _ hy_2) rfl rfl (.cons .sl (.cons .fn .nil)) rfl rfl (by intro h; cases h) rfl rfl rfl rfl ?_
   refine c0_ rfl rfl r_not rfl rfl ?_
   refine c0_ rfl rfl .assign rfl rfl ?_
   refine ch_n fun hU41_13 => ?_
   refine aw_r ?_
   obtain rfl := Option.some.inj hg
   exact ⟨[_], _, [], [], .cons (.tmp rfl) .nil, ⟨rfl, rfl⟩, .val _, trivial, rfl, rfl, rfl, rfl⟩
theorem w_der_formed (v : api_Value) (r : Bool) (hg : g_der_formed v = some r) : Fn Try.prog 27 0 [.agg [.val (.int .i64 v.Tag), .sl 1 (encL e8 v.Bytes), .val (.bool v.Nested), .sl 4 (encL api_Value.enc v.Elements)]] [] (fun d b => d = .val (.bool r) ∧ b = []) :=
 fixT_ind (motive := fun (x : api_Value) (r : Bool) => Fn Try.prog 27 0 [.agg [.val (.int .i64 x.Tag), .sl 1 (encL e8 x.Bytes), .val (.bool x.Nested), .sl 4 (encL api_Value.enc x.Elements)]] [] (fun d b => d = .val (.bool r) ∧ b = [])) (fun rec hrec x r h => w_der_formed.F _ (fun v r h => hrec v r h) x r h) v r hg
theorem w_der_depth.F (rec : api_Value → Option (Int)) (hrec : ∀ (v : api_Value) (r : Int), rec v = some r → Fn Try.prog 28 0 [.agg [.val (.int .i64 v.Tag), .sl 1 (encL e8 v.Bytes), .val (.bool v.Nested), .sl 4 (encL api_Value.enc v.Elements)]] [] (fun d b => d = .val (.int .i64 r) ∧ b = [])) (v : api_Value) (r : Int) (hg : g_der_depth.F rec v = some r) : Fn Try.prog 28 0 [.agg [.val (.int .i64 v.Tag), .sl 1 (encL e8 v.Bytes), .val (.bool v.Nested), .sl 4 (encL api_Value.enc v.Elements)]] [] (fun d b => d = .val (.int .i64 r) ∧ b = []) := by
 unfold g_der_depth.F at hg
 refine Fn.of Try.func28 rfl rfl rfl fun w0 I ρ0 => ?_
 show awp _ ⟨w0, I, ρ0, 0, 0, 20⟩ _ _ _
 refine sr_ 0 16 mk_U ?_
 refine c0_ rfl rfl (.box rfl) rfl rfl ?_
 refine c0_ rfl rfl .assign rfl rfl ?_
 refine ch_n fun hU16_1 => ?_
 refine sr_ 16 24 hU16_1 ?_
 refine c0_ rfl rfl .assign rfl rfl ?_
 refine ch_n fun hU24_2 => ?_
 refine awp_seq ?_
 refine sr_ 24 56 hU24_2 ?_
 refine c0_ rfl rfl (.fieldP fd49_3 ty47 (by decide)) rfl rfl ?_
 refine ch_s (rd := [0]) rfl rfl (.loadB1 ty47 rfl) rfl rfl ?_
 refine c0_ rfl rfl (r_lenS sl47 api_Value.enc_len) rfl rfl ?_
 refine c0_ rfl rfl .move rfl rfl ?_
 refine ch_n fun hU56_3 => ?_
 refine awp_block ?_
 obtain ⟨n1, hg⟩ := loop_some hg
 refine awp_loop (ι := (Int × Int) × Nat) (fun (((most_1, x9_1), _) : (Int × Int) × Nat) => mk [(3, .val (.int .i64 most_1)), (7, .sl 4 (encL api_Value.enc v.Elements)), (8, .val (.int .i64 (v.Elements.length : Int))), (9, .val (.int .i64 x9_1))] [] 0) (fun (((most_1, x9_1), nq') : (Int × Int) × Nat) => iter (fun q' => g_der_depth.l1 rec v q'.1 q'.2) nq' (most_1, x9_1) = some r) (fun q => q.2) ((0, 0), n1) (Sub.lists [] rfl rfl ⟨⟨_, rfl, .val _⟩, ⟨_, rfl, .sl _ _⟩, ⟨_, rfl, .val _⟩, ⟨_, rfl, .val _⟩, trivial⟩ trivial) hg ?_
 rintro ⟨⟨most_1, x9_1⟩, n1⟩ hg
 obtain ⟨m1, o1, rfl, hg, hn1⟩ := iter_some (show iter (fun q' => g_der_depth.l1 rec v q'.1 q'.2) n1 (most_1, x9_1) = some r from hg)
 replace hg : g_der_depth.l1 rec v most_1 x9_1 = some o1 := hg
 show awp _ _ _ _ (mk _ _ _)
 unfold g_der_depth.l1 at hg
 refine sr_ 0 8 mk_U ?_
 refine c0_ rfl rfl r_lss rfl rfl ?_
 refine ch_n fun hU8_4 => ?_
 refine awp_seq ?_
 refine awp_cond rfl (fun h5 => ?_) (fun h5 => ?_)
 ·replace hg := cond_t h5 hg
  refine aw_s ?_
  refine awp_seq ?_
  refine awp_block ?_
  refine sr_ 8 40 hU8_4 ?_
  obtain ⟨e, he, hg⟩ := bind_some hg
  refine c0_ rfl rfl (r_idxS sl47 api_Value.enc_len (getI_ix he) (getI_at he)) rfl rfl ?_
  refine c0_ rfl rfl (r_loadEA ty49 (enc_cells api_Value.enc_len (getI_at he) (o := 0) (m := 4) (cs := [.int .i64 e.Tag, .sl 1 (encL e8 e.Bytes), .bool e.Nested, .sl 4 (encL api_Value.enc e.Elements)]) (by simp only [api_Value.enc_eq]; rfl) (by decide) rfl) (enc_cells_le api_Value.enc_len (getI_at he) (o := 0) (m := 4) (by decide) rfl)) rfl rfl ?_
  refine c0_ rfl rfl (.alloc z49) rfl rfl ?_
  refine ch_s (rd := [24]) rfl rfl (r_storeB (ds' := [.val (.int .i64 e.Tag), .sl 1 (encL e8 e.Bytes), .val (.bool e.Nested), .sl 4 (encL api_Value.enc e.Elements)]) ty49 rfl (Nat.le_of_ble_eq_true rfl) rfl rfl) rfl rfl ?_
  refine ch_n fun hU40_6 => ?_
  refine awp_region (sys _ _ []) 40 80 hU40_6 rfl rfl ?_
  refine c0_ rfl rfl .move rfl rfl ?_
  refine ch_s (rd := [24]) rfl rfl (.loadBA ty49 (Nat.le_of_ble_eq_true rfl)) rfl rfl ?_
  obtain ⟨y, hy, hg⟩ := bind_some hg
  refine ch_callP (rd := []) (ps := []) (gs := []) false rfl (hrec e _ hy) rfl rfl (.cons (.agg (.cons .val (.cons .sl (.cons .val (.cons .sl .nil))))) .nil) rfl rfl (by intro h; cases h) rfl rfl rfl rfl ?_
  refine c0_ rfl rfl r_max rfl rfl ?_
  refine c0_ rfl rfl .assign rfl rfl ?_
  refine ch_n fun hU80_7 => ?_
  refine awp_region (sys _ _ []) 80 96 hU80_7 rfl rfl ?_
  refine c0_ rfl rfl r_add rfl rfl ?_
  refine c0_ rfl rfl .move rfl rfl ?_
  refine ch_n fun hU96_8 => ?_
  obtain rfl := Option.some.inj hg
  exact ⟨((max most_1 y, W (x9_1 + 1)), m1), Nat.lt_succ_self _, hn1, Sub.lists [] rfl rfl ⟨⟨_, rfl, .val _⟩, ⟨_, rfl, .sl _ _⟩, ⟨_, rfl, .val _⟩, ⟨_, rfl, .val _⟩, trivial⟩ trivial⟩
 ·replace hg := cond_f h5 hg
  refine awp_exit ?_
  repeat first | refine st_ ?_ | refine sn_ ?_
  replace hg := leave hg hn1
  refine sr_ 8 32 hU8_4 ?_
  refine c0_ rfl rfl .move rfl rfl ?_
  refine c0_ rfl rfl r_add rfl rfl ?_
  refine c0_ rfl rfl .assign rfl rfl ?_
  refine ch_n fun hU32_9 => ?_
  refine aw_r ?_
  obtain rfl := Option.some.inj hg
  exact ⟨[_], _, [], [], .cons (.tmp rfl) .nil, ⟨rfl, rfl⟩, .val _, trivial, rfl, rfl, rfl, rfl⟩
theorem w_der_depth (v : api_Value) (r : Int) (hg : g_der_depth v = some r) : Fn Try.prog 28 0 [.agg [.val (.int .i64 v.Tag), .sl 1 (encL e8 v.Bytes), .val (.bool v.Nested), .sl 4 (encL api_Value.enc v.Elements)]] [] (fun d b => d = .val (.int .i64 r) ∧ b = []) :=
 fixT_ind (motive := fun (x : api_Value) (r : Int) => Fn Try.prog 28 0 [.agg [.val (.int .i64 x.Tag), .sl 1 (encL e8 x.Bytes), .val (.bool x.Nested), .sl 4 (encL api_Value.enc x.Elements)]] [] (fun d b => d = .val (.int .i64 r) ∧ b = [])) (fun rec hrec x r h => w_der_depth.F _ (fun v r h => hrec v r h) x r h) v r hg
theorem w_der_length_own (b : List UInt8) (n : Int) (r : (List UInt8)) (hg : g_der_length b n = some r) : Fn Try.prog 58 0 [.row 0, .val (.int .i64 n)] [.row 5 1 (encL e8 b)] (fun d b => d = .row 0 ∧ b = [.row 5 1 (encL e8 r)]) := by
 unfold g_der_length at hg
 refine Fn.of Try.func58 rfl rfl rfl fun w0 I ρ0 => ?_
 show awp _ ⟨w0, I, ρ0, 0, 1, 43⟩ _ _ _
 refine sr_ 1 9 mk_U ?_
 refine c0_ rfl rfl .assign rfl rfl ?_
 refine ch_n fun hU9_1 => ?_
 refine awp_seq ?_
 refine sr_ 9 25 hU9_1 ?_
 refine c0_ rfl rfl .move rfl rfl ?_
 refine c0_ rfl rfl r_lss rfl rfl ?_
 refine ch_n fun hU25_2 => ?_
 refine awp_cond rfl (fun h3 => ?_) (fun h3 => ?_)
 ·replace hg := cond_t h3 hg
  refine sr_ 25 73 hU25_2 ?_
  refine c0_ rfl rfl .move rfl rfl ?_
  refine c0_ rfl rfl .move rfl rfl ?_
  refine c0_ rfl rfl (r_conv_u8 und3 und5) rfl rfl ?_
  refine c0_ rfl rfl (r_buildFull sl22 z5 (by decide) rfl rfl rfl rfl ck5 (cs := [.int .u8 ((u8 n).toNat : Int)]) (.cons .int .nil) rfl (l := ([(u8 n)] : List UInt8)) (f := e8) rfl) rfl rfl ?_
  obtain ⟨l, hl, hg⟩ := bind_some hg
  refine ch_s (rd := [0, 49]) rfl rfl (r_append sl22 e8_len .row rfl .row rfl hl rfl) rfl rfl ?_
  refine c0_ rfl rfl .assign rfl rfl ?_
  refine ch_n fun hU73_4 => ?_
  refine aw_r ?_
  obtain rfl := Option.some.inj hg
  exact ⟨[_], _, [_], [(0, 57)], .cons (.tmp rfl) .nil, ⟨rfl, rfl⟩, .row rfl, ⟨.inl ⟨57, _, rfl, rfl, ⟨rfl, rfl, rfl⟩⟩, trivial⟩, rfl, rfl, rfl, rfl⟩
 ·replace hg := cond_f h3 hg
  refine aw_s ?_
  refine sr_ 25 33 hU25_2 ?_
  refine c0_ rfl rfl .assign rfl rfl ?_
  refine ch_n fun hU33_5 => ?_
  refine awp_seq ?_
  refine sr_ 33 49 hU33_5 ?_
  refine c0_ rfl rfl .move rfl rfl ?_
  refine c0_ rfl rfl .assign rfl rfl ?_
  refine ch_n fun hU49_6 => ?_
  refine awp_block ?_
  obtain ⟨n1, hg⟩ := loop_some hg
  refine awp_loop (ι := (Int × Int) × Nat) (fun (((count_1, m_1), _) : (Int × Int) × Nat) => mk [(0, .row 0), (1, .val (.int .i64 n)), (5, .val (.int .i64 count_1)), (6, .val (.int .i64 m_1))] [(0, .row 5 1 (encL e8 b))] 1) (fun (((count_1, m_1), nq') : (Int × Int) × Nat) => iter (fun q' => g_der_length.l1 b n q'.1 q'.2) nq' (count_1, m_1) = some r) (fun q => q.2) ((0, n), n1) (Sub.lists [(0, 0)] rfl rfl ⟨⟨_, rfl, .row rfl⟩, ⟨_, rfl, .val _⟩, ⟨_, rfl, .val _⟩, ⟨_, rfl, .val _⟩, trivial⟩ ⟨.inl ⟨0, _, rfl, rfl, ⟨rfl, rfl, rfl⟩⟩, trivial⟩) hg ?_
  rintro ⟨⟨count_1, m_1⟩, n1⟩ hg
  obtain ⟨m1, o1, rfl, hg, hn1⟩ := iter_some (show iter (fun q' => g_der_length.l1 b n q'.1 q'.2) n1 (count_1, m_1) = some r from hg)
  replace hg : g_der_length.l1 b n count_1 m_1 = some o1 := hg
  show awp _ _ _ _ (mk _ _ _)
  unfold g_der_length.l1 at hg
  refine awp_seq ?_
  refine sr_ 1 17 mk_U ?_
  refine c0_ rfl rfl .move rfl rfl ?_
  refine c0_ rfl rfl r_gtr rfl rfl ?_
  refine ch_n fun hU17_7 => ?_
  refine awp_cond rfl (fun h8 => ?_) (fun h8 => ?_)
  ·replace hg := cond_t h8 hg
   refine aw_s ?_
   refine awp_seq ?_
   refine awp_block ?_
   refine awp_region (sys _ _ []) 17 41 hU17_7 rfl rfl ?_
   refine c0_ rfl rfl .move rfl rfl ?_
   refine c0_ rfl rfl r_add rfl rfl ?_
   refine c0_ rfl rfl .assign rfl rfl ?_
   refine ch_n fun hU41_9 => ?_
   refine awp_region (sys _ _ []) 41 65 hU41_9 rfl rfl ?_
   refine c0_ rfl rfl .move rfl rfl ?_
   obtain ⟨q, hq, hg⟩ := bind_some hg
   refine c0_ rfl rfl (r_shrK hq) rfl rfl ?_
   refine c0_ rfl rfl .assign rfl rfl ?_
   refine ch_n fun hU65_10 => ?_
   obtain rfl := Option.some.inj hg
   exact ⟨((W (count_1 + 1), q), m1), Nat.lt_succ_self _, hn1, Sub.lists [(0, 0)] rfl rfl ⟨⟨_, rfl, .row rfl⟩, ⟨_, rfl, .val _⟩, ⟨_, rfl, .val _⟩, ⟨_, rfl, .val _⟩, trivial⟩ ⟨.inl ⟨0, _, rfl, rfl, ⟨rfl, rfl, rfl⟩⟩, trivial⟩⟩
  ·replace hg := cond_f h8 hg
   refine awp_exit ?_
   repeat first | refine st_ ?_ | refine sn_ ?_
   replace hg := leave hg hn1
   refine sr_ 17 73 hU17_7 ?_
   refine c0_ rfl rfl .move rfl rfl ?_
   refine c0_ rfl rfl .move rfl rfl ?_
   refine c0_ rfl rfl r_add rfl rfl ?_
   refine c0_ rfl rfl (r_conv_u8 und3 und5) rfl rfl ?_
   refine c0_ rfl rfl (r_buildFull sl22 z5 (by decide) rfl rfl rfl rfl ck5 (cs := [.int .u8 ((u8 (W (128 + count_1))).toNat : Int)]) (.cons .int .nil) rfl (l := ([(u8 (W (128 + count_1)))] : List UInt8)) (f := e8) rfl) rfl rfl ?_
   obtain ⟨l_2, hl_2, hg⟩ := bind_some hg
   refine ch_s (rd := [0, 49]) rfl rfl (r_append sl22 e8_len .row rfl .row rfl hl_2 rfl) rfl rfl ?_
   refine c0_ rfl rfl .assign rfl rfl ?_
   refine ch_n fun hU73_11 => ?_
   refine awp_seq ?_
   refine sr_ 73 97 hU73_11 ?_
   refine c0_ rfl rfl .move rfl rfl ?_
   refine c0_ rfl rfl r_sub rfl rfl ?_
   refine c0_ rfl rfl .assign rfl rfl ?_
   refine ch_n fun hU97_12 => ?_
   refine awp_block ?_
   obtain ⟨n2, hg⟩ := loop_some hg
   refine awp_loop (ι := (Int × List UInt8) × Nat) (fun (((i_2, b_2), _) : (Int × List UInt8) × Nat) => mk [(0, .row 0), (1, .val (.int .i64 n)), (7, .val (.int .i64 i_2))] [(0, .row 5 1 (encL e8 b_2))] 1) (fun (((i_2, b_2), nq') : (Int × List UInt8) × Nat) => iter (fun q' => g_der_length.l2 n q'.1 q'.2) nq' (i_2, b_2) = some r) (fun q => q.2) ((W (count_1 - 1), l_2), n2) (Sub.lists [(0, 57)] rfl rfl ⟨⟨_, rfl, .row rfl⟩, ⟨_, rfl, .val _⟩, ⟨_, rfl, .val _⟩, trivial⟩ ⟨.inl ⟨57, _, rfl, rfl, ⟨rfl, rfl, rfl⟩⟩, trivial⟩) hg ?_
   rintro ⟨⟨i_2, b_2⟩, n2⟩ hg
   obtain ⟨m2, o2, rfl, hg, hn2⟩ := iter_some (show iter (fun q' => g_der_length.l2 n q'.1 q'.2) n2 (i_2, b_2) = some r from hg)
   replace hg : g_der_length.l2 n i_2 b_2 = some o2 := hg
   show awp _ _ _ _ (mk _ _ _)
   unfold g_der_length.l2 at hg
   refine awp_seq ?_
   refine sr_ 1 17 mk_U ?_
   refine c0_ rfl rfl .move rfl rfl ?_
   refine c0_ rfl rfl r_geq rfl rfl ?_
   refine ch_n fun hU17_13 => ?_
   refine awp_cond rfl (fun h14 => ?_) (fun h14 => ?_)
   ·replace hg := cond_t h14 hg
    refine aw_s ?_
    refine awp_seq ?_
    refine awp_block ?_
    refine awp_region (sys _ _ []) 17 89 hU17_13 rfl rfl ?_
    iterate 3 refine c0_ rfl rfl .move rfl rfl ?_
    refine c0_ rfl rfl r_mul rfl rfl ?_
    obtain ⟨q_2, hq_2, hg⟩ := bind_some hg
    refine c0_ rfl rfl (r_shrK hq_2) rfl rfl ?_
    refine c0_ rfl rfl (r_conv_u8 und3 und5) rfl rfl ?_
    refine c0_ rfl rfl (r_buildFull sl22 z5 (by decide) rfl rfl rfl rfl ck5 (cs := [.int .u8 ((u8 q_2).toNat : Int)]) (.cons .int .nil) rfl (l := ([(u8 q_2)] : List UInt8)) (f := e8) rfl) rfl rfl ?_
    obtain ⟨l_3, hl_3, hg⟩ := bind_some hg
    refine ch_s (rd := [0, 65]) rfl rfl (r_append sl22 e8_len .row rfl .row rfl hl_3 rfl) rfl rfl ?_
    refine c0_ rfl rfl .assign rfl rfl ?_
    refine ch_n fun hU89_15 => ?_
    refine awp_region (sys _ _ []) 89 113 hU89_15 rfl rfl ?_
    refine c0_ rfl rfl .move rfl rfl ?_
    refine c0_ rfl rfl r_sub rfl rfl ?_
    refine c0_ rfl rfl .assign rfl rfl ?_
    refine ch_n fun hU113_16 => ?_
    obtain rfl := Option.some.inj hg
    exact ⟨((W (i_2 - 1), l_3), m2), Nat.lt_succ_self _, hn2, Sub.lists [(0, 73)] rfl rfl ⟨⟨_, rfl, .row rfl⟩, ⟨_, rfl, .val _⟩, ⟨_, rfl, .val _⟩, trivial⟩ ⟨.inl ⟨73, _, rfl, rfl, ⟨rfl, rfl, rfl⟩⟩, trivial⟩⟩
   ·replace hg := cond_f h14 hg
    refine awp_exit ?_
    repeat first | refine st_ ?_ | refine sn_ ?_
    replace hg := leave hg hn2
    refine sr_ 17 33 hU17_13 ?_
    refine c0_ rfl rfl .move rfl rfl ?_
    refine c0_ rfl rfl .assign rfl rfl ?_
    refine ch_n fun hU33_17 => ?_
    refine aw_r ?_
    obtain rfl := Option.some.inj hg
    exact ⟨[_], _, [_], [(0, 0)], .cons (.tmp rfl) .nil, ⟨rfl, rfl⟩, .row rfl, ⟨.inl ⟨0, _, rfl, rfl, ⟨rfl, rfl, rfl⟩⟩, trivial⟩, rfl, rfl, rfl, rfl⟩
theorem w_der_element_own (rec : api_Value → Option ((List UInt8))) (hrec : ∀ (v : api_Value) (r : (List UInt8)), rec v = some r → Fn Try.prog 57 0 [.agg [.val (.int .i64 v.Tag), .sl 1 (encL e8 v.Bytes), .val (.bool v.Nested), .sl 4 (encL api_Value.enc v.Elements)]] [] (fun d b => d = .sl 1 (encL e8 r) ∧ b = [])) (b : List UInt8) (v : api_Value) (r : (List UInt8)) (hg : g_der_element rec b v = some r) : Fn Try.prog 29 0 [.row 0, .agg [.val (.int .i64 v.Tag), .sl 1 (encL e8 v.Bytes), .val (.bool v.Nested), .sl 4 (encL api_Value.enc v.Elements)]] [.row 5 1 (encL e8 b)] (fun d b => d = .row 0 ∧ b = [.row 5 1 (encL e8 r)]) := by
 unfold g_der_element at hg
 refine Fn.of Try.func29 rfl rfl rfl fun w0 I ρ0 => ?_
 show awp _ ⟨w0, I, ρ0, 0, 1, 19⟩ _ _ _
 refine sr_ 1 17 mk_U ?_
 refine c0_ rfl rfl (.box rfl) rfl rfl ?_
 refine c0_ rfl rfl .assign rfl rfl ?_
 refine ch_n fun hU17_1 => ?_
 refine sr_ 17 41 hU17_1 ?_
 refine ch_s (rd := [1]) rfl rfl (.loadBA ty49 (Nat.le_of_ble_eq_true rfl)) rfl rfl ?_
 obtain ⟨y, hy, hg⟩ := bind_some hg
 refine ch_callP (rd := []) (ps := []) (gs := []) false rfl (hrec v _ hy) rfl rfl (.cons (.agg (.cons .val (.cons .sl (.cons .val (.cons .sl .nil))))) .nil) rfl rfl (by intro h; cases h) rfl rfl rfl rfl ?_
 refine c0_ rfl rfl .assign rfl rfl ?_
 refine ch_n fun hU41_2 => ?_
 refine sr_ 41 137 hU41_2 ?_
 refine c0_ rfl rfl .move rfl rfl ?_
 refine c0_ rfl rfl (.fieldP fd49_0 ty3 (by decide)) rfl rfl ?_
 refine ch_s (rd := [1]) rfl rfl (.loadB1 ty3 rfl) rfl rfl ?_
 refine c0_ rfl rfl (r_conv_u8 und3 und5) rfl rfl ?_
 refine c0_ rfl rfl (r_buildFull sl22 z5 (by decide) rfl rfl rfl rfl ck5 (cs := [.int .u8 ((u8 v.Tag).toNat : Int)]) (.cons .int .nil) rfl (l := ([(u8 v.Tag)] : List UInt8)) (f := e8) rfl) rfl rfl ?_
 obtain ⟨l, hl, hg⟩ := bind_some hg
 refine ch_s (rd := [0, 73]) rfl rfl (r_append sl22 e8_len .row rfl .row rfl hl rfl) rfl rfl ?_
 refine c0_ rfl rfl .move rfl rfl ?_
 refine c0_ rfl rfl (r_lenS sl22 e8_len) rfl rfl ?_
 obtain ⟨y_2, hy_2, hg⟩ := bind_some hg
 refine ch_call (rd := [81]) (ps := []) (gs := [81]) false rfl (w_der_length_own l (y.length : Int) _ hy_2) rfl rfl (.cons (.rowK rfl) (.cons .val .nil)) ⟨_, _, _, rfl, .head _, rfl, rfl⟩ rfl (by intro h; cases h) rfl (by intro h; first | (cases h; done) | exact ⟨_, _, ⟨rfl, rfl⟩, by simp, by simp⟩) ?_
 rintro _ _ ⟨rfl, rfl⟩
 refine c0_ rfl rfl .move rfl rfl ?_
 obtain ⟨l_2, hl_2, hg⟩ := bind_some hg
 refine ch_s (rd := [105]) rfl rfl (r_append sl22 e8_len .row rfl .sl rfl hl_2 rfl) rfl rfl ?_
 refine c0_ rfl rfl .assign rfl rfl ?_
 refine ch_n fun hU137_3 => ?_
 refine aw_r ?_
 obtain rfl := Option.some.inj hg
 exact ⟨[_], _, [_], [(0, 121)], .cons (.tmp rfl) .nil, ⟨rfl, rfl⟩, .row rfl, ⟨.inl ⟨121, _, rfl, rfl, ⟨rfl, rfl, rfl⟩⟩, trivial⟩, rfl, rfl, rfl, rfl⟩
theorem w_der_contents.F (rec : api_Value → Option ((List UInt8))) (hrec : ∀ (v : api_Value) (r : (List UInt8)), rec v = some r → Fn Try.prog 57 0 [.agg [.val (.int .i64 v.Tag), .sl 1 (encL e8 v.Bytes), .val (.bool v.Nested), .sl 4 (encL api_Value.enc v.Elements)]] [] (fun d b => d = .sl 1 (encL e8 r) ∧ b = [])) (v : api_Value) (r : (List UInt8)) (hg : g_der_contents.F rec v = some r) : Fn Try.prog 57 0 [.agg [.val (.int .i64 v.Tag), .sl 1 (encL e8 v.Bytes), .val (.bool v.Nested), .sl 4 (encL api_Value.enc v.Elements)]] [] (fun d b => d = .sl 1 (encL e8 r) ∧ b = []) := by
 unfold g_der_contents.F at hg
 refine Fn.of Try.func57 rfl rfl rfl fun w0 I ρ0 => ?_
 show awp _ ⟨w0, I, ρ0, 0, 0, 23⟩ _ _ _
 refine sr_ 0 16 mk_U ?_
 refine c0_ rfl rfl (.box rfl) rfl rfl ?_
 refine c0_ rfl rfl .assign rfl rfl ?_
 refine ch_n fun hU16_1 => ?_
 refine awp_seq ?_
 refine sr_ 16 40 hU16_1 ?_
 refine c0_ rfl rfl (.fieldP fd49_2 ty4 (by decide)) rfl rfl ?_
 refine ch_s (rd := [0]) rfl rfl (.loadB1 ty4 rfl) rfl rfl ?_
 refine c0_ rfl rfl r_not rfl rfl ?_
 refine ch_n fun hU40_2 => ?_
 refine awp_cond rfl (fun h3 => ?_) (fun h3 => ?_)
 ·replace hg := cond_t h3 hg
  refine sr_ 40 64 hU40_2 ?_
  refine c0_ rfl rfl (.fieldP fd49_1 ty22 (by decide)) rfl rfl ?_
  refine ch_s (rd := [0]) rfl rfl (.loadB1 ty22 rfl) rfl rfl ?_
  refine c0_ rfl rfl .assign rfl rfl ?_
  refine ch_n fun hU64_4 => ?_
  refine aw_r ?_
  obtain rfl := Option.some.inj hg
  exact ⟨[_], _, [], [], .cons (.tmp rfl) .nil, ⟨rfl, rfl⟩, .sl _ _, trivial, rfl, rfl, rfl, rfl⟩
 ·replace hg := cond_f h3 hg
  refine aw_s ?_
  refine sr_ 40 48 hU40_2 ?_
  refine c0_ rfl rfl .assign rfl rfl ?_
  refine ch_n fun hU48_5 => ?_
  refine awp_seq ?_
  refine sr_ 48 80 hU48_5 ?_
  refine c0_ rfl rfl (.fieldP fd49_3 ty47 (by decide)) rfl rfl ?_
  refine ch_s (rd := [0]) rfl rfl (.loadB1 ty47 rfl) rfl rfl ?_
  refine c0_ rfl rfl (r_lenS sl47 api_Value.enc_len) rfl rfl ?_
  refine c0_ rfl rfl .move rfl rfl ?_
  refine ch_n fun hU80_6 => ?_
  refine awp_block ?_
  obtain ⟨n1, hg⟩ := loop_some hg
  refine awp_loop (ι := (Int × List UInt8) × Nat) (fun (((x14_1, out_1), _) : (Int × List UInt8) × Nat) => mk [(3, .row 0), (12, .sl 4 (encL api_Value.enc v.Elements)), (13, .val (.int .i64 (v.Elements.length : Int))), (14, .val (.int .i64 x14_1))] [(0, .row 5 1 (encL e8 out_1))] 1) (fun (((x14_1, out_1), nq') : (Int × List UInt8) × Nat) => iter (fun q' => g_der_contents.l1 rec v q'.1 q'.2) nq' (x14_1, out_1) = some r) (fun q => q.2) ((0, ([] : List UInt8)), n1) (Sub.lists [] rfl rfl ⟨⟨_, rfl, .nil rfl⟩, ⟨_, rfl, .sl _ _⟩, ⟨_, rfl, .val _⟩, ⟨_, rfl, .val _⟩, trivial⟩ ⟨.inr ⟨rfl, _, _, rfl⟩, trivial⟩) hg ?_
  rintro ⟨⟨x14_1, out_1⟩, n1⟩ hg
  obtain ⟨m1, o1, rfl, hg, hn1⟩ := iter_some (show iter (fun q' => g_der_contents.l1 rec v q'.1 q'.2) n1 (x14_1, out_1) = some r from hg)
  replace hg : g_der_contents.l1 rec v x14_1 out_1 = some o1 := hg
  show awp _ _ _ _ (mk _ _ _)
  unfold g_der_contents.l1 at hg
  refine sr_ 1 9 mk_U ?_
  refine c0_ rfl rfl r_lss rfl rfl ?_
  refine ch_n fun hU9_7 => ?_
  refine awp_seq ?_
  refine awp_cond rfl (fun h8 => ?_) (fun h8 => ?_)
  ·replace hg := cond_t h8 hg
   refine aw_s ?_
   refine awp_seq ?_
   refine awp_block ?_
   refine sr_ 9 41 hU9_7 ?_
   obtain ⟨e, he, hg⟩ := bind_some hg
   refine c0_ rfl rfl (r_idxS sl47 api_Value.enc_len (getI_ix he) (getI_at he)) rfl rfl ?_
   refine c0_ rfl rfl (r_loadEA ty49 (enc_cells api_Value.enc_len (getI_at he) (o := 0) (m := 4) (cs := [.int .i64 e.Tag, .sl 1 (encL e8 e.Bytes), .bool e.Nested, .sl 4 (encL api_Value.enc e.Elements)]) (by simp only [api_Value.enc_eq]; rfl) (by decide) rfl) (enc_cells_le api_Value.enc_len (getI_at he) (o := 0) (m := 4) (by decide) rfl)) rfl rfl ?_
   refine c0_ rfl rfl (.alloc z49) rfl rfl ?_
   refine ch_s (rd := [25]) rfl rfl (r_storeB (ds' := [.val (.int .i64 e.Tag), .sl 1 (encL e8 e.Bytes), .val (.bool e.Nested), .sl 4 (encL api_Value.enc e.Elements)]) ty49 rfl (Nat.le_of_ble_eq_true rfl) rfl rfl) rfl rfl ?_
   refine ch_n fun hU41_9 => ?_
   refine awp_region (sys _ _ []) 41 73 hU41_9 rfl rfl ?_
   refine c0_ rfl rfl .move rfl rfl ?_
   refine ch_s (rd := [25]) rfl rfl (.loadBA ty49 (Nat.le_of_ble_eq_true rfl)) rfl rfl ?_
   obtain ⟨y, hy, hg⟩ := bind_some hg
   refine ch_call (rd := [0]) (ps := []) (gs := [0]) false rfl (w_der_element_own rec hrec out_1 e _ hy) rfl rfl (.cons (.rowK rfl) (.cons (.agg (.cons .val (.cons .sl (.cons .val (.cons .sl .nil))))) .nil)) ⟨_, _, _, rfl, .head _, rfl, rfl⟩ rfl (by intro h; cases h) rfl (by intro h; first | (cases h; done) | exact ⟨_, _, ⟨rfl, rfl⟩, by simp, by simp⟩) ?_
   rintro _ _ ⟨rfl, rfl⟩
   refine c0_ rfl rfl .assign rfl rfl ?_
   refine ch_n fun hU73_10 => ?_
   refine awp_region (sys _ _ []) 73 89 hU73_10 rfl rfl ?_
   refine c0_ rfl rfl r_add rfl rfl ?_
   refine c0_ rfl rfl .move rfl rfl ?_
   refine ch_n fun hU89_11 => ?_
   obtain rfl := Option.some.inj hg
   exact ⟨((W (x14_1 + 1), y), m1), Nat.lt_succ_self _, hn1, Sub.lists [(0, 57)] rfl rfl ⟨⟨_, rfl, .row rfl⟩, ⟨_, rfl, .sl _ _⟩, ⟨_, rfl, .val _⟩, ⟨_, rfl, .val _⟩, trivial⟩ ⟨.inl ⟨57, _, rfl, rfl, ⟨rfl, rfl, rfl⟩⟩, trivial⟩⟩
  ·replace hg := cond_f h8 hg
   refine awp_exit ?_
   repeat first | refine st_ ?_ | refine sn_ ?_
   replace hg := leave hg hn1
   refine sr_ 9 25 hU9_7 ?_
   refine c0_ rfl rfl .move rfl rfl ?_
   refine c0_ rfl rfl .assign rfl rfl ?_
   refine ch_n fun hU25_12 => ?_
   refine aw_r ?_
   obtain rfl := Option.some.inj hg
   exact ⟨[_], _, [], [], .cons (.tmp rfl) .nil, ⟨rfl, rfl⟩, .frz rfl (look_ne rfl), trivial, rfl, rfl, rfl, rfl⟩
theorem w_der_contents (v : api_Value) (r : (List UInt8)) (hg : g_der_contents v = some r) : Fn Try.prog 57 0 [.agg [.val (.int .i64 v.Tag), .sl 1 (encL e8 v.Bytes), .val (.bool v.Nested), .sl 4 (encL api_Value.enc v.Elements)]] [] (fun d b => d = .sl 1 (encL e8 r) ∧ b = []) :=
 fixT_ind (motive := fun (x : api_Value) (r : (List UInt8)) => Fn Try.prog 57 0 [.agg [.val (.int .i64 x.Tag), .sl 1 (encL e8 x.Bytes), .val (.bool x.Nested), .sl 4 (encL api_Value.enc x.Elements)]] [] (fun d b => d = .sl 1 (encL e8 r) ∧ b = [])) (fun rec hrec x r h => w_der_contents.F _ (fun v r h => hrec v r h) x r h) v r hg
theorem w_der_element_nil_own (v : api_Value) (r : (List UInt8)) (hg : g_der_element_nil v = some r) : Fn Try.prog 29 0 [.val (.slice none 0 0), .agg [.val (.int .i64 v.Tag), .sl 1 (encL e8 v.Bytes), .val (.bool v.Nested), .sl 4 (encL api_Value.enc v.Elements)]] [] (fun d b => d = .row 0 ∧ b = [.row 5 1 (encL e8 r)]) := by
 unfold g_der_element_nil at hg
 refine Fn.of Try.func29 rfl rfl rfl fun w0 I ρ0 => ?_
 show awp _ ⟨w0, I, ρ0, 0, 0, 19⟩ _ _ _
 refine sr_ 0 16 mk_U ?_
 refine c0_ rfl rfl (.box rfl) rfl rfl ?_
 refine c0_ rfl rfl .assign rfl rfl ?_
 refine ch_n fun hU16_1 => ?_
 refine sr_ 16 40 hU16_1 ?_
 refine ch_s (rd := [0]) rfl rfl (.loadBA ty49 (Nat.le_of_ble_eq_true rfl)) rfl rfl ?_
 obtain ⟨y, hy, hg⟩ := bind_some hg
 refine ch_callP (rd := []) (ps := []) (gs := []) false rfl (w_der_contents v _ hy) rfl rfl (.cons (.agg (.cons .val (.cons .sl (.cons .val (.cons .sl .nil))))) .nil) rfl rfl (by intro h; cases h) rfl rfl rfl rfl ?_
 refine c0_ rfl rfl .assign rfl rfl ?_
 refine ch_n fun hU40_2 => ?_
 refine sr_ 40 136 hU40_2 ?_
 refine c0_ rfl rfl .move rfl rfl ?_
 refine c0_ rfl rfl (.fieldP fd49_0 ty3 (by decide)) rfl rfl ?_
 refine ch_s (rd := [0]) rfl rfl (.loadB1 ty3 rfl) rfl rfl ?_
 refine c0_ rfl rfl (r_conv_u8 und3 und5) rfl rfl ?_
 refine c0_ rfl rfl (r_buildFull sl22 z5 (by decide) rfl rfl rfl rfl ck5 (cs := [.int .u8 ((u8 v.Tag).toNat : Int)]) (.cons .int .nil) rfl (l := ([(u8 v.Tag)] : List UInt8)) (f := e8) rfl) rfl rfl ?_
 obtain ⟨l, hl, hg⟩ := bind_some hg
 refine ch_s (rd := [72]) rfl rfl (r_append sl22 e8_len .nil rfl .row rfl hl rfl) rfl rfl ?_
 refine c0_ rfl rfl .move rfl rfl ?_
 refine c0_ rfl rfl (r_lenS sl22 e8_len) rfl rfl ?_
 obtain ⟨y_2, hy_2, hg⟩ := bind_some hg
 refine ch_call (rd := [80]) (ps := []) (gs := [80]) false rfl (w_der_length_own l (y.length : Int) _ hy_2) rfl rfl (.cons (.rowK rfl) (.cons .val .nil)) ⟨_, _, _, rfl, .head _, rfl, rfl⟩ rfl (by intro h; cases h) rfl (by intro h; first | (cases h; done) | exact ⟨_, _, ⟨rfl, rfl⟩, by simp, by simp⟩) ?_
 rintro _ _ ⟨rfl, rfl⟩
 refine c0_ rfl rfl .move rfl rfl ?_
 obtain ⟨l_2, hl_2, hg⟩ := bind_some hg
 refine ch_s (rd := [104]) rfl rfl (r_append sl22 e8_len .row rfl .sl rfl hl_2 rfl) rfl rfl ?_
 refine c0_ rfl rfl .assign rfl rfl ?_
 refine ch_n fun hU136_3 => ?_
 refine aw_r ?_
 obtain rfl := Option.some.inj hg
 exact ⟨[_], _, [_], [(0, 120)], .cons (.tmp rfl) .nil, ⟨rfl, rfl⟩, .row rfl, ⟨.inl ⟨120, _, rfl, rfl, ⟨rfl, rfl, rfl⟩⟩, trivial⟩, rfl, rfl, rfl, rfl⟩
end Go.Proofs.Ytlcfdnjokgbccaa
