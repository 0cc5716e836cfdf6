/- The program computes the plain functions. -/
import Derived.Test.YtadjcdhcdmiifaaT1
import Derived.Test.YtadjcdhcdmiifaaA1
set_option linter.unusedVariables false
set_option linter.unusedSimpArgs false
set_option maxRecDepth 100000
set_option maxHeartbeats 1600000
namespace Go.Proofs.Ytadjcdhcdmiifaa
open Go.RowKit
theorem w_ref01_Text (s : ByteArray) (r : api_Value) (hg : g_ref01_Text s = some r) : Fn Try.prog 75 0 [.val (.string s)] [] (fun d b => d = .agg [.val (.int .i64 r.Tag), .sl 1 (encL e8 r.Bytes), .val (.bool r.Nested), .sl 4 (encL api_Value.enc r.Elements)] ∧ b = []) := by
 unfold g_ref01_Text at hg
 refine Fn.of Try.func75 rfl rfl rfl fun w0 I ρ0 => ?_
 show awp _ ⟨w0, I, ρ0, 0, 0, 6⟩ _ _ _
 refine sr_ 0 8 mk_U ?_
 refine c0_ rfl rfl (.alloc z97) rfl rfl ?_
 refine ch_n fun hU8_1 => ?_
 refine sr_ 8 40 hU8_1 ?_
 refine c0_ rfl rfl .move rfl rfl ?_
 refine c0_ rfl rfl (r_convB und9 und82 und5) rfl rfl ?_
 refine c0_ rfl rfl (.build (r := [.val (.int .i64 12), .sl 1 (encL e8 (toB s)), .val (.bool false), .val (.slice none 0 0)]) und97 pl97 z97 (by kernel_rfl) rfl) rfl rfl ?_
 refine ch_s (rd := [0]) rfl rfl (r_storeB (ds' := [.val (.int .i64 12), .sl 1 (encL e8 (toB s)), .val (.bool false), .val (.slice none 0 0)]) ty97 rfl (Nat.le_of_ble_eq_true rfl) rfl rfl) rfl rfl ?_
 refine ch_n fun hU40_2 => ?_
 refine aw_r ?_
 obtain rfl := Option.some.inj hg
 exact ⟨[_], _, [], [], .cons (.cellA rfl rfl ty97 rfl) .nil, ⟨rfl, rfl⟩, .agg (.cons (.val _) (.cons (.sl _ _) (.cons (.val _) (.cons (.nils _) .nil)))), trivial, rfl, rfl, rfl, rfl⟩
theorem w_ref01_Int (n : Int) (r : api_Value) (hg : g_ref01_Int n = some r) : Fn Try.prog 77 0 [.val (.int .i64 n)] [] (fun d b => d = .agg [.val (.int .i64 r.Tag), .sl 1 (encL e8 r.Bytes), .val (.bool r.Nested), .sl 4 (encL api_Value.enc r.Elements)] ∧ b = []) := by
 unfold g_ref01_Int at hg
 refine Fn.of Try.func77 rfl rfl rfl fun w0 I ρ0 => ?_
 show awp _ ⟨w0, I, ρ0, 0, 0, 45⟩ _ _ _
 refine sr_ 0 8 mk_U ?_
 refine c0_ rfl rfl (.alloc z97) rfl rfl ?_
 refine ch_n fun hU8_1 => ?_
 refine sr_ 8 40 hU8_1 ?_
 refine c0_ rfl rfl .move rfl rfl ?_
 refine c0_ rfl rfl (r_conv_u8 und3 und5) rfl rfl ?_
 refine c0_ rfl rfl (r_buildFull sl82 z5 (by decide) rfl rfl rfl rfl ck5 (cs := [.int .u8 ((u8 n).toNat : Int)]) (.cons .int .nil) rfl (l := ([(u8 n)] : List UInt8)) (f := e8) rfl) rfl rfl ?_
 refine c0_ rfl rfl .assign rfl rfl ?_
 refine ch_n fun hU40_2 => ?_
 refine awp_seq ?_
 refine sr_ 40 64 hU40_2 ?_
 refine c0_ rfl rfl .move rfl rfl ?_
 obtain ⟨q, hq, hg⟩ := bind_some hg
 refine c0_ rfl rfl (r_shrK hq) rfl rfl ?_
 refine c0_ rfl rfl .assign rfl rfl ?_
 refine ch_n fun hU64_3 => ?_
 refine awp_block ?_
 obtain ⟨n1, hg⟩ := loop_some hg
 refine awp_loop (ι := (Int × List UInt8) × Nat) (fun (((x_1, b_1), _) : (Int × List UInt8) × Nat) => mk [(2, .ptr 0 0), (3, .row 1), (4, .val (.int .i64 x_1))] [(0, .box [.val (.int .i64 0), .val (.slice none 0 0), .val (.bool false), .val (.slice none 0 0)] 97), (1, .row 5 1 (encL e8 b_1))] 2) (fun (((x_1, b_1), nq') : (Int × List UInt8) × Nat) => iter (fun q' => g_ref01_Int.l1 q'.1 q'.2) nq' (x_1, b_1) = some r) (fun q => q.2) ((q, ([(u8 n)] : List UInt8)), n1) (Sub.lists [(0, 0), (1, 24)] rfl rfl ⟨⟨_, rfl, .ptr rfl⟩, ⟨_, rfl, .row rfl⟩, ⟨_, rfl, .val _⟩, trivial⟩ ⟨.inl ⟨0, _, rfl, rfl, ⟨rfl, .cons (.val _) (.cons (.val _) (.cons (.val _) (.cons (.val _) .nil)))⟩⟩, .inl ⟨24, _, rfl, rfl, ⟨rfl, rfl, rfl⟩⟩, trivial⟩) hg ?_
 rintro ⟨⟨x_1, b_1⟩, n1⟩ hg
 obtain ⟨m1, o1, rfl, hg, hn1⟩ := iter_some (show iter (fun q' => g_ref01_Int.l1 q'.1 q'.2) n1 (x_1, b_1) = some r from hg)
 replace hg : g_ref01_Int.l1 x_1 b_1 = some o1 := hg
 show awp _ _ _ _ (mk _ _ _)
 unfold g_ref01_Int.l1 at hg
 refine awp_seq ?_
 refine awp_cut (ι := Bool) (fun (x35_2 : Bool) => mk [(2, .ptr 0 0), (3, .row 1), (4, .val (.int .i64 x_1)), (35, .val (.bool x35_2))] [(0, .box [.val (.int .i64 0), .val (.slice none 0 0), .val (.bool false), .val (.slice none 0 0)] 97), (1, .row 5 1 (encL e8 b_1))] 2) (fun (x35_2 : Bool) => g_ref01_Int.j2 x_1 b_1 x35_2 = some o1) ?_ ?_
 ·refine awp_region (sys _ _ []) 2 210 mk_U rfl rfl ?_
  refine c0_ rfl rfl .move rfl rfl ?_
  refine c0_ rfl rfl r_neq rfl rfl ?_
  refine c0_ rfl rfl .move rfl rfl ?_
  rcases Bool.eq_false_or_eq_true (!decide (x_1 = 0)) with h4 | h4
  ·replace hg := cond_t h4 hg
   refine c0_ (gdv_t rfl rfl h4) rfl .move rfl rfl ?_
   refine c0_ (gdv_t rfl rfl h4) rfl r_neq rfl rfl ?_
   refine c0_ rfl rfl (r_pickT h4) rfl rfl ?_
   refine c0_ rfl rfl .move rfl rfl ?_
   rcases Bool.eq_false_or_eq_true (!decide (x_1 = (-1))) with h5 | h5
   ·replace hg := cond_t h5 hg
    iterate 3 refine ch_skip (gdv_f rfl rfl h5) rfl ?_
    iterate 4 refine ch_skip rfl rfl ?_
    refine ch_skip (gdv_f rfl rfl h5) rfl ?_
    refine c0_ rfl rfl (r_pickT h5) rfl rfl ?_
    refine c0_ rfl rfl .move rfl rfl ?_
    iterate 3 refine ch_skip (gdv_f rfl rfl rfl) rfl ?_
    iterate 4 refine ch_skip rfl rfl ?_
    refine ch_skip (gdv_f rfl rfl rfl) rfl ?_
    refine c0_ rfl rfl (r_pickT rfl) rfl rfl ?_
    refine ch_n fun hU210_6 => ?_
    exact ⟨true, hg, Sub.lists [(0, 0), (1, 1)] rfl rfl ⟨⟨_, rfl, .ptr rfl⟩, ⟨_, rfl, .row rfl⟩, ⟨_, rfl, .val _⟩, ⟨_, rfl, .val _⟩, trivial⟩ ⟨.inl ⟨0, _, rfl, rfl, ⟨rfl, .cons (.val _) (.cons (.val _) (.cons (.val _) (.cons (.val _) .nil)))⟩⟩, .inl ⟨1, _, rfl, rfl, ⟨rfl, rfl, rfl⟩⟩, trivial⟩⟩
   ·replace hg := cond_f h5 hg
    refine c0_ (gdv_t rfl rfl h5) rfl .move rfl rfl ?_
    refine c0_ (gdv_t rfl rfl h5) rfl r_eql rfl rfl ?_
    refine c0_ (gdv_t rfl rfl h5) rfl .move rfl rfl ?_
    rcases Bool.eq_false_or_eq_true (decide (x_1 = 0)) with h7 | h7
    ·replace hg := cond_t h7 hg
     refine c0_ (gdv_t rfl rfl h7) rfl .move rfl rfl ?_
     obtain ⟨e, he, hg⟩ := bind_some hg
     refine ch_s (rd := [1]) (gdv_t rfl rfl h7) rfl (r_idxR sl82 e8_len (getI_ix he) (getI_at he)) rfl rfl ?_
     refine ch_s (rd := [1]) (gdv_t rfl rfl h7) rfl (.loadR1 ty5 (enc_cell e8_len (getI_at he) (o := 0) (c := .int .u8 (e.toNat : Int)) rfl rfl)) rfl rfl ?_
     refine c0_ (gdv_t rfl rfl h7) rfl r_geq rfl rfl ?_
     refine c0_ (gdv_t rfl rfl h5) rfl (r_pickT h7) rfl rfl ?_
     refine c0_ rfl rfl (r_pickF h5) rfl rfl ?_
     refine c0_ rfl rfl .move rfl rfl ?_
     rcases Bool.eq_false_or_eq_true (decide (128 ≤ (e.toNat : Int))) with h8 | h8
     ·replace hg := cond_t h8 hg
      iterate 3 refine ch_skip (gdv_f rfl rfl h8) rfl ?_
      iterate 4 refine ch_skip rfl rfl ?_
      refine ch_skip (gdv_f rfl rfl h8) rfl ?_
      refine c0_ rfl rfl (r_pickT h8) rfl rfl ?_
      refine ch_n fun hU210_9 => ?_
      exact ⟨true, hg, Sub.lists [(0, 0), (1, 1)] rfl rfl ⟨⟨_, rfl, .ptr rfl⟩, ⟨_, rfl, .row rfl⟩, ⟨_, rfl, .val _⟩, ⟨_, rfl, .val _⟩, trivial⟩ ⟨.inl ⟨0, _, rfl, rfl, ⟨rfl, .cons (.val _) (.cons (.val _) (.cons (.val _) (.cons (.val _) .nil)))⟩⟩, .inl ⟨1, _, rfl, rfl, ⟨rfl, rfl, rfl⟩⟩, trivial⟩⟩
     ·replace hg := cond_f h8 hg
      refine c0_ (gdv_t rfl rfl h8) rfl .move rfl rfl ?_
      refine c0_ (gdv_t rfl rfl h8) rfl r_eql rfl rfl ?_
      refine c0_ (gdv_t rfl rfl h8) rfl .move rfl rfl ?_
      rcases Bool.eq_false_or_eq_true (decide (x_1 = (-1))) with h10 | h10
      ·replace hg := cond_t h10 hg
       refine c0_ (gdv_t rfl rfl h10) rfl .move rfl rfl ?_
       refine ch_s (rd := [1]) (gdv_t rfl rfl h10) rfl (r_idxR sl82 e8_len (getI_ix he) (getI_at he)) rfl rfl ?_
       refine ch_s (rd := [1]) (gdv_t rfl rfl h10) rfl (.loadR1 ty5 (enc_cell e8_len (getI_at he) (o := 0) (c := .int .u8 (e.toNat : Int)) rfl rfl)) rfl rfl ?_
       refine c0_ (gdv_t rfl rfl h10) rfl r_lss rfl rfl ?_
       refine c0_ (gdv_t rfl rfl h8) rfl (r_pickT h10) rfl rfl ?_
       refine c0_ rfl rfl (r_pickF h8) rfl rfl ?_
       refine ch_n fun hU210_11 => ?_
       exact ⟨decide ((e.toNat : Int) < 128), hg, Sub.lists [(0, 0), (1, 1)] rfl rfl ⟨⟨_, rfl, .ptr rfl⟩, ⟨_, rfl, .row rfl⟩, ⟨_, rfl, .val _⟩, ⟨_, rfl, .val _⟩, trivial⟩ ⟨.inl ⟨0, _, rfl, rfl, ⟨rfl, .cons (.val _) (.cons (.val _) (.cons (.val _) (.cons (.val _) .nil)))⟩⟩, .inl ⟨1, _, rfl, rfl, ⟨rfl, rfl, rfl⟩⟩, trivial⟩⟩
      ·replace hg := cond_f h10 hg
       iterate 4 refine ch_skip (gdv_f rfl rfl h10) rfl ?_
       refine c0_ (gdv_t rfl rfl h8) rfl (r_pickF h10) rfl rfl ?_
       refine c0_ rfl rfl (r_pickF h8) rfl rfl ?_
       refine ch_n fun hU210_12 => ?_
       exact ⟨false, hg, Sub.lists [(0, 0), (1, 1)] rfl rfl ⟨⟨_, rfl, .ptr rfl⟩, ⟨_, rfl, .row rfl⟩, ⟨_, rfl, .val _⟩, ⟨_, rfl, .val _⟩, trivial⟩ ⟨.inl ⟨0, _, rfl, rfl, ⟨rfl, .cons (.val _) (.cons (.val _) (.cons (.val _) (.cons (.val _) .nil)))⟩⟩, .inl ⟨1, _, rfl, rfl, ⟨rfl, rfl, rfl⟩⟩, trivial⟩⟩
    ·replace hg := cond_f h7 hg
     iterate 4 refine ch_skip (gdv_f rfl rfl h7) rfl ?_
     refine c0_ (gdv_t rfl rfl h5) rfl (r_pickF h7) rfl rfl ?_
     refine c0_ rfl rfl (r_pickF h5) rfl rfl ?_
     refine c0_ rfl rfl .move rfl rfl ?_
     refine c0_ (gdv_t rfl rfl rfl) rfl .move rfl rfl ?_
     refine c0_ (gdv_t rfl rfl rfl) rfl r_eql rfl rfl ?_
     refine c0_ (gdv_t rfl rfl rfl) rfl .move rfl rfl ?_
     rcases Bool.eq_false_or_eq_true (decide (x_1 = (-1))) with h13 | h13
     ·replace hg := cond_t h13 hg
      refine c0_ (gdv_t rfl rfl h13) rfl .move rfl rfl ?_
      obtain ⟨e_2, he_2, hg⟩ := bind_some hg
      refine ch_s (rd := [1]) (gdv_t rfl rfl h13) rfl (r_idxR sl82 e8_len (getI_ix he_2) (getI_at he_2)) rfl rfl ?_
      refine ch_s (rd := [1]) (gdv_t rfl rfl h13) rfl (.loadR1 ty5 (enc_cell e8_len (getI_at he_2) (o := 0) (c := .int .u8 (e_2.toNat : Int)) rfl rfl)) rfl rfl ?_
      refine c0_ (gdv_t rfl rfl h13) rfl r_lss rfl rfl ?_
      refine c0_ (gdv_t rfl rfl rfl) rfl (r_pickT h13) rfl rfl ?_
      refine c0_ rfl rfl (r_pickF rfl) rfl rfl ?_
      refine ch_n fun hU210_14 => ?_
      exact ⟨decide ((e_2.toNat : Int) < 128), hg, Sub.lists [(0, 0), (1, 1)] rfl rfl ⟨⟨_, rfl, .ptr rfl⟩, ⟨_, rfl, .row rfl⟩, ⟨_, rfl, .val _⟩, ⟨_, rfl, .val _⟩, trivial⟩ ⟨.inl ⟨0, _, rfl, rfl, ⟨rfl, .cons (.val _) (.cons (.val _) (.cons (.val _) (.cons (.val _) .nil)))⟩⟩, .inl ⟨1, _, rfl, rfl, ⟨rfl, rfl, rfl⟩⟩, trivial⟩⟩
     ·replace hg := cond_f h13 hg
      iterate 4 refine ch_skip (gdv_f rfl rfl h13) rfl ?_
      refine c0_ (gdv_t rfl rfl rfl) rfl (r_pickF h13) rfl rfl ?_
      refine c0_ rfl rfl (r_pickF rfl) rfl rfl ?_
      refine ch_n fun hU210_15 => ?_
      exact ⟨false, hg, Sub.lists [(0, 0), (1, 1)] rfl rfl ⟨⟨_, rfl, .ptr rfl⟩, ⟨_, rfl, .row rfl⟩, ⟨_, rfl, .val _⟩, ⟨_, rfl, .val _⟩, trivial⟩ ⟨.inl ⟨0, _, rfl, rfl, ⟨rfl, .cons (.val _) (.cons (.val _) (.cons (.val _) (.cons (.val _) .nil)))⟩⟩, .inl ⟨1, _, rfl, rfl, ⟨rfl, rfl, rfl⟩⟩, trivial⟩⟩
  ·replace hg := cond_f h4 hg
   refine ch_skip (gdv_f rfl rfl h4) rfl ?_
   refine ch_skip (gdv_f rfl rfl h4) rfl ?_
   refine c0_ rfl rfl (r_pickF h4) rfl rfl ?_
   refine c0_ rfl rfl .move rfl rfl ?_
   refine c0_ (gdv_t rfl rfl rfl) rfl .move rfl rfl ?_
   refine c0_ (gdv_t rfl rfl rfl) rfl r_eql rfl rfl ?_
   refine c0_ (gdv_t rfl rfl rfl) rfl .move rfl rfl ?_
   rcases Bool.eq_false_or_eq_true (decide (x_1 = 0)) with h16 | h16
   ·replace hg := cond_t h16 hg
    refine c0_ (gdv_t rfl rfl h16) rfl .move rfl rfl ?_
    obtain ⟨e_3, he_3, hg⟩ := bind_some hg
    refine ch_s (rd := [1]) (gdv_t rfl rfl h16) rfl (r_idxR sl82 e8_len (getI_ix he_3) (getI_at he_3)) rfl rfl ?_
    refine ch_s (rd := [1]) (gdv_t rfl rfl h16) rfl (.loadR1 ty5 (enc_cell e8_len (getI_at he_3) (o := 0) (c := .int .u8 (e_3.toNat : Int)) rfl rfl)) rfl rfl ?_
    refine c0_ (gdv_t rfl rfl h16) rfl r_geq rfl rfl ?_
    refine c0_ (gdv_t rfl rfl rfl) rfl (r_pickT h16) rfl rfl ?_
    refine c0_ rfl rfl (r_pickF rfl) rfl rfl ?_
    refine c0_ rfl rfl .move rfl rfl ?_
    rcases Bool.eq_false_or_eq_true (decide (128 ≤ (e_3.toNat : Int))) with h17 | h17
    ·replace hg := cond_t h17 hg
     iterate 3 refine ch_skip (gdv_f rfl rfl h17) rfl ?_
     iterate 4 refine ch_skip rfl rfl ?_
     refine ch_skip (gdv_f rfl rfl h17) rfl ?_
     refine c0_ rfl rfl (r_pickT h17) rfl rfl ?_
     refine ch_n fun hU210_18 => ?_
     exact ⟨true, hg, Sub.lists [(0, 0), (1, 1)] rfl rfl ⟨⟨_, rfl, .ptr rfl⟩, ⟨_, rfl, .row rfl⟩, ⟨_, rfl, .val _⟩, ⟨_, rfl, .val _⟩, trivial⟩ ⟨.inl ⟨0, _, rfl, rfl, ⟨rfl, .cons (.val _) (.cons (.val _) (.cons (.val _) (.cons (.val _) .nil)))⟩⟩, .inl ⟨1, _, rfl, rfl, ⟨rfl, rfl, rfl⟩⟩, trivial⟩⟩
    ·replace hg := cond_f h17 hg
     refine c0_ (gdv_t rfl rfl h17) rfl .move rfl rfl ?_
     refine c0_ (gdv_t rfl rfl h17) rfl r_eql rfl rfl ?_
     refine c0_ (gdv_t rfl rfl h17) rfl .move rfl rfl ?_
     rcases Bool.eq_false_or_eq_true (decide (x_1 = (-1))) with h19 | h19
     ·replace hg := cond_t h19 hg
      refine c0_ (gdv_t rfl rfl h19) rfl .move rfl rfl ?_
      refine ch_s (rd := [1]) (gdv_t rfl rfl h19) rfl (r_idxR sl82 e8_len (getI_ix he_3) (getI_at he_3)) rfl rfl ?_
      refine ch_s (rd := [1]) (gdv_t rfl rfl h19) rfl (.loadR1 ty5 (enc_cell e8_len (getI_at he_3) (o := 0) (c := .int .u8 (e_3.toNat : Int)) rfl rfl)) rfl rfl ?_
      refine c0_ (gdv_t rfl rfl h19) rfl r_lss rfl rfl ?_
      refine c0_ (gdv_t rfl rfl h17) rfl (r_pickT h19) rfl rfl ?_
      refine c0_ rfl rfl (r_pickF h17) rfl rfl ?_
      refine ch_n fun hU210_20 => ?_
      exact ⟨decide ((e_3.toNat : Int) < 128), hg, Sub.lists [(0, 0), (1, 1)] rfl rfl ⟨⟨_, rfl, .ptr rfl⟩, ⟨_, rfl, .row rfl⟩, ⟨_, rfl, .val _⟩, ⟨_, rfl, .val _⟩, trivial⟩ ⟨.inl ⟨0, _, rfl, rfl, ⟨rfl, .cons (.val _) (.cons (.val _) (.cons (.val _) (.cons (.val _) .nil)))⟩⟩, .inl ⟨1, _, rfl, rfl, ⟨rfl, rfl, rfl⟩⟩, trivial⟩⟩
     ·replace hg := cond_f h19 hg
      iterate 4 refine ch_skip (gdv_f rfl rfl h19) rfl ?_
      refine c0_ (gdv_t rfl rfl h17) rfl (r_pickF h19) rfl rfl ?_
      refine c0_ rfl rfl (r_pickF h17) rfl rfl ?_
      refine ch_n fun hU210_21 => ?_
      exact ⟨false, hg, Sub.lists [(0, 0), (1, 1)] rfl rfl ⟨⟨_, rfl, .ptr rfl⟩, ⟨_, rfl, .row rfl⟩, ⟨_, rfl, .val _⟩, ⟨_, rfl, .val _⟩, trivial⟩ ⟨.inl ⟨0, _, rfl, rfl, ⟨rfl, .cons (.val _) (.cons (.val _) (.cons (.val _) (.cons (.val _) .nil)))⟩⟩, .inl ⟨1, _, rfl, rfl, ⟨rfl, rfl, rfl⟩⟩, trivial⟩⟩
   ·replace hg := cond_f h16 hg
    iterate 4 refine ch_skip (gdv_f rfl rfl h16) rfl ?_
    refine c0_ (gdv_t rfl rfl rfl) rfl (r_pickF h16) rfl rfl ?_
    refine c0_ rfl rfl (r_pickF rfl) rfl rfl ?_
    refine c0_ rfl rfl .move rfl rfl ?_
    refine c0_ (gdv_t rfl rfl rfl) rfl .move rfl rfl ?_
    refine c0_ (gdv_t rfl rfl rfl) rfl r_eql rfl rfl ?_
    refine c0_ (gdv_t rfl rfl rfl) rfl .move rfl rfl ?_
    rcases Bool.eq_false_or_eq_true (decide (x_1 = (-1))) with h22 | h22
    ·replace hg := cond_t h22 hg
     refine c0_ (gdv_t rfl rfl h22) rfl .move rfl rfl ?_
     obtain ⟨e_4, he_4, hg⟩ := bind_some hg
     refine ch_s (rd := [1]) (gdv_t rfl rfl h22) rfl (r_idxR sl82 e8_len (getI_ix he_4) (getI_at he_4)) rfl rfl ?_
     refine ch_s (rd := [1]) (gdv_t rfl rfl h22) rfl (.loadR1 ty5 (enc_cell e8_len (getI_at he_4) (o := 0) (c := .int .u8 (e_4.toNat : Int)) rfl rfl)) rfl rfl ?_
     refine c0_ (gdv_t rfl rfl h22) rfl r_lss rfl rfl ?_
     refine c0_ (gdv_t rfl rfl rfl) rfl (r_pickT h22) rfl rfl ?_
     refine c0_ rfl rfl (r_pickF rfl) rfl rfl ?_
     refine ch_n fun hU210_23 => ?_
     exact ⟨decide ((e_4.toNat : Int) < 128), hg, Sub.lists [(0, 0), (1, 1)] rfl rfl ⟨⟨_, rfl, .ptr rfl⟩, ⟨_, rfl, .row rfl⟩, ⟨_, rfl, .val _⟩, ⟨_, rfl, .val _⟩, trivial⟩ ⟨.inl ⟨0, _, rfl, rfl, ⟨rfl, .cons (.val _) (.cons (.val _) (.cons (.val _) (.cons (.val _) .nil)))⟩⟩, .inl ⟨1, _, rfl, rfl, ⟨rfl, rfl, rfl⟩⟩, trivial⟩⟩
    ·replace hg := cond_f h22 hg
     iterate 4 refine ch_skip (gdv_f rfl rfl h22) rfl ?_
     refine c0_ (gdv_t rfl rfl rfl) rfl (r_pickF h22) rfl rfl ?_
     refine c0_ rfl rfl (r_pickF rfl) rfl rfl ?_
     refine ch_n fun hU210_24 => ?_
     exact ⟨false, hg, Sub.lists [(0, 0), (1, 1)] rfl rfl ⟨⟨_, rfl, .ptr rfl⟩, ⟨_, rfl, .row rfl⟩, ⟨_, rfl, .val _⟩, ⟨_, rfl, .val _⟩, trivial⟩ ⟨.inl ⟨0, _, rfl, rfl, ⟨rfl, .cons (.val _) (.cons (.val _) (.cons (.val _) (.cons (.val _) .nil)))⟩⟩, .inl ⟨1, _, rfl, rfl, ⟨rfl, rfl, rfl⟩⟩, trivial⟩⟩
 ·rintro x35_2 hg
  replace hg : g_ref01_Int.j2 x_1 b_1 x35_2 = some o1 := hg
  show awp _ _ _ _ (mk _ _ _)
  unfold g_ref01_Int.j2 at hg
  refine awp_cond rfl (fun h25 => ?_) (fun h25 => ?_)
  ·replace hg := cond_t h25 hg
   refine aw_s ?_
   refine awp_seq ?_
   refine awp_block ?_
   refine awp_region (sys _ _ []) 2 50 mk_U rfl rfl ?_
   refine c0_ rfl rfl .move rfl rfl ?_
   refine c0_ rfl rfl (r_conv_u8 und3 und5) rfl rfl ?_
   refine c0_ rfl rfl (r_buildFull sl82 z5 (by decide) rfl rfl rfl rfl ck5 (cs := [.int .u8 ((u8 x_1).toNat : Int)]) (.cons .int .nil) rfl (l := ([(u8 x_1)] : List UInt8)) (f := e8) rfl) rfl rfl ?_
   refine c0_ rfl rfl .move rfl rfl ?_
   obtain ⟨l, hl, hg⟩ := bind_some hg
   refine ch_s (rd := [18, 1]) rfl rfl (r_append sl82 e8_len .row rfl .row rfl hl rfl) rfl rfl ?_
   refine c0_ rfl rfl .assign rfl rfl ?_
   refine ch_n fun hU50_26 => ?_
   refine awp_region (sys _ _ []) 50 74 hU50_26 rfl rfl ?_
   refine c0_ rfl rfl .move rfl rfl ?_
   obtain ⟨q_2, hq_2, hg⟩ := bind_some hg
   refine c0_ rfl rfl (r_shrK hq_2) rfl rfl ?_
   refine c0_ rfl rfl .assign rfl rfl ?_
   refine ch_n fun hU74_27 => ?_
   obtain rfl := Option.some.inj hg
   exact ⟨((q_2, l), m1), Nat.lt_succ_self _, hn1, Sub.lists [(0, 0), (1, 34)] rfl rfl ⟨⟨_, rfl, .ptr rfl⟩, ⟨_, rfl, .row rfl⟩, ⟨_, rfl, .val _⟩, trivial⟩ ⟨.inl ⟨0, _, rfl, rfl, ⟨rfl, .cons (.val _) (.cons (.val _) (.cons (.val _) (.cons (.val _) .nil)))⟩⟩, .inl ⟨34, _, rfl, rfl, ⟨rfl, rfl, rfl⟩⟩, trivial⟩⟩
  ·replace hg := cond_f h25 hg
   refine awp_exit ?_
   repeat first | refine st_ ?_ | refine sn_ ?_
   replace hg := leave hg hn1
   refine sr_ 2 26 mk_U ?_
   refine c0_ rfl rfl .move rfl rfl ?_
   refine c0_ rfl rfl (.build (r := [.val (.int .i64 2), .row 1, .val (.bool false), .val (.slice none 0 0)]) und97 pl97 z97 (by kernel_rfl) rfl) rfl rfl ?_
   refine ch_s (rd := [0]) rfl rfl (r_storeB (ds' := [.val (.int .i64 2), .row 1, .val (.bool false), .val (.slice none 0 0)]) ty97 rfl (Nat.le_of_ble_eq_true rfl) rfl rfl) rfl rfl ?_
   refine ch_n fun hU26_28 => ?_
   refine aw_r ?_
   obtain rfl := Option.some.inj hg
   exact ⟨[_], _, [], [], .cons (.cellA rfl rfl ty97 rfl) .nil, ⟨rfl, rfl⟩, .agg (.cons (.val _) (.cons (.frz rfl (look_ne rfl)) (.cons (.val _) (.cons (.nils _) .nil)))), trivial, rfl, rfl, rfl, rfl⟩
theorem w_ref01_copies.F (rec : (List api_Value) → Option ((List api_Value))) (hrec : ∀ (l : (List api_Value)) (r : (List api_Value)), rec l = some r → Fn Try.prog 89 0 [.sl 4 (encL api_Value.enc l)] [] (fun d b => d = .sl 4 (encL api_Value.enc r) ∧ b = [])) (l : (List api_Value)) (r : (List api_Value)) (hg : g_ref01_copies.F rec l = some r) : Fn Try.prog 89 0 [.sl 4 (encL api_Value.enc l)] [] (fun d b => d = .sl 4 (encL api_Value.enc r) ∧ b = []) := by
 unfold g_ref01_copies.F at hg
 refine Fn.of Try.func89 rfl rfl rfl fun w0 I ρ0 => ?_
 show awp _ ⟨w0, I, ρ0, 0, 0, 30⟩ _ _ _
 refine sr_ 0 8 mk_U ?_
 refine c0_ rfl rfl .assign rfl rfl ?_
 refine ch_n fun hU8_1 => ?_
 refine sr_ 8 16 hU8_1 ?_
 refine c0_ rfl rfl .assign rfl rfl ?_
 refine ch_n fun hU16_2 => ?_
 refine awp_seq ?_
 refine sr_ 16 24 hU16_2 ?_
 refine c0_ rfl rfl .assign rfl rfl ?_
 refine ch_n fun hU24_3 => ?_
 refine awp_block ?_
 obtain ⟨n1, hg⟩ := loop_some hg
 refine awp_loop (ι := (Int × List api_Value) × Nat) (fun (((i_1, out_1), _) : (Int × List api_Value) × Nat) => mk [(0, .sl 4 (encL api_Value.enc l)), (3, .row 0), (4, .val (.int .i64 i_1))] [(0, .row 97 4 (encL api_Value.enc out_1))] 1) (fun (((i_1, out_1), nq') : (Int × List api_Value) × Nat) => iter (fun q' => g_ref01_copies.l1 rec l q'.1 q'.2) nq' (i_1, out_1) = some r) (fun q => q.2) ((0, ([] : List api_Value)), n1) (Sub.lists [] rfl rfl ⟨⟨_, rfl, .sl _ _⟩, ⟨_, rfl, .nil rfl⟩, ⟨_, rfl, .val _⟩, trivial⟩ ⟨.inr ⟨rfl, _, _, rfl⟩, trivial⟩) hg ?_
 rintro ⟨⟨i_1, out_1⟩, n1⟩ hg
 obtain ⟨m1, o1, rfl, hg, hn1⟩ := iter_some (show iter (fun q' => g_ref01_copies.l1 rec l q'.1 q'.2) n1 (i_1, out_1) = some r from hg)
 replace hg : g_ref01_copies.l1 rec l i_1 out_1 = some o1 := hg
 show awp _ _ _ _ (mk _ _ _)
 unfold g_ref01_copies.l1 at hg
 refine awp_seq ?_
 refine sr_ 1 33 mk_U ?_
 refine c0_ rfl rfl .move rfl rfl ?_
 refine c0_ rfl rfl .move rfl rfl ?_
 refine c0_ rfl rfl (r_lenS sl95 api_Value.enc_len) rfl rfl ?_
 refine c0_ rfl rfl r_lss rfl rfl ?_
 refine ch_n fun hU33_4 => ?_
 refine awp_cond rfl (fun h5 => ?_) (fun h5 => ?_)
 ·replace hg := cond_t h5 hg
  refine aw_s ?_
  refine awp_seq ?_
  refine awp_block ?_
  refine sr_ 33 81 hU33_4 ?_
  refine c0_ rfl rfl .move rfl rfl ?_
  refine c0_ rfl rfl .move rfl rfl ?_
  obtain ⟨e, he, hg⟩ := bind_some hg
  refine c0_ rfl rfl (r_idxS sl95 api_Value.enc_len (getI_ix he) (getI_at he)) rfl rfl ?_
  refine c0_ rfl rfl (r_loadEA ty97 (enc_cells api_Value.enc_len (getI_at he) (o := 0) (m := 4) (cs := [.int .i64 e.Tag, .sl 1 (encL e8 e.Bytes), .bool e.Nested, .sl 4 (encL api_Value.enc e.Elements)]) (by simp only [api_Value.enc_eq]; rfl) (by decide) rfl) (enc_cells_le api_Value.enc_len (getI_at he) (o := 0) (m := 4) (by decide) rfl)) rfl rfl ?_
  refine c0_ rfl rfl (.alloc z97) rfl rfl ?_
  refine ch_s (rd := [65]) rfl rfl (r_storeB (ds' := [.val (.int .i64 e.Tag), .sl 1 (encL e8 e.Bytes), .val (.bool e.Nested), .sl 4 (encL api_Value.enc e.Elements)]) ty97 rfl (Nat.le_of_ble_eq_true rfl) rfl rfl) rfl rfl ?_
  refine ch_n fun hU81_6 => ?_
  refine sr_ 81 129 hU81_6 ?_
  refine c0_ rfl rfl (r_buildFull sl82 z5 (by decide) rfl rfl rfl rfl ck5 (cs := []) .nil rfl (l := ([] : List UInt8)) (f := e8) rfl) rfl rfl ?_
  refine c0_ rfl rfl (.fieldP fd97_1 ty82 (by decide)) rfl rfl ?_
  refine ch_s (rd := [65]) rfl rfl (.loadB1 ty82 rfl) rfl rfl ?_
  obtain ⟨l_2, hl_2, hg⟩ := bind_some hg
  refine ch_s (rd := [81]) rfl rfl (r_append sl82 e8_len .row rfl .sl rfl hl_2 rfl) rfl rfl ?_
  refine c0_ rfl rfl (.fieldP fd97_1 ty82 (by decide)) rfl rfl ?_
  refine ch_s (rd := [65, 105]) rfl rfl (r_storeB (ds' := [.val (.int .i64 e.Tag), .row 105, .val (.bool e.Nested), .sl 4 (encL api_Value.enc e.Elements)]) ty82 rfl (Nat.le_of_ble_eq_true rfl) rfl rfl) rfl rfl ?_
  refine ch_n fun hU129_7 => ?_
  refine sr_ 129 169 hU129_7 ?_
  refine c0_ rfl rfl (.fieldP fd97_3 ty95 (by decide)) rfl rfl ?_
  refine ch_s (rd := [65]) rfl rfl (.loadB1 ty95 rfl) rfl rfl ?_
  obtain ⟨y, hy, hg⟩ := bind_some hg
  refine ch_callP (rd := []) (ps := []) (gs := []) false rfl (hrec e.Elements _ hy) rfl rfl (.cons .sl .nil) rfl rfl (by intro h; cases h) rfl rfl rfl rfl ?_
  refine c0_ rfl rfl (.fieldP fd97_3 ty95 (by decide)) rfl rfl ?_
  refine ch_s (rd := [65]) rfl rfl (r_storeB (ds' := [.val (.int .i64 e.Tag), .row 105, .val (.bool e.Nested), .sl 4 (encL api_Value.enc y)]) ty95 rfl (Nat.le_of_ble_eq_true rfl) rfl rfl) rfl rfl ?_
  refine ch_n fun hU169_8 => ?_
  refine awp_sub (σ' := mk [(0, .sl 4 (encL api_Value.enc l)), (3, .row 0), (4, .val (.int .i64 i_1)), (5, .ptr 1 0)] [(0, .row 97 4 (encL api_Value.enc out_1)), (1, .box [.val (.int .i64 e.Tag), .sl 1 (encL e8 l_2), .val (.bool e.Nested), .sl 4 (encL api_Value.enc y)] 97)] 2) (Sub.lists [(0, 0), (1, 65)] rfl rfl ⟨⟨_, rfl, .sl _ _⟩, ⟨_, rfl, .row rfl⟩, ⟨_, rfl, .val _⟩, ⟨_, rfl, .ptr rfl⟩, trivial⟩ ⟨.inl ⟨0, _, rfl, rfl, ⟨rfl, rfl, rfl⟩⟩, .inl ⟨65, _, rfl, rfl, ⟨rfl, .cons (.val _) (.cons (.frz rfl (look_ne rfl)) (.cons (.val _) (.cons (.sl _ _) .nil)))⟩⟩, trivial⟩) ?_
  refine awp_region (sys _ _ []) 2 42 mk_U rfl rfl ?_
  refine c0_ rfl rfl .move rfl rfl ?_
  refine ch_s (rd := [1]) rfl rfl (.loadBA ty97 (Nat.le_of_ble_eq_true rfl)) rfl rfl ?_
  refine c0_ rfl rfl (r_buildFull sl95 z97 (by decide) rfl rfl rfl rfl ck97 (cs := [.int .i64 e.Tag, .sl 1 (encL e8 l_2), .bool e.Nested, .sl 4 (encL api_Value.enc y)]) (.cons .int (.cons .sl (.cons .bool (.cons .sl .nil)))) rfl (l := ([(api_Value.mk e.Tag l_2 e.Nested y)] : List api_Value)) (f := api_Value.enc) (by simp only [encL, List.flatMap_cons, List.flatMap_nil, api_Value.enc_eq]; rfl)) rfl rfl ?_
  obtain ⟨l_3, hl_3, hg⟩ := bind_some hg
  refine ch_s (rd := [0, 18]) rfl rfl (r_append sl95 api_Value.enc_len .row rfl .row rfl hl_3 rfl) rfl rfl ?_
  refine c0_ rfl rfl .assign rfl rfl ?_
  refine ch_n fun hU42_9 => ?_
  refine awp_region (sys _ _ []) 42 66 hU42_9 rfl rfl ?_
  refine c0_ rfl rfl .move rfl rfl ?_
  refine c0_ rfl rfl r_add rfl rfl ?_
  refine c0_ rfl rfl .assign rfl rfl ?_
  refine ch_n fun hU66_10 => ?_
  obtain rfl := Option.some.inj hg
  exact ⟨((W (i_1 + 1), l_3), m1), Nat.lt_succ_self _, hn1, Sub.lists [(0, 26)] rfl rfl ⟨⟨_, rfl, .sl _ _⟩, ⟨_, rfl, .row rfl⟩, ⟨_, rfl, .val _⟩, trivial⟩ ⟨.inl ⟨26, _, rfl, rfl, ⟨rfl, rfl, rfl⟩⟩, trivial⟩⟩
 ·replace hg := cond_f h5 hg
  refine awp_exit ?_
  repeat first | refine st_ ?_ | refine sn_ ?_
  replace hg := leave hg hn1
  refine sr_ 33 49 hU33_4 ?_
  refine c0_ rfl rfl .move rfl rfl ?_
  refine c0_ rfl rfl .assign rfl rfl ?_
  refine ch_n fun hU49_11 => ?_
  refine aw_r ?_
  obtain rfl := Option.some.inj hg
  exact ⟨[_], _, [], [], .cons (.tmp rfl) .nil, ⟨rfl, rfl⟩, .frz rfl (look_ne rfl), trivial, rfl, rfl, rfl, rfl⟩
theorem w_ref01_copies (l : (List api_Value)) (r : (List api_Value)) (hg : g_ref01_copies l = some r) : Fn Try.prog 89 0 [.sl 4 (encL api_Value.enc l)] [] (fun d b => d = .sl 4 (encL api_Value.enc r) ∧ b = []) :=
 fixT_ind (motive := fun (x : (List api_Value)) (r : (List api_Value)) => Fn Try.prog 89 0 [.sl 4 (encL api_Value.enc x)] [] (fun d b => d = .sl 4 (encL api_Value.enc r) ∧ b = [])) (fun rec hrec x r h => w_ref01_copies.F _ (fun l r h => hrec l r h) x r h) l r hg
theorem w_ref01_List (l : (List api_Value)) (r : api_Value) (hg : g_ref01_List l = some r) : Fn Try.prog 76 0 [.sl 4 (encL api_Value.enc l)] [] (fun d b => d = .agg [.val (.int .i64 r.Tag), .sl 1 (encL e8 r.Bytes), .val (.bool r.Nested), .sl 4 (encL api_Value.enc r.Elements)] ∧ b = []) := by
 unfold g_ref01_List at hg
 refine Fn.of Try.func76 rfl rfl rfl fun w0 I ρ0 => ?_
 show awp _ ⟨w0, I, ρ0, 0, 0, 6⟩ _ _ _
 refine sr_ 0 8 mk_U ?_
 refine c0_ rfl rfl (.alloc z97) rfl rfl ?_
 refine ch_n fun hU8_1 => ?_
 refine sr_ 8 40 hU8_1 ?_
 refine c0_ rfl rfl .move rfl rfl ?_
 obtain ⟨y, hy, hg⟩ := bind_some hg
 refine ch_callP (rd := []) (ps := []) (gs := []) false rfl (w_ref01_copies l _ hy) rfl rfl (.cons .sl .nil) rfl rfl (by intro h; cases h) rfl rfl rfl rfl ?_
 refine c0_ rfl rfl (.build (r := [.val (.int .i64 48), .val (.slice none 0 0), .val (.bool true), .sl 4 (encL api_Value.enc y)]) und97 pl97 z97 (by kernel_rfl) rfl) rfl rfl ?_
 refine ch_s (rd := [0]) rfl rfl (r_storeB (ds' := [.val (.int .i64 48), .val (.slice none 0 0), .val (.bool true), .sl 4 (encL api_Value.enc y)]) ty97 rfl (Nat.le_of_ble_eq_true rfl) rfl rfl) rfl rfl ?_
 refine ch_n fun hU40_2 => ?_
 refine aw_r ?_
 obtain rfl := Option.some.inj hg
 exact ⟨[_], _, [], [], .cons (.cellA rfl rfl ty97 rfl) .nil, ⟨rfl, rfl⟩, .agg (.cons (.val _) (.cons (.nils _) (.cons (.val _) (.cons (.sl _ _) .nil)))), trivial, rfl, rfl, rfl, rfl⟩
theorem w_ref03_use (u : api_Use) (r : api_Value) (hg : g_ref03_use u = some r) : Fn Try.prog 78 0 [.agg [.val (.int .i64 u.Alg), .val (.int .i64 u.Bits)]] [] (fun d b => d = .agg [.val (.int .i64 r.Tag), .sl 1 (encL e8 r.Bytes), .val (.bool r.Nested), .sl 4 (encL api_Value.enc r.Elements)] ∧ b = []) := by
 unfold g_ref03_use at hg
 refine Fn.of Try.func78 rfl rfl rfl fun w0 I ρ0 => ?_
 show awp _ ⟨w0, I, ρ0, 0, 0, 11⟩ _ _ _
 refine sr_ 0 16 mk_U ?_
 refine c0_ rfl rfl (.box rfl) rfl rfl ?_
 refine c0_ rfl rfl (.alloc z97) rfl rfl ?_
 refine ch_n fun hU16_1 => ?_
 refine awp_seq ?_
 refine awp_draw (sys _ _ [64]) (by kernel_rfl) [0, 1, 3, 0, 8, 31, 63, 127, 255] 16 88 hU16_1 rfl rfl (by kernel_rfl) ?_
 refine c0_ rfl rfl (.fieldP fd40_0 ty3 (by decide)) rfl rfl ?_
 refine ch_s (rd := [0]) rfl rfl (.loadB1 ty3 rfl) rfl rfl ?_
 obtain ⟨y, hy, hg⟩ := bind_some hg
 refine ch_callP (rd := []) (ps := []) (gs := []) false rfl (w_ref01_Int u.Alg _ hy) rfl rfl (.cons .val .nil) rfl rfl (by intro h; cases h) rfl rfl rfl rfl ?_
 refine c0_ rfl rfl (.fieldP fd40_1 ty3 (by decide)) rfl rfl ?_
 refine ch_s (rd := [0]) rfl rfl (.loadB1 ty3 rfl) rfl rfl ?_
 obtain ⟨y_2, hy_2, hg⟩ := bind_some hg
 refine ch_callP (rd := []) (ps := []) (gs := []) false rfl (w_ref01_Int u.Bits _ hy_2) rfl rfl (.cons .val .nil) rfl rfl (by intro h; cases h) rfl rfl rfl rfl ?_
 refine ch_z (rd := []) rfl rfl (r_buildFull sl95 z97 (by decide) rfl rfl rfl rfl ck97 (cs := [.int .i64 y.Tag, .sl 1 (encL e8 y.Bytes), .bool y.Nested, .sl 4 (encL api_Value.enc y.Elements), .int .i64 y_2.Tag, .sl 1 (encL e8 y_2.Bytes), .bool y_2.Nested, .sl 4 (encL api_Value.enc y_2.Elements)]) (.cons .int (.cons .sl (.cons .bool (.cons .sl (.cons .int (.cons .sl (.cons .bool (.cons .sl .nil)))))))) rfl (l := ([y, y_2] : List api_Value)) (f := api_Value.enc) (by simp only [encL, List.flatMap_cons, List.flatMap_nil, api_Value.enc_eq]; rfl)) rfl rfl rfl ?_
 obtain ⟨y_3, hy_3, hg⟩ := bind_some hg
 refine ch_callP (rd := []) (ps := []) (gs := []) false rfl (w_ref01_List ([y, y_2] : List api_Value) _ hy_3) rfl rfl (.cons .sl .nil) rfl rfl (by intro h; cases h) rfl rfl rfl rfl ?_
 refine ch_s (rd := [8]) rfl rfl (r_storeB (ds' := [.val (.int .i64 y_3.Tag), .sl 1 (encL e8 y_3.Bytes), .val (.bool y_3.Nested), .sl 4 (encL api_Value.enc y_3.Elements)]) ty97 rfl (Nat.le_of_ble_eq_true rfl) rfl rfl) rfl rfl ?_
 refine ch_n fun hU88_2 => ?_
 refine aw_r ?_
 obtain rfl := Option.some.inj hg
 exact ⟨[_], _, [], [], .cons (.cellA rfl rfl ty97 rfl) .nil, ⟨rfl, rfl⟩, .agg (.cons (.val _) (.cons (.sl _ _) (.cons (.val _) (.cons (.sl _ _) .nil)))), trivial, rfl, rfl, rfl, rfl⟩
theorem w_ref01_Bool (b : Bool) (r : api_Value) (hg : g_ref01_Bool b = some r) : Fn Try.prog 79 0 [.val (.bool b)] [] (fun d b => d = .agg [.val (.int .i64 r.Tag), .sl 1 (encL e8 r.Bytes), .val (.bool r.Nested), .sl 4 (encL api_Value.enc r.Elements)] ∧ b = []) := by
 unfold g_ref01_Bool at hg
 refine Fn.of Try.func79 rfl rfl rfl fun w0 I ρ0 => ?_
 show awp _ ⟨w0, I, ρ0, 0, 0, 8⟩ _ _ _
 refine sr_ 0 8 mk_U ?_
 refine c0_ rfl rfl (.alloc z97) rfl rfl ?_
 refine ch_n fun hU8_1 => ?_
 refine awp_seq ?_
 refine sr_ 8 16 hU8_1 ?_
 refine c0_ rfl rfl .move rfl rfl ?_
 refine ch_n fun hU16_2 => ?_
 refine awp_cond rfl (fun h3 => ?_) (fun h3 => ?_)
 ·replace hg := cond_t h3 hg
  refine sr_ 16 40 hU16_2 ?_
  refine c0_ rfl rfl (r_buildFull sl82 z5 (by decide) rfl rfl rfl rfl ck5 (cs := [.int .u8 255]) (.cons .int .nil) rfl (l := ([(255 : UInt8)] : List UInt8)) (f := e8) rfl) rfl rfl ?_
  refine c0_ rfl rfl (.build (r := [.val (.int .i64 1), .row 16, .val (.bool false), .val (.slice none 0 0)]) und97 pl97 z97 (by kernel_rfl) rfl) rfl rfl ?_
  refine ch_s (rd := [0]) rfl rfl (r_storeB (ds' := [.val (.int .i64 1), .row 16, .val (.bool false), .val (.slice none 0 0)]) ty97 rfl (Nat.le_of_ble_eq_true rfl) rfl rfl) rfl rfl ?_
  refine ch_n fun hU40_4 => ?_
  refine aw_r ?_
  obtain rfl := Option.some.inj hg
  exact ⟨[_], _, [], [], .cons (.cellA rfl rfl ty97 rfl) .nil, ⟨rfl, rfl⟩, .agg (.cons (.val _) (.cons (.frz rfl (look_ne rfl)) (.cons (.val _) (.cons (.nils _) .nil)))), trivial, rfl, rfl, rfl, rfl⟩
 ·replace hg := cond_f h3 hg
  refine aw_s ?_
  refine sr_ 16 40 hU16_2 ?_
  refine c0_ rfl rfl (r_buildFull sl82 z5 (by decide) rfl rfl rfl rfl ck5 (cs := [.int .u8 0]) (.cons .int .nil) rfl (l := ([(0 : UInt8)] : List UInt8)) (f := e8) rfl) rfl rfl ?_
  refine c0_ rfl rfl (.build (r := [.val (.int .i64 1), .row 16, .val (.bool false), .val (.slice none 0 0)]) und97 pl97 z97 (by kernel_rfl) rfl) rfl rfl ?_
  refine ch_s (rd := [0]) rfl rfl (r_storeB (ds' := [.val (.int .i64 1), .row 16, .val (.bool false), .val (.slice none 0 0)]) ty97 rfl (Nat.le_of_ble_eq_true rfl) rfl rfl) rfl rfl ?_
  refine ch_n fun hU40_5 => ?_
  refine aw_r ?_
  obtain rfl := Option.some.inj hg
  exact ⟨[_], _, [], [], .cons (.cellA rfl rfl ty97 rfl) .nil, ⟨rfl, rfl⟩, .agg (.cons (.val _) (.cons (.frz rfl (look_ne rfl)) (.cons (.val _) (.cons (.nils _) .nil)))), trivial, rfl, rfl, rfl, rfl⟩
theorem w_ref03_body (c : api_Certificate) (r : api_Value) (hg : g_ref03_body c = some r) : Fn Try.prog 62 0 [.agg [.val (.int .i64 c.Serial), .val (.string c.Issuer), .val (.string c.Subject), .val (.int .i64 c.Key.Alg), .val (.int .i64 c.Key.Bits), .val (.int .i64 c.KeyId), .val (.int .i64 c.Hash.Alg), .val (.int .i64 c.Hash.Bits), .val (.int .i64 c.From), .val (.int .i64 c.To), .val (.bool c.Authority), .val (.int .i64 c.Path), .sl 1 (encL eS c.Names), .val (.int .i64 c.Seal.Key), .val (.int .i64 c.Seal.Sum)]] [] (fun d b => d = .agg [.val (.int .i64 r.Tag), .sl 1 (encL e8 r.Bytes), .val (.bool r.Nested), .sl 4 (encL api_Value.enc r.Elements)] ∧ b = []) := by
 unfold g_ref03_body at hg
 refine Fn.of Try.func62 rfl rfl rfl fun w0 I ρ0 => ?_
 show awp _ ⟨w0, I, ρ0, 0, 0, 55⟩ _ _ _
 refine sr_ 0 16 mk_U ?_
 refine c0_ rfl rfl (.box rfl) rfl rfl ?_
 refine c0_ rfl rfl (.alloc z97) rfl rfl ?_
 refine ch_n fun hU16_1 => ?_
 refine sr_ 16 24 hU16_1 ?_
 refine c0_ rfl rfl .assign rfl rfl ?_
 refine ch_n fun hU24_2 => ?_
 refine awp_seq ?_
 refine sr_ 24 32 hU24_2 ?_
 refine c0_ rfl rfl .assign rfl rfl ?_
 refine ch_n fun hU32_3 => ?_
 refine awp_block ?_
 obtain ⟨n1, hg⟩ := loop_some hg
 refine awp_loop (ι := (Int × List api_Value) × Nat) (fun (((i_1, names_1), _) : (Int × List api_Value) × Nat) => mk [(1, .ptr 0 0), (2, .ptr 1 0), (3, .row 2), (4, .val (.int .i64 i_1))] [(0, .box [.val (.int .i64 c.Serial), .val (.string c.Issuer), .val (.string c.Subject), .val (.int .i64 c.Key.Alg), .val (.int .i64 c.Key.Bits), .val (.int .i64 c.KeyId), .val (.int .i64 c.Hash.Alg), .val (.int .i64 c.Hash.Bits), .val (.int .i64 c.From), .val (.int .i64 c.To), .val (.bool c.Authority), .val (.int .i64 c.Path), .sl 1 (encL eS c.Names), .val (.int .i64 c.Seal.Key), .val (.int .i64 c.Seal.Sum)] 45), (1, .box [.val (.int .i64 0), .val (.slice none 0 0), .val (.bool false), .val (.slice none 0 0)] 97), (2, .row 97 4 (encL api_Value.enc names_1))] 3) (fun (((i_1, names_1), nq') : (Int × List api_Value) × Nat) => iter (fun q' => g_ref03_body.l1 c q'.1 q'.2) nq' (i_1, names_1) = some r) (fun q => q.2) ((0, ([] : List api_Value)), n1) (Sub.lists [(0, 0), (1, 8)] rfl rfl ⟨⟨_, rfl, .ptr rfl⟩, ⟨_, rfl, .ptr rfl⟩, ⟨_, rfl, .nil rfl⟩, ⟨_, rfl, .val _⟩, trivial⟩ ⟨.inl ⟨0, _, rfl, rfl, ⟨rfl, .cons (.val _) (.cons (.val _) (.cons (.val _) (.cons (.val _) (.cons (.val _) (.cons (.val _) (.cons (.val _) (.cons (.val _) (.cons (.val _) (.cons (.val _) (.cons (.val _) (.cons (.val _) (.cons (.sl _ _) (.cons (.val _) (.cons (.val _) .nil))))))))))))))⟩⟩, .inl ⟨8, _, rfl, rfl, ⟨rfl, .cons (.val _) (.cons (.val _) (.cons (.val _) (.cons (.val _) .nil)))⟩⟩, .inr ⟨rfl, _, _, rfl⟩, trivial⟩) hg ?_
 rintro ⟨⟨i_1, names_1⟩, n1⟩ hg
 obtain ⟨m1, o1, rfl, hg, hn1⟩ := iter_some (show iter (fun q' => g_ref03_body.l1 c q'.1 q'.2) n1 (i_1, names_1) = some r from hg)
 replace hg : g_ref03_body.l1 c i_1 names_1 = some o1 := hg
 show awp _ _ _ _ (mk _ _ _)
 unfold g_ref03_body.l1 at hg
 refine awp_seq ?_
 refine sr_ 3 43 mk_U ?_
 refine c0_ rfl rfl .move rfl rfl ?_
 refine c0_ rfl rfl (.fieldP fd45_10 ty41 (by decide)) rfl rfl ?_
 refine ch_s (rd := [0]) rfl rfl (.loadB1 ty41 rfl) rfl rfl ?_
 refine c0_ rfl rfl (r_lenS sl41 eS_len) rfl rfl ?_
 refine c0_ rfl rfl r_lss rfl rfl ?_
 refine ch_n fun hU43_4 => ?_
 refine awp_cond rfl (fun h5 => ?_) (fun h5 => ?_)
 ·replace hg := cond_t h5 hg
  refine aw_s ?_
  refine awp_seq ?_
  refine awp_block ?_
  refine awp_region (sys _ _ []) 43 123 hU43_4 rfl rfl ?_
  refine c0_ rfl rfl .move rfl rfl ?_
  refine c0_ rfl rfl (.fieldP fd45_10 ty41 (by decide)) rfl rfl ?_
  refine ch_s (rd := [0]) rfl rfl (.loadB1 ty41 rfl) rfl rfl ?_
  refine c0_ rfl rfl .move rfl rfl ?_
  obtain ⟨e, he, hg⟩ := bind_some hg
  refine c0_ rfl rfl (r_idxS sl41 eS_len (getI_ix he) (getI_at he)) rfl rfl ?_
  refine c0_ rfl rfl (r_loadE1 ty9 (enc_cell eS_len (getI_at he) (o := 0) (c := .str e) rfl rfl)) rfl rfl ?_
  obtain ⟨y, hy, hg⟩ := bind_some hg
  refine ch_callP (rd := []) (ps := []) (gs := []) false rfl (w_ref01_Text e _ hy) rfl rfl (.cons .val .nil) rfl rfl (by intro h; cases h) rfl rfl rfl rfl ?_
  refine c0_ rfl rfl (r_buildFull sl95 z97 (by decide) rfl rfl rfl rfl ck97 (cs := [.int .i64 y.Tag, .sl 1 (encL e8 y.Bytes), .bool y.Nested, .sl 4 (encL api_Value.enc y.Elements)]) (.cons .int (.cons .sl (.cons .bool (.cons .sl .nil)))) rfl (l := ([y] : List api_Value)) (f := api_Value.enc) (by simp only [encL, List.flatMap_cons, List.flatMap_nil, api_Value.enc_eq]; rfl)) rfl rfl ?_
  obtain ⟨l, hl, hg⟩ := bind_some hg
  refine ch_s (rd := [2, 99]) rfl rfl (r_append sl95 api_Value.enc_len .row rfl .row rfl hl rfl) rfl rfl ?_
  refine c0_ rfl rfl .assign rfl rfl ?_
  refine ch_n fun hU123_6 => ?_
  refine awp_region (sys _ _ []) 123 147 hU123_6 rfl rfl ?_
  refine c0_ rfl rfl .move rfl rfl ?_
  refine c0_ rfl rfl r_add rfl rfl ?_
  refine c0_ rfl rfl .assign rfl rfl ?_
  refine ch_n fun hU147_7 => ?_
  obtain rfl := Option.some.inj hg
  exact ⟨((W (i_1 + 1), l), m1), Nat.lt_succ_self _, hn1, Sub.lists [(0, 0), (1, 1), (2, 107)] rfl rfl ⟨⟨_, rfl, .ptr rfl⟩, ⟨_, rfl, .ptr rfl⟩, ⟨_, rfl, .row rfl⟩, ⟨_, rfl, .val _⟩, trivial⟩ ⟨.inl ⟨0, _, rfl, rfl, ⟨rfl, .cons (.val _) (.cons (.val _) (.cons (.val _) (.cons (.val _) (.cons (.val _) (.cons (.val _) (.cons (.val _) (.cons (.val _) (.cons (.val _) (.cons (.val _) (.cons (.val _) (.cons (.val _) (.cons (.sl _ _) (.cons (.val _) (.cons (.val _) .nil))))))))))))))⟩⟩, .inl ⟨1, _, rfl, rfl, ⟨rfl, .cons (.val _) (.cons (.val _) (.cons (.val _) (.cons (.val _) .nil)))⟩⟩, .inl ⟨107, _, rfl, rfl, ⟨rfl, rfl, rfl⟩⟩, trivial⟩⟩
 ·replace hg := cond_f h5 hg
  refine awp_exit ?_
  repeat first | refine st_ ?_ | refine sn_ ?_
  replace hg := leave hg hn1
  refine awp_seq ?_
  refine awp_sub (σ' := mk [(1, .ptr 0 0), (2, .ptr 1 0), (3, .sl 4 (encL api_Value.enc names_1))] [(0, .box [.val (.int .i64 c.Serial), .val (.string c.Issuer), .val (.string c.Subject), .val (.int .i64 c.Key.Alg), .val (.int .i64 c.Key.Bits), .val (.int .i64 c.KeyId), .val (.int .i64 c.Hash.Alg), .val (.int .i64 c.Hash.Bits), .val (.int .i64 c.From), .val (.int .i64 c.To), .val (.bool c.Authority), .val (.int .i64 c.Path), .sl 1 (encL eS c.Names), .val (.int .i64 c.Seal.Key), .val (.int .i64 c.Seal.Sum)] 45), (1, .box [.val (.int .i64 0), .val (.slice none 0 0), .val (.bool false), .val (.slice none 0 0)] 97)] 2) (Sub.lists [(0, 0), (1, 1)] rfl rfl ⟨⟨_, rfl, .ptr rfl⟩, ⟨_, rfl, .ptr rfl⟩, ⟨_, rfl, .frz rfl (look_ne rfl)⟩, trivial⟩ ⟨.inl ⟨0, _, rfl, rfl, ⟨rfl, .cons (.val _) (.cons (.val _) (.cons (.val _) (.cons (.val _) (.cons (.val _) (.cons (.val _) (.cons (.val _) (.cons (.val _) (.cons (.val _) (.cons (.val _) (.cons (.val _) (.cons (.val _) (.cons (.sl _ _) (.cons (.val _) (.cons (.val _) .nil))))))))))))))⟩⟩, .inl ⟨1, _, rfl, rfl, ⟨rfl, .cons (.val _) (.cons (.val _) (.cons (.val _) (.cons (.val _) .nil)))⟩⟩, trivial⟩) ?_
  refine awp_draw (sys _ _ [258]) (by kernel_rfl) [0, 1, 3, 0, 8, 31, 0, 64, 255, 0, 512, 2047, 0, 4096, 16383, 0, 32768, 131071, 0, 262144, 1048575, 0, 2097152, 8388607, 0, 16777216, 67108863, 0, 134217728, 536870911, 0, 2147483647, 4294967295, 8589934591, 17179869183] 2 282 mk_U rfl rfl (by kernel_rfl) ?_
  refine c0_ rfl rfl (.fieldP fd45_0 ty3 (by decide)) rfl rfl ?_
  refine ch_s (rd := [0]) rfl rfl (.loadB1 ty3 rfl) rfl rfl ?_
  obtain ⟨y_12, hy_12, hg⟩ := bind_some hg
  refine ch_callP (rd := []) (ps := []) (gs := []) false rfl (w_ref01_Int c.Serial _ hy_12) rfl rfl (.cons .val .nil) rfl rfl (by intro h; cases h) rfl rfl rfl rfl ?_
  refine c0_ rfl rfl (.fieldP fd45_1 ty9 (by decide)) rfl rfl ?_
  refine ch_s (rd := [0]) rfl rfl (.loadB1 ty9 rfl) rfl rfl ?_
  obtain ⟨y_13, hy_13, hg⟩ := bind_some hg
  refine ch_callP (rd := []) (ps := []) (gs := []) false rfl (w_ref01_Text c.Issuer _ hy_13) rfl rfl (.cons .val .nil) rfl rfl (by intro h; cases h) rfl rfl rfl rfl ?_
  refine c0_ rfl rfl (.fieldP fd45_2 ty9 (by decide)) rfl rfl ?_
  refine ch_s (rd := [0]) rfl rfl (.loadB1 ty9 rfl) rfl rfl ?_
  obtain ⟨y_14, hy_14, hg⟩ := bind_some hg
  refine ch_callP (rd := []) (ps := []) (gs := []) false rfl (w_ref01_Text c.Subject _ hy_14) rfl rfl (.cons .val .nil) rfl rfl (by intro h; cases h) rfl rfl rfl rfl ?_
  refine c0_ rfl rfl (.fieldP fd45_3 ty40 (by decide)) rfl rfl ?_
  refine ch_s (rd := [0]) rfl rfl (.loadBA ty40 (Nat.le_of_ble_eq_true rfl)) rfl rfl ?_
  obtain ⟨y_15, hy_15, hg⟩ := bind_some hg
  refine ch_callP (rd := []) (ps := []) (gs := []) false rfl (w_ref03_use c.Key _ hy_15) rfl rfl (.cons (.agg (.cons .val (.cons .val .nil))) .nil) rfl rfl (by intro h; cases h) rfl rfl rfl rfl ?_
  refine c0_ rfl rfl (.fieldP fd45_4 ty3 (by decide)) rfl rfl ?_
  refine ch_s (rd := [0]) rfl rfl (.loadB1 ty3 rfl) rfl rfl ?_
  obtain ⟨y_16, hy_16, hg⟩ := bind_some hg
  refine ch_callP (rd := []) (ps := []) (gs := []) false rfl (w_ref01_Int c.KeyId _ hy_16) rfl rfl (.cons .val .nil) rfl rfl (by intro h; cases h) rfl rfl rfl rfl ?_
  refine c0_ rfl rfl (.fieldP fd45_5 ty40 (by decide)) rfl rfl ?_
  refine ch_s (rd := [0]) rfl rfl (.loadBA ty40 (Nat.le_of_ble_eq_true rfl)) rfl rfl ?_
  obtain ⟨y_17, hy_17, hg⟩ := bind_some hg
  refine ch_callP (rd := []) (ps := []) (gs := []) false rfl (w_ref03_use c.Hash _ hy_17) rfl rfl (.cons (.agg (.cons .val (.cons .val .nil))) .nil) rfl rfl (by intro h; cases h) rfl rfl rfl rfl ?_
  refine c0_ rfl rfl (.fieldP fd45_6 ty3 (by decide)) rfl rfl ?_
  refine ch_s (rd := [0]) rfl rfl (.loadB1 ty3 rfl) rfl rfl ?_
  obtain ⟨y_18, hy_18, hg⟩ := bind_some hg
  refine ch_callP (rd := []) (ps := []) (gs := []) false rfl (w_ref01_Int c.From _ hy_18) rfl rfl (.cons .val .nil) rfl rfl (by intro h; cases h) rfl rfl rfl rfl ?_
  refine c0_ rfl rfl (.fieldP fd45_7 ty3 (by decide)) rfl rfl ?_
  refine ch_s (rd := [0]) rfl rfl (.loadB1 ty3 rfl) rfl rfl ?_
  obtain ⟨y_19, hy_19, hg⟩ := bind_some hg
  refine ch_callP (rd := []) (ps := []) (gs := []) false rfl (w_ref01_Int c.To _ hy_19) rfl rfl (.cons .val .nil) rfl rfl (by intro h; cases h) rfl rfl rfl rfl ?_
  refine c0_ rfl rfl (.fieldP fd45_8 ty4 (by decide)) rfl rfl ?_
  refine ch_s (rd := [0]) rfl rfl (.loadB1 ty4 rfl) rfl rfl ?_
  obtain ⟨y_20, hy_20, hg⟩ := bind_some hg
  refine ch_callP (rd := []) (ps := []) (gs := []) false rfl (w_ref01_Bool c.Authority _ hy_20) rfl rfl (.cons .val .nil) rfl rfl (by intro h; cases h) rfl rfl rfl rfl ?_
  refine c0_ rfl rfl (.fieldP fd45_9 ty3 (by decide)) rfl rfl ?_
  refine ch_s (rd := [0]) rfl rfl (.loadB1 ty3 rfl) rfl rfl ?_
  obtain ⟨y_21, hy_21, hg⟩ := bind_some hg
  refine ch_callP (rd := []) (ps := []) (gs := []) false rfl (w_ref01_Int c.Path _ hy_21) rfl rfl (.cons .val .nil) rfl rfl (by intro h; cases h) rfl rfl rfl rfl ?_
  refine c0_ rfl rfl .move rfl rfl ?_
  obtain ⟨y_22, hy_22, hg⟩ := bind_some hg
  refine ch_callP (rd := []) (ps := []) (gs := []) false rfl (w_ref01_List names_1 _ hy_22) rfl rfl (.cons .sl .nil) rfl rfl (by intro h; cases h) rfl rfl rfl rfl ?_
  refine ch_z (rd := []) rfl rfl (r_buildFull sl95 z97 (by decide) rfl rfl rfl rfl ck97 (cs := [.int .i64 y_12.Tag, .sl 1 (encL e8 y_12.Bytes), .bool y_12.Nested, .sl 4 (encL api_Value.enc y_12.Elements), .int .i64 y_13.Tag, .sl 1 (encL e8 y_13.Bytes), .bool y_13.Nested, .sl 4 (encL api_Value.enc y_13.Elements), .int .i64 y_14.Tag, .sl 1 (encL e8 y_14.Bytes), .bool y_14.Nested, .sl 4 (encL api_Value.enc y_14.Elements), .int .i64 y_15.Tag, .sl 1 (encL e8 y_15.Bytes), .bool y_15.Nested, .sl 4 (encL api_Value.enc y_15.Elements), .int .i64 y_16.Tag, .sl 1 (encL e8 y_16.Bytes), .bool y_16.Nested, .sl 4 (encL api_Value.enc y_16.Elements), .int .i64 y_17.Tag, .sl 1 (encL e8 y_17.Bytes), .bool y_17.Nested, .sl 4 (encL api_Value.enc y_17.Elements), .int .i64 y_18.Tag, .sl 1 (encL e8 y_18.Bytes), .bool y_18.Nested, .sl 4 (encL api_Value.enc y_18.Elements), .int .i64 y_19.Tag, .sl 1 (encL e8 y_19.Bytes), .bool y_19.Nested, .sl 4 (encL api_Value.enc y_19.Elements), .int .i64 y_20.Tag, .sl 1 (encL e8 y_20.Bytes), .bool y_20.Nested, .sl 4 (encL api_Value.enc y_20.Elements), .int .i64 y_21.Tag, .sl 1 (encL e8 y_21.Bytes), .bool y_21.Nested, .sl 4 (encL api_Value.enc y_21.Elements), .int .i64 y_22.Tag, .sl 1 (encL e8 y_22.Bytes), .bool y_22.Nested, .sl 4 (encL api_Value.enc y_22.Elements)]) (.cons .int (.cons .sl (.cons .bool (.cons .sl (.cons .int (.cons .sl (.cons .bool (.cons .sl (.cons .int (.cons .sl (.cons .bool (.cons .sl (.cons .int (.cons .sl (.cons .bool (.cons .sl (.cons .int (.cons .sl (.cons .bool (.cons .sl (.cons .int (.cons .sl (.cons .bool (.cons .sl (.cons .int (.cons .sl (.cons .bool (.cons .sl (.cons .int (.cons .sl (.cons .bool (.cons .sl (.cons .int (.cons .sl (.cons .bool (.cons .sl (.cons .int (.cons .sl (.cons .bool (.cons .sl (.cons .int (.cons .sl (.cons .bool (.cons .sl .nil)))))))))))))))))))))))))))))))))))))))))))) rfl (l := ([y_12, y_13, y_14, y_15, y_16, y_17, y_18, y_19, y_20, y_21, y_22] : List api_Value)) (f := api_Value.enc) (by simp only [encL, List.flatMap_cons, List.flatMap_nil, api_Value.enc_eq]; rfl)) rfl rfl rfl ?_
  obtain ⟨y_23, hy_23, hg⟩ := bind_some hg
  refine ch_callP (rd := []) (ps := []) (gs := []) false rfl (w_ref01_List ([y_12, y_13, y_14, y_15, y_16, y_17, y_18, y_19, y_20, y_21, y_22] : List api_Value) _ hy_23) rfl rfl (.cons .sl .nil) rfl rfl (by intro h; cases h) rfl rfl rfl rfl ?_
  refine ch_s (rd := [1]) rfl rfl (r_storeB (ds' := [.val (.int .i64 y_23.Tag), .sl 1 (encL e8 y_23.Bytes), .val (.bool y_23.Nested), .sl 4 (encL api_Value.enc y_23.Elements)]) ty97 rfl (Nat.le_of_ble_eq_true rfl) rfl rfl) rfl rfl ?_
  refine ch_n fun hU282_8 => ?_
  refine aw_r ?_
  obtain rfl := Option.some.inj hg
  exact ⟨[_], _, [], [], .cons (.cellA rfl rfl ty97 rfl) .nil, ⟨rfl, rfl⟩, .agg (.cons (.val _) (.cons (.sl _ _) (.cons (.val _) (.cons (.sl _ _) .nil)))), trivial, rfl, rfl, rfl, rfl⟩
theorem w_ref01_tag (n : Int) (r : Bool) (hg : g_ref01_tag n = some r) : Fn Try.prog 87 0 [.val (.int .i64 n)] [] (fun d b => d = .val (.bool r) ∧ b = []) := by
 unfold g_ref01_tag at hg
 refine Fn.of Try.func87 rfl rfl rfl fun w0 I ρ0 => ?_
 show awp _ ⟨w0, I, ρ0, 0, 0, 14⟩ _ _ _
 refine sr_ 0 8 mk_U ?_
 refine c0_ rfl rfl .assign rfl rfl ?_
 refine ch_n fun hU8_1 => ?_
 refine sr_ 8 104 hU8_1 ?_
 refine c0_ rfl rfl .move rfl rfl ?_
 refine c0_ rfl rfl r_geq rfl rfl ?_
 refine c0_ rfl rfl .move rfl rfl ?_
 rcases Bool.eq_false_or_eq_true (decide (1 ≤ n)) with h2 | h2
 ·replace hg := cond_t h2 hg
  refine c0_ (gdv_t rfl rfl h2) rfl .move rfl rfl ?_
  refine c0_ (gdv_t rfl rfl h2) rfl r_leq rfl rfl ?_
  refine c0_ rfl rfl (r_pickT h2) rfl rfl ?_
  refine c0_ rfl rfl .move rfl rfl ?_
  rcases Bool.eq_false_or_eq_true (decide (n ≤ 255)) with h3 | h3
  ·replace hg := cond_t h3 hg
   refine c0_ (gdv_t rfl rfl h3) rfl .move rfl rfl ?_
   obtain ⟨q, hq, hg⟩ := bind_some hg
   refine c0_ (gdv_t rfl rfl h3) rfl (r_rem hq) rfl rfl ?_
   refine c0_ (gdv_t rfl rfl h3) rfl r_neq rfl rfl ?_
   refine c0_ rfl rfl (r_pickT h3) rfl rfl ?_
   refine c0_ rfl rfl .assign rfl rfl ?_
   refine ch_n fun hU104_4 => ?_
   refine aw_r ?_
   obtain rfl := Option.some.inj hg
   exact ⟨[_], _, [], [], .cons (.tmp rfl) .nil, ⟨rfl, rfl⟩, .val _, trivial, rfl, rfl, rfl, rfl⟩
  ·replace hg := cond_f h3 hg
   iterate 3 refine ch_skip (gdv_f rfl rfl h3) rfl ?_
   refine c0_ rfl rfl (r_pickF h3) rfl rfl ?_
   refine c0_ rfl rfl .assign rfl rfl ?_
   refine ch_n fun hU104_5 => ?_
   refine aw_r ?_
   obtain rfl := Option.some.inj hg
   exact ⟨[_], _, [], [], .cons (.tmp rfl) .nil, ⟨rfl, rfl⟩, .val _, trivial, rfl, rfl, rfl, rfl⟩
 ·replace hg := cond_f h2 hg
  refine ch_skip (gdv_f rfl rfl h2) rfl ?_
  refine ch_skip (gdv_f rfl rfl h2) rfl ?_
  refine c0_ rfl rfl (r_pickF h2) rfl rfl ?_
  refine c0_ rfl rfl .move rfl rfl ?_
  iterate 3 refine ch_skip (gdv_f rfl rfl rfl) rfl ?_
  refine c0_ rfl rfl (r_pickF rfl) rfl rfl ?_
  refine c0_ rfl rfl .assign rfl rfl ?_
  refine ch_n fun hU104_6 => ?_
  refine aw_r ?_
  obtain rfl := Option.some.inj hg
  exact ⟨[_], _, [], [], .cons (.tmp rfl) .nil, ⟨rfl, rfl⟩, .val _, trivial, rfl, rfl, rfl, rfl⟩
theorem w_ref01_formed.F (rec : api_Value → Option (Bool)) (hrec : ∀ (v : api_Value) (r : Bool), rec v = some r → Fn Try.prog 72 0 [.agg [.val (.int .i64 v.Tag), .sl 1 (encL e8 v.Bytes), .val (.bool v.Nested), .sl 4 (encL api_Value.enc v.Elements)]] [] (fun d b => d = .val (.bool r) ∧ b = [])) (v : api_Value) (r : Bool) (hg : g_ref01_formed.F rec v = some r) : Fn Try.prog 72 0 [.agg [.val (.int .i64 v.Tag), .sl 1 (encL e8 v.Bytes), .val (.bool v.Nested), .sl 4 (encL api_Value.enc v.Elements)]] [] (fun d b => d = .val (.bool r) ∧ b = []) := by
 unfold g_ref01_formed.F at hg
 refine Fn.of Try.func72 rfl rfl rfl fun w0 I ρ0 => ?_
 show awp _ ⟨w0, I, ρ0, 0, 0, 53⟩ _ _ _
 refine sr_ 0 16 mk_U ?_
 refine c0_ rfl rfl (.box rfl) rfl rfl ?_
 refine c0_ rfl rfl .assign rfl rfl ?_
 refine ch_n fun hU16_1 => ?_
 refine awp_seq ?_
 refine awp_cut (ι := Bool) (fun (x38_1 : Bool) => mk [(1, .ptr 0 0), (38, .val (.bool x38_1))] [(0, .box [.val (.int .i64 v.Tag), .sl 1 (encL e8 v.Bytes), .val (.bool v.Nested), .sl 4 (encL api_Value.enc v.Elements)] 97)] 1) (fun (x38_1 : Bool) => g_ref01_formed.j1 rec v x38_1 = some r) ?_ ?_
 ·refine awp_region (sys _ _ []) 16 296 hU16_1 rfl rfl ?_
  refine c0_ rfl rfl (.fieldP fd97_0 ty3 (by decide)) rfl rfl ?_
  refine ch_s (rd := [0]) rfl rfl (.loadB1 ty3 rfl) rfl rfl ?_
  obtain ⟨y, hy, hg⟩ := bind_some hg
  refine ch_callP (rd := []) (ps := []) (gs := []) false rfl (w_ref01_tag v.Tag _ hy) rfl rfl (.cons .val .nil) rfl rfl (by intro h; cases h) rfl rfl rfl rfl ?_
  refine c0_ rfl rfl r_not rfl rfl ?_
  refine c0_ rfl rfl .move rfl rfl ?_
  rcases Bool.eq_false_or_eq_true (!y) with h2 | h2
  ·replace hg := cond_t h2 hg
   iterate 8 refine ch_skip (gdv_f rfl rfl h2) rfl ?_
   refine c0_ rfl rfl (r_pickT h2) rfl rfl ?_
   refine c0_ rfl rfl .move rfl rfl ?_
   iterate 3 refine ch_skip (gdv_f rfl rfl rfl) rfl ?_
   iterate 4 refine ch_skip rfl rfl ?_
   refine ch_skip (gdv_f rfl rfl rfl) rfl ?_
   refine c0_ rfl rfl (r_pickT rfl) rfl rfl ?_
   refine c0_ rfl rfl .move rfl rfl ?_
   iterate 4 refine ch_skip (gdv_f rfl rfl rfl) rfl ?_
   iterate 4 refine ch_skip rfl rfl ?_
   refine ch_skip (gdv_f rfl rfl rfl) rfl ?_
   refine c0_ rfl rfl (r_pickT rfl) rfl rfl ?_
   refine ch_n fun hU296_3 => ?_
   exact ⟨true, hg, Sub.lists [(0, 0)] rfl rfl ⟨⟨_, rfl, .ptr rfl⟩, ⟨_, rfl, .val _⟩, trivial⟩ ⟨.inl ⟨0, _, rfl, rfl, ⟨rfl, .cons (.val _) (.cons (.sl _ _) (.cons (.val _) (.cons (.sl _ _) .nil)))⟩⟩, trivial⟩⟩
  ·replace hg := cond_f h2 hg
   refine c0_ (gdv_t rfl rfl h2) rfl (.fieldP fd97_2 ty4 (by decide)) rfl rfl ?_
   refine ch_s (rd := [0]) (gdv_t rfl rfl h2) rfl (.loadB1 ty4 rfl) rfl rfl ?_
   refine c0_ (gdv_t rfl rfl h2) rfl (.fieldP fd97_0 ty3 (by decide)) rfl rfl ?_
   refine ch_s (rd := [0]) (gdv_t rfl rfl h2) rfl (.loadB1 ty3 rfl) rfl rfl ?_
   obtain ⟨q, hq, hg⟩ := bind_some hg
   refine c0_ (gdv_t rfl rfl h2) rfl (r_quo hq) rfl rfl ?_
   obtain ⟨q_2, hq_2, hg⟩ := bind_some hg
   refine c0_ (gdv_t rfl rfl h2) rfl (r_rem hq_2) rfl rfl ?_
   refine c0_ (gdv_t rfl rfl h2) rfl r_eql rfl rfl ?_
   refine c0_ (gdv_t rfl rfl h2) rfl (r_bneq und4) rfl rfl ?_
   refine c0_ rfl rfl (r_pickF h2) rfl rfl ?_
   refine c0_ rfl rfl .move rfl rfl ?_
   rcases Bool.eq_false_or_eq_true (!decide (v.Nested = (decide (q_2 = 1)))) with h4 | h4
   ·replace hg := cond_t h4 hg
    iterate 3 refine ch_skip (gdv_f rfl rfl h4) rfl ?_
    iterate 4 refine ch_skip rfl rfl ?_
    refine ch_skip (gdv_f rfl rfl h4) rfl ?_
    refine c0_ rfl rfl (r_pickT h4) rfl rfl ?_
    refine c0_ rfl rfl .move rfl rfl ?_
    iterate 4 refine ch_skip (gdv_f rfl rfl rfl) rfl ?_
    iterate 4 refine ch_skip rfl rfl ?_
    refine ch_skip (gdv_f rfl rfl rfl) rfl ?_
    refine c0_ rfl rfl (r_pickT rfl) rfl rfl ?_
    refine ch_n fun hU296_5 => ?_
    exact ⟨true, hg, Sub.lists [(0, 0)] rfl rfl ⟨⟨_, rfl, .ptr rfl⟩, ⟨_, rfl, .val _⟩, trivial⟩ ⟨.inl ⟨0, _, rfl, rfl, ⟨rfl, .cons (.val _) (.cons (.sl _ _) (.cons (.val _) (.cons (.sl _ _) .nil)))⟩⟩, trivial⟩⟩
   ·replace hg := cond_f h4 hg
    refine c0_ (gdv_t rfl rfl h4) rfl (.fieldP fd97_2 ty4 (by decide)) rfl rfl ?_
    refine ch_s (rd := [0]) (gdv_t rfl rfl h4) rfl (.loadB1 ty4 rfl) rfl rfl ?_
    refine c0_ (gdv_t rfl rfl h4) rfl .move rfl rfl ?_
    rcases Bool.eq_false_or_eq_true (v.Nested) with h6 | h6
    ·replace hg := cond_t h6 hg
     refine c0_ (gdv_t rfl rfl h6) rfl (.fieldP fd97_1 ty82 (by decide)) rfl rfl ?_
     refine ch_s (rd := [0]) (gdv_t rfl rfl h6) rfl (.loadB1 ty82 rfl) rfl rfl ?_
     refine c0_ (gdv_t rfl rfl h6) rfl (r_lenS sl82 e8_len) rfl rfl ?_
     refine c0_ (gdv_t rfl rfl h6) rfl r_gtr rfl rfl ?_
     refine c0_ (gdv_t rfl rfl h4) rfl (r_pickT h6) rfl rfl ?_
     refine c0_ rfl rfl (r_pickF h4) rfl rfl ?_
     refine c0_ rfl rfl .move rfl rfl ?_
     rcases Bool.eq_false_or_eq_true (decide (0 < (v.Bytes.length : Int))) with h7 | h7
     ·replace hg := cond_t h7 hg
      iterate 4 refine ch_skip (gdv_f rfl rfl h7) rfl ?_
      iterate 4 refine ch_skip rfl rfl ?_
      refine ch_skip (gdv_f rfl rfl h7) rfl ?_
      refine c0_ rfl rfl (r_pickT h7) rfl rfl ?_
      refine ch_n fun hU296_8 => ?_
      exact ⟨true, hg, Sub.lists [(0, 0)] rfl rfl ⟨⟨_, rfl, .ptr rfl⟩, ⟨_, rfl, .val _⟩, trivial⟩ ⟨.inl ⟨0, _, rfl, rfl, ⟨rfl, .cons (.val _) (.cons (.sl _ _) (.cons (.val _) (.cons (.sl _ _) .nil)))⟩⟩, trivial⟩⟩
     ·replace hg := cond_f h7 hg
      refine c0_ (gdv_t rfl rfl h7) rfl (.fieldP fd97_2 ty4 (by decide)) rfl rfl ?_
      refine ch_s (rd := [0]) (gdv_t rfl rfl h7) rfl (.loadB1 ty4 rfl) rfl rfl ?_
      refine c0_ (gdv_t rfl rfl h7) rfl r_not rfl rfl ?_
      refine c0_ (gdv_t rfl rfl h7) rfl .move rfl rfl ?_
      iterate 4 refine ch_skip (gdv_f rfl rfl (not_t h6)) rfl ?_
      refine c0_ (gdv_t rfl rfl h7) rfl (r_pickF (not_t h6)) rfl rfl ?_
      refine c0_ rfl rfl (r_pickF h7) rfl rfl ?_
      refine ch_n fun hU296_9 => ?_
      exact ⟨false, hg, Sub.lists [(0, 0)] rfl rfl ⟨⟨_, rfl, .ptr rfl⟩, ⟨_, rfl, .val _⟩, trivial⟩ ⟨.inl ⟨0, _, rfl, rfl, ⟨rfl, .cons (.val _) (.cons (.sl _ _) (.cons (.val _) (.cons (.sl _ _) .nil)))⟩⟩, trivial⟩⟩
    ·replace hg := cond_f h6 hg
     iterate 4 refine ch_skip (gdv_f rfl rfl h6) rfl ?_
     refine c0_ (gdv_t rfl rfl h4) rfl (r_pickF h6) rfl rfl ?_
     refine c0_ rfl rfl (r_pickF h4) rfl rfl ?_
     refine c0_ rfl rfl .move rfl rfl ?_
     refine c0_ (gdv_t rfl rfl rfl) rfl (.fieldP fd97_2 ty4 (by decide)) rfl rfl ?_
     refine ch_s (rd := [0]) (gdv_t rfl rfl rfl) rfl (.loadB1 ty4 rfl) rfl rfl ?_
     refine c0_ (gdv_t rfl rfl rfl) rfl r_not rfl rfl ?_
     refine c0_ (gdv_t rfl rfl rfl) rfl .move rfl rfl ?_
     refine c0_ (gdv_t rfl rfl (not_f h6)) rfl (.fieldP fd97_3 ty95 (by decide)) rfl rfl ?_
     refine ch_s (rd := [0]) (gdv_t rfl rfl (not_f h6)) rfl (.loadB1 ty95 rfl) rfl rfl ?_
     refine c0_ (gdv_t rfl rfl (not_f h6)) rfl (r_lenS sl95 api_Value.enc_len) rfl rfl ?_
     refine c0_ (gdv_t rfl rfl (not_f h6)) rfl r_gtr rfl rfl ?_
     refine c0_ (gdv_t rfl rfl rfl) rfl (r_pickT (not_f h6)) rfl rfl ?_
     refine c0_ rfl rfl (r_pickF rfl) rfl rfl ?_
     refine ch_n fun hU296_10 => ?_
     exact ⟨decide (0 < (v.Elements.length : Int)), hg, Sub.lists [(0, 0)] rfl rfl ⟨⟨_, rfl, .ptr rfl⟩, ⟨_, rfl, .val _⟩, trivial⟩ ⟨.inl ⟨0, _, rfl, rfl, ⟨rfl, .cons (.val _) (.cons (.sl _ _) (.cons (.val _) (.cons (.sl _ _) .nil)))⟩⟩, trivial⟩⟩
 ·rintro x38_1 hg
  replace hg : g_ref01_formed.j1 rec v x38_1 = some r := hg
  show awp _ _ _ _ (mk _ _ _)
  unfold g_ref01_formed.j1 at hg
  refine awp_cond rfl (fun h11 => ?_) (fun h11 => ?_)
  ·replace hg := cond_t h11 hg
   refine sr_ 1 9 mk_U ?_
   refine c0_ rfl rfl .assign rfl rfl ?_
   refine ch_n fun hU9_12 => ?_
   refine aw_r ?_
   obtain rfl := Option.some.inj hg
   exact ⟨[_], _, [], [], .cons (.tmp rfl) .nil, ⟨rfl, rfl⟩, .val _, trivial, rfl, rfl, rfl, rfl⟩
  ·replace hg := cond_f h11 hg
   refine aw_s ?_
   refine awp_seq ?_
   refine sr_ 1 9 mk_U ?_
   refine c0_ rfl rfl .assign rfl rfl ?_
   refine ch_n fun hU9_13 => ?_
   refine awp_block ?_
   obtain ⟨n2, hg⟩ := loop_some hg
   refine awp_loop (ι := (Int) × Nat) (fun ((i_2, _) : (Int) × Nat) => mk [(1, .ptr 0 0), (3, .val (.int .i64 i_2))] [(0, .box [.val (.int .i64 v.Tag), .sl 1 (encL e8 v.Bytes), .val (.bool v.Nested), .sl 4 (encL api_Value.enc v.Elements)] 97)] 1) (fun ((i_2, nq') : (Int) × Nat) => iter (fun q' => g_ref01_formed.l2 rec v q') nq' i_2 = some r) (fun q => q.2) (0, n2) (Sub.lists [(0, 0)] rfl rfl ⟨⟨_, rfl, .ptr rfl⟩, ⟨_, rfl, .val _⟩, trivial⟩ ⟨.inl ⟨0, _, rfl, rfl, ⟨rfl, .cons (.val _) (.cons (.sl _ _) (.cons (.val _) (.cons (.sl _ _) .nil)))⟩⟩, trivial⟩) hg ?_
   rintro ⟨i_2, n2⟩ hg
   obtain ⟨m2, o2, rfl, hg, hn2⟩ := iter_some (show iter (fun q' => g_ref01_formed.l2 rec v q') n2 i_2 = some r from hg)
   replace hg : g_ref01_formed.l2 rec v i_2 = some o2 := hg
   show awp _ _ _ _ (mk _ _ _)
   unfold g_ref01_formed.l2 at hg
   refine awp_seq ?_
   refine sr_ 1 41 mk_U ?_
   refine c0_ rfl rfl .move rfl rfl ?_
   refine c0_ rfl rfl (.fieldP fd97_3 ty95 (by decide)) rfl rfl ?_
   refine ch_s (rd := [0]) rfl rfl (.loadB1 ty95 rfl) rfl rfl ?_
   refine c0_ rfl rfl (r_lenS sl95 api_Value.enc_len) rfl rfl ?_
   refine c0_ rfl rfl r_lss rfl rfl ?_
   refine ch_n fun hU41_14 => ?_
   refine awp_cond rfl (fun h15 => ?_) (fun h15 => ?_)
   ·replace hg := cond_t h15 hg
    refine aw_s ?_
    refine awp_seq ?_
    refine awp_block ?_
    refine sr_ 41 97 hU41_14 ?_
    refine c0_ rfl rfl (.fieldP fd97_3 ty95 (by decide)) rfl rfl ?_
    refine ch_s (rd := [0]) rfl rfl (.loadB1 ty95 rfl) rfl rfl ?_
    refine c0_ rfl rfl .move rfl rfl ?_
    obtain ⟨e, he, hg⟩ := bind_some hg
    refine c0_ rfl rfl (r_idxS sl95 api_Value.enc_len (getI_ix he) (getI_at he)) rfl rfl ?_
    refine c0_ rfl rfl (r_loadEA ty97 (enc_cells api_Value.enc_len (getI_at he) (o := 0) (m := 4) (cs := [.int .i64 e.Tag, .sl 1 (encL e8 e.Bytes), .bool e.Nested, .sl 4 (encL api_Value.enc e.Elements)]) (by simp only [api_Value.enc_eq]; rfl) (by decide) rfl) (enc_cells_le api_Value.enc_len (getI_at he) (o := 0) (m := 4) (by decide) rfl)) rfl rfl ?_
    obtain ⟨y_2, hy_2, hg⟩ := bind_some hg
    refine ch_callP (rd := []) (ps := []) (gs := []) false rfl (hrec e _ hy_2) rfl rfl (.cons (.agg (.cons .val (.cons .sl (.cons .val (.cons .sl .nil))))) .nil) rfl rfl (by intro h; cases h) rfl rfl rfl rfl ?_
    refine c0_ rfl rfl r_not rfl rfl ?_
    refine ch_n fun hU97_16 => ?_
    refine awp_cond rfl (fun h17 => ?_) (fun h17 => ?_)
    ·replace hg := cond_t h17 hg
     refine sr_ 97 105 hU97_16 ?_
     refine c0_ rfl rfl .assign rfl rfl ?_
     refine ch_n fun hU105_18 => ?_
     refine aw_r ?_
     replace hg := leave hg hn2
     obtain rfl := Option.some.inj hg
     exact ⟨[_], _, [], [], .cons (.tmp rfl) .nil, ⟨rfl, rfl⟩, .val _, trivial, rfl, rfl, rfl, rfl⟩
    ·replace hg := cond_f h17 hg
     refine aw_s ?_
     refine awp_region (sys _ _ []) 97 121 hU97_16 rfl rfl ?_
     refine c0_ rfl rfl .move rfl rfl ?_
     refine c0_ rfl rfl r_add rfl rfl ?_
     refine c0_ rfl rfl .assign rfl rfl ?_
     refine ch_n fun hU121_19 => ?_
     obtain rfl := Option.some.inj hg
     exact ⟨(W (i_2 + 1), m2), Nat.lt_succ_self _, hn2, Sub.lists [(0, 0)] rfl rfl ⟨⟨_, rfl, .ptr rfl⟩, ⟨_, rfl, .val _⟩, trivial⟩ ⟨.inl ⟨0, _, rfl, rfl, ⟨rfl, .cons (.val _) (.cons (.sl _ _) (.cons (.val _) (.cons (.sl _ _) .nil)))⟩⟩, trivial⟩⟩
   ·replace hg := cond_f h15 hg
    refine awp_exit ?_
    repeat first | refine st_ ?_ | refine sn_ ?_
    replace hg := leave hg hn2
    refine sr_ 41 49 hU41_14 ?_
    refine c0_ rfl rfl .assign rfl rfl ?_
    refine ch_n fun hU49_20 => ?_
    refine aw_r ?_
    obtain rfl := Option.some.inj hg
    exact ⟨[_], _, [], [], .cons (.tmp rfl) .nil, ⟨rfl, rfl⟩, .val _, trivial, rfl, rfl, rfl, rfl⟩
theorem w_ref01_formed (v : api_Value) (r : Bool) (hg : g_ref01_formed v = some r) : Fn Try.prog 72 0 [.agg [.val (.int .i64 v.Tag), .sl 1 (encL e8 v.Bytes), .val (.bool v.Nested), .sl 4 (encL api_Value.enc v.Elements)]] [] (fun d b => d = .val (.bool r) ∧ b = []) :=
 fixT_ind (motive := fun (x : api_Value) (r : Bool) => Fn Try.prog 72 0 [.agg [.val (.int .i64 x.Tag), .sl 1 (encL e8 x.Bytes), .val (.bool x.Nested), .sl 4 (encL api_Value.enc x.Elements)]] [] (fun d b => d = .val (.bool r) ∧ b = [])) (fun rec hrec x r h => w_ref01_formed.F _ (fun v r h => hrec v r h) x r h) v r hg
theorem w_ref01_depth.F (rec : api_Value → Option (Int)) (hrec : ∀ (v : api_Value) (r : Int), rec v = some r → Fn Try.prog 73 0 [.agg [.val (.int .i64 v.Tag), .sl 1 (encL e8 v.Bytes), .val (.bool v.Nested), .sl 4 (encL api_Value.enc v.Elements)]] [] (fun d b => d = .val (.int .i64 r) ∧ b = [])) (v : api_Value) (r : Int) (hg : g_ref01_depth.F rec v = some r) : Fn Try.prog 73 0 [.agg [.val (.int .i64 v.Tag), .sl 1 (encL e8 v.Bytes), .val (.bool v.Nested), .sl 4 (encL api_Value.enc v.Elements)]] [] (fun d b => d = .val (.int .i64 r) ∧ b = []) := by
 unfold g_ref01_depth.F at hg
 refine Fn.of Try.func73 rfl rfl rfl fun w0 I ρ0 => ?_
 show awp _ ⟨w0, I, ρ0, 0, 0, 22⟩ _ _ _
 refine sr_ 0 16 mk_U ?_
 refine c0_ rfl rfl (.box rfl) rfl rfl ?_
 refine c0_ rfl rfl .assign rfl rfl ?_
 refine ch_n fun hU16_1 => ?_
 refine sr_ 16 24 hU16_1 ?_
 refine c0_ rfl rfl .assign rfl rfl ?_
 refine ch_n fun hU24_2 => ?_
 refine awp_seq ?_
 refine sr_ 24 32 hU24_2 ?_
 refine c0_ rfl rfl .assign rfl rfl ?_
 refine ch_n fun hU32_3 => ?_
 refine awp_block ?_
 obtain ⟨n1, hg⟩ := loop_some hg
 refine awp_loop (ι := (Int × Int) × Nat) (fun (((d_1, i_1), _) : (Int × Int) × Nat) => mk [(1, .ptr 0 0), (3, .val (.int .i64 d_1)), (4, .val (.int .i64 i_1))] [(0, .box [.val (.int .i64 v.Tag), .sl 1 (encL e8 v.Bytes), .val (.bool v.Nested), .sl 4 (encL api_Value.enc v.Elements)] 97)] 1) (fun (((d_1, i_1), nq') : (Int × Int) × Nat) => iter (fun q' => g_ref01_depth.l1 rec v q'.1 q'.2) nq' (d_1, i_1) = some r) (fun q => q.2) ((0, 0), n1) (Sub.lists [(0, 0)] rfl rfl ⟨⟨_, rfl, .ptr rfl⟩, ⟨_, rfl, .val _⟩, ⟨_, rfl, .val _⟩, trivial⟩ ⟨.inl ⟨0, _, rfl, rfl, ⟨rfl, .cons (.val _) (.cons (.sl _ _) (.cons (.val _) (.cons (.sl _ _) .nil)))⟩⟩, trivial⟩) hg ?_
 rintro ⟨⟨d_1, i_1⟩, n1⟩ hg
 obtain ⟨m1, o1, rfl, hg, hn1⟩ := iter_some (show iter (fun q' => g_ref01_depth.l1 rec v q'.1 q'.2) n1 (d_1, i_1) = some r from hg)
 replace hg : g_ref01_depth.l1 rec v d_1 i_1 = some o1 := hg
 show awp _ _ _ _ (mk _ _ _)
 unfold g_ref01_depth.l1 at hg
 refine awp_seq ?_
 refine sr_ 1 41 mk_U ?_
 refine c0_ rfl rfl .move rfl rfl ?_
 refine c0_ rfl rfl (.fieldP fd97_3 ty95 (by decide)) rfl rfl ?_
 refine ch_s (rd := [0]) rfl rfl (.loadB1 ty95 rfl) rfl rfl ?_
 refine c0_ rfl rfl (r_lenS sl95 api_Value.enc_len) rfl rfl ?_
 refine c0_ rfl rfl r_lss rfl rfl ?_
 refine ch_n fun hU41_4 => ?_
 refine awp_cond rfl (fun h5 => ?_) (fun h5 => ?_)
 ·replace hg := cond_t h5 hg
  refine aw_s ?_
  refine awp_seq ?_
  refine awp_block ?_
  refine awp_region (sys _ _ []) 41 113 hU41_4 rfl rfl ?_
  refine c0_ rfl rfl .move rfl rfl ?_
  refine c0_ rfl rfl (.fieldP fd97_3 ty95 (by decide)) rfl rfl ?_
  refine ch_s (rd := [0]) rfl rfl (.loadB1 ty95 rfl) rfl rfl ?_
  refine c0_ rfl rfl .move rfl rfl ?_
  obtain ⟨e, he, hg⟩ := bind_some hg
  refine c0_ rfl rfl (r_idxS sl95 api_Value.enc_len (getI_ix he) (getI_at he)) rfl rfl ?_
  refine c0_ rfl rfl (r_loadEA ty97 (enc_cells api_Value.enc_len (getI_at he) (o := 0) (m := 4) (cs := [.int .i64 e.Tag, .sl 1 (encL e8 e.Bytes), .bool e.Nested, .sl 4 (encL api_Value.enc e.Elements)]) (by simp only [api_Value.enc_eq]; rfl) (by decide) rfl) (enc_cells_le api_Value.enc_len (getI_at he) (o := 0) (m := 4) (by decide) rfl)) rfl rfl ?_
  obtain ⟨y, hy, hg⟩ := bind_some hg
  refine ch_callP (rd := []) (ps := []) (gs := []) false rfl (hrec e _ hy) rfl rfl (.cons (.agg (.cons .val (.cons .sl (.cons .val (.cons .sl .nil))))) .nil) rfl rfl (by intro h; cases h) rfl rfl rfl rfl ?_
  refine c0_ rfl rfl r_max rfl rfl ?_
  refine c0_ rfl rfl .assign rfl rfl ?_
  refine ch_n fun hU113_6 => ?_
  refine awp_region (sys _ _ []) 113 137 hU113_6 rfl rfl ?_
  refine c0_ rfl rfl .move rfl rfl ?_
  refine c0_ rfl rfl r_add rfl rfl ?_
  refine c0_ rfl rfl .assign rfl rfl ?_
  refine ch_n fun hU137_7 => ?_
  obtain rfl := Option.some.inj hg
  exact ⟨((max d_1 y, W (i_1 + 1)), m1), Nat.lt_succ_self _, hn1, Sub.lists [(0, 0)] rfl rfl ⟨⟨_, rfl, .ptr rfl⟩, ⟨_, rfl, .val _⟩, ⟨_, rfl, .val _⟩, trivial⟩ ⟨.inl ⟨0, _, rfl, rfl, ⟨rfl, .cons (.val _) (.cons (.sl _ _) (.cons (.val _) (.cons (.sl _ _) .nil)))⟩⟩, trivial⟩⟩
 ·replace hg := cond_f h5 hg
  refine awp_exit ?_
  repeat first | refine st_ ?_ | refine sn_ ?_
  replace hg := leave hg hn1
  refine sr_ 41 65 hU41_4 ?_
  refine c0_ rfl rfl .move rfl rfl ?_
  refine c0_ rfl rfl r_add rfl rfl ?_
  refine c0_ rfl rfl .assign rfl rfl ?_
  refine ch_n fun hU65_8 => ?_
  refine aw_r ?_
  obtain rfl := Option.some.inj hg
  exact ⟨[_], _, [], [], .cons (.tmp rfl) .nil, ⟨rfl, rfl⟩, .val _, trivial, rfl, rfl, rfl, rfl⟩
theorem w_ref01_depth (v : api_Value) (r : Int) (hg : g_ref01_depth v = some r) : Fn Try.prog 73 0 [.agg [.val (.int .i64 v.Tag), .sl 1 (encL e8 v.Bytes), .val (.bool v.Nested), .sl 4 (encL api_Value.enc v.Elements)]] [] (fun d b => d = .val (.int .i64 r) ∧ b = []) :=
 fixT_ind (motive := fun (x : api_Value) (r : Int) => Fn Try.prog 73 0 [.agg [.val (.int .i64 x.Tag), .sl 1 (encL e8 x.Bytes), .val (.bool x.Nested), .sl 4 (encL api_Value.enc x.Elements)]] [] (fun d b => d = .val (.int .i64 r) ∧ b = [])) (fun rec hrec x r h => w_ref01_depth.F _ (fun v r h => hrec v r h) x r h) v r hg
theorem w_ref01_length (n : Int) (r : (List UInt8)) (hg : g_ref01_length n = some r) : Fn Try.prog 88 0 [.val (.int .i64 n)] [] (fun d b => d = .sl 1 (encL e8 r) ∧ b = []) := by
 unfold g_ref01_length at hg
 refine Fn.of Try.func88 rfl rfl rfl fun w0 I ρ0 => ?_
 show awp _ ⟨w0, I, ρ0, 0, 0, 26⟩ _ _ _
 refine sr_ 0 8 mk_U ?_
 refine c0_ rfl rfl .assign rfl rfl ?_
 refine ch_n fun hU8_1 => ?_
 refine awp_seq ?_
 refine sr_ 8 24 hU8_1 ?_
 refine c0_ rfl rfl .move rfl rfl ?_
 refine c0_ rfl rfl r_lss rfl rfl ?_
 refine ch_n fun hU24_2 => ?_
 refine awp_cond rfl (fun h3 => ?_) (fun h3 => ?_)
 ·replace hg := cond_t h3 hg
  refine sr_ 24 56 hU24_2 ?_
  refine c0_ rfl rfl .move rfl rfl ?_
  refine c0_ rfl rfl (r_conv_u8 und3 und5) rfl rfl ?_
  refine c0_ rfl rfl (r_buildFull sl82 z5 (by decide) rfl rfl rfl rfl ck5 (cs := [.int .u8 ((u8 n).toNat : Int)]) (.cons .int .nil) rfl (l := ([(u8 n)] : List UInt8)) (f := e8) rfl) rfl rfl ?_
  refine c0_ rfl rfl .assign rfl rfl ?_
  refine ch_n fun hU56_4 => ?_
  refine aw_r ?_
  obtain rfl := Option.some.inj hg
  exact ⟨[_], _, [], [], .cons (.tmp rfl) .nil, ⟨rfl, rfl⟩, .frz rfl (look_ne rfl), trivial, rfl, rfl, rfl, rfl⟩
 ·replace hg := cond_f h3 hg
  refine aw_s ?_
  refine sr_ 24 32 hU24_2 ?_
  refine c0_ rfl rfl .assign rfl rfl ?_
  refine ch_n fun hU32_5 => ?_
  refine awp_seq ?_
  refine awp_block ?_
  obtain ⟨n1, hg⟩ := loop_some hg
  refine awp_loop (ι := (Int × List UInt8) × Nat) (fun (((n_1, b_1), _) : (Int × List UInt8) × Nat) => mk [(0, .val (.int .i64 n_1)), (3, .row 0)] [(0, .row 5 1 (encL e8 b_1))] 1) (fun (((n_1, b_1), nq') : (Int × List UInt8) × Nat) => iter (fun q' => g_ref01_length.l1 q'.1 q'.2) nq' (n_1, b_1) = some r) (fun q => q.2) ((n, ([] : List UInt8)), n1) (Sub.lists [] rfl rfl ⟨⟨_, rfl, .val _⟩, ⟨_, rfl, .nil rfl⟩, trivial⟩ ⟨.inr ⟨rfl, _, _, rfl⟩, trivial⟩) hg ?_
  rintro ⟨⟨n_1, b_1⟩, n1⟩ hg
  obtain ⟨m1, o1, rfl, hg, hn1⟩ := iter_some (show iter (fun q' => g_ref01_length.l1 q'.1 q'.2) n1 (n_1, b_1) = some r from hg)
  replace hg : g_ref01_length.l1 n_1 b_1 = some o1 := hg
  show awp _ _ _ _ (mk _ _ _)
  unfold g_ref01_length.l1 at hg
  refine awp_seq ?_
  refine sr_ 1 17 mk_U ?_
  refine c0_ rfl rfl .move rfl rfl ?_
  refine c0_ rfl rfl r_gtr rfl rfl ?_
  refine ch_n fun hU17_6 => ?_
  refine awp_cond rfl (fun h7 => ?_) (fun h7 => ?_)
  ·replace hg := cond_t h7 hg
   refine aw_s ?_
   refine awp_block ?_
   refine sr_ 17 73 hU17_6 ?_
   refine c0_ rfl rfl .move rfl rfl ?_
   obtain ⟨q, hq, hg⟩ := bind_some hg
   refine c0_ rfl rfl (r_rem hq) rfl rfl ?_
   refine c0_ rfl rfl (r_conv_u8 und3 und5) rfl rfl ?_
   refine c0_ rfl rfl (r_buildFull sl82 z5 (by decide) rfl rfl rfl rfl ck5 (cs := [.int .u8 ((u8 q).toNat : Int)]) (.cons .int .nil) rfl (l := ([(u8 q)] : List UInt8)) (f := e8) rfl) rfl rfl ?_
   refine c0_ rfl rfl .move rfl rfl ?_
   obtain ⟨l, hl, hg⟩ := bind_some hg
   refine ch_s (rd := [41, 0]) rfl rfl (r_append sl82 e8_len .row rfl .row rfl hl rfl) rfl rfl ?_
   refine c0_ rfl rfl .assign rfl rfl ?_
   refine ch_n fun hU73_8 => ?_
   refine awp_region (sys _ _ []) 73 97 hU73_8 rfl rfl ?_
   refine c0_ rfl rfl .move rfl rfl ?_
   obtain ⟨q_2, hq_2, hg⟩ := bind_some hg
   refine c0_ rfl rfl (r_quo hq_2) rfl rfl ?_
   refine c0_ rfl rfl .assign rfl rfl ?_
   refine ch_n fun hU97_9 => ?_
   obtain rfl := Option.some.inj hg
   exact ⟨((q_2, l), m1), Nat.lt_succ_self _, hn1, Sub.lists [(0, 57)] rfl rfl ⟨⟨_, rfl, .val _⟩, ⟨_, rfl, .row rfl⟩, trivial⟩ ⟨.inl ⟨57, _, rfl, rfl, ⟨rfl, rfl, rfl⟩⟩, trivial⟩⟩
  ·replace hg := cond_f h7 hg
   refine awp_exit ?_
   repeat first | refine st_ ?_ | refine sn_ ?_
   replace hg := leave hg hn1
   refine sr_ 17 81 hU17_6 ?_
   refine c0_ rfl rfl .move rfl rfl ?_
   refine ch_s (rd := [0]) rfl rfl (r_lenR sl82 e8_len) rfl rfl ?_
   refine c0_ rfl rfl r_add rfl rfl ?_
   refine c0_ rfl rfl (r_conv_u8 und3 und5) rfl rfl ?_
   refine c0_ rfl rfl (r_buildFull sl82 z5 (by decide) rfl rfl rfl rfl ck5 (cs := [.int .u8 ((u8 (W (128 + (b_1.length : Int)))).toNat : Int)]) (.cons .int .nil) rfl (l := ([(u8 (W (128 + (b_1.length : Int))))] : List UInt8)) (f := e8) rfl) rfl rfl ?_
   refine c0_ rfl rfl .move rfl rfl ?_
   obtain ⟨l_2, hl_2, hg⟩ := bind_some hg
   refine ch_s (rd := [49, 0]) rfl rfl (r_append sl82 e8_len .row rfl .row rfl hl_2 rfl) rfl rfl ?_
   refine c0_ rfl rfl .assign rfl rfl ?_
   refine ch_n fun hU81_10 => ?_
   refine aw_r ?_
   obtain rfl := Option.some.inj hg
   exact ⟨[_], _, [], [], .cons (.tmp rfl) .nil, ⟨rfl, rfl⟩, .frz rfl (look_ne rfl), trivial, rfl, rfl, rfl, rfl⟩
theorem w_ref01_put.F (rec : api_Value → Option ((List UInt8))) (hrec : ∀ (v : api_Value) (r : (List UInt8)), rec v = some r → Fn Try.prog 74 0 [.agg [.val (.int .i64 v.Tag), .sl 1 (encL e8 v.Bytes), .val (.bool v.Nested), .sl 4 (encL api_Value.enc v.Elements)]] [] (fun d b => d = .sl 1 (encL e8 r) ∧ b = [])) (v : api_Value) (r : (List UInt8)) (hg : g_ref01_put.F rec v = some r) : Fn Try.prog 74 0 [.agg [.val (.int .i64 v.Tag), .sl 1 (encL e8 v.Bytes), .val (.bool v.Nested), .sl 4 (encL api_Value.enc v.Elements)]] [] (fun d b => d = .sl 1 (encL e8 r) ∧ b = []) := by
 unfold g_ref01_put.F at hg
 refine Fn.of Try.func74 rfl rfl rfl fun w0 I ρ0 => ?_
 show awp _ ⟨w0, I, ρ0, 0, 0, 34⟩ _ _ _
 refine sr_ 0 16 mk_U ?_
 refine c0_ rfl rfl (.box rfl) rfl rfl ?_
 refine c0_ rfl rfl .assign rfl rfl ?_
 refine ch_n fun hU16_1 => ?_
 refine sr_ 16 56 hU16_1 ?_
 refine c0_ rfl rfl (r_buildFull sl82 z5 (by decide) rfl rfl rfl rfl ck5 (cs := []) .nil rfl (l := ([] : List UInt8)) (f := e8) rfl) rfl rfl ?_
 refine c0_ rfl rfl (.fieldP fd97_1 ty82 (by decide)) rfl rfl ?_
 refine ch_s (rd := [0]) rfl rfl (.loadB1 ty82 rfl) rfl rfl ?_
 obtain ⟨l, hl, hg⟩ := bind_some hg
 refine ch_s (rd := [16]) rfl rfl (r_append sl82 e8_len .row rfl .sl rfl hl rfl) rfl rfl ?_
 refine c0_ rfl rfl .assign rfl rfl ?_
 refine ch_n fun hU56_2 => ?_
 refine awp_seq ?_
 refine sr_ 56 64 hU56_2 ?_
 refine c0_ rfl rfl .assign rfl rfl ?_
 refine ch_n fun hU64_3 => ?_
 refine awp_block ?_
 obtain ⟨n1, hg⟩ := loop_some hg
 refine awp_loop (ι := (Int × List UInt8) × Nat) (fun (((i_1, b_1), _) : (Int × List UInt8) × Nat) => mk [(1, .ptr 0 0), (3, .row 1), (4, .val (.int .i64 i_1))] [(0, .box [.val (.int .i64 v.Tag), .sl 1 (encL e8 v.Bytes), .val (.bool v.Nested), .sl 4 (encL api_Value.enc v.Elements)] 97), (1, .row 5 1 (encL e8 b_1))] 2) (fun (((i_1, b_1), nq') : (Int × List UInt8) × Nat) => iter (fun q' => g_ref01_put.l1 rec v q'.1 q'.2) nq' (i_1, b_1) = some r) (fun q => q.2) ((0, l), n1) (Sub.lists [(0, 0), (1, 40)] rfl rfl ⟨⟨_, rfl, .ptr rfl⟩, ⟨_, rfl, .row rfl⟩, ⟨_, rfl, .val _⟩, trivial⟩ ⟨.inl ⟨0, _, rfl, rfl, ⟨rfl, .cons (.val _) (.cons (.sl _ _) (.cons (.val _) (.cons (.sl _ _) .nil)))⟩⟩, .inl ⟨40, _, rfl, rfl, ⟨rfl, rfl, rfl⟩⟩, trivial⟩) hg ?_
 rintro ⟨⟨i_1, b_1⟩, n1⟩ hg
 obtain ⟨m1, o1, rfl, hg, hn1⟩ := iter_some (show iter (fun q' => g_ref01_put.l1 rec v q'.1 q'.2) n1 (i_1, b_1) = some r from hg)
 replace hg : g_ref01_put.l1 rec v i_1 b_1 = some o1 := hg
 show awp _ _ _ _ (mk _ _ _)
 unfold g_ref01_put.l1 at hg
 refine awp_seq ?_
 refine sr_ 2 42 mk_U ?_
 refine c0_ rfl rfl .move rfl rfl ?_
 refine c0_ rfl rfl (.fieldP fd97_3 ty95 (by decide)) rfl rfl ?_
 refine ch_s (rd := [0]) rfl rfl (.loadB1 ty95 rfl) rfl rfl ?_
 refine c0_ rfl rfl (r_lenS sl95 api_Value.enc_len) rfl rfl ?_
 refine c0_ rfl rfl r_lss rfl rfl ?_
 refine ch_n fun hU42_4 => ?_
 refine awp_cond rfl (fun h5 => ?_) (fun h5 => ?_)
 ·replace hg := cond_t h5 hg
  refine aw_s ?_
  refine awp_seq ?_
  refine awp_block ?_
  refine awp_region (sys _ _ []) 42 114 hU42_4 rfl rfl ?_
  refine c0_ rfl rfl .move rfl rfl ?_
  refine c0_ rfl rfl (.fieldP fd97_3 ty95 (by decide)) rfl rfl ?_
  refine ch_s (rd := [0]) rfl rfl (.loadB1 ty95 rfl) rfl rfl ?_
  refine c0_ rfl rfl .move rfl rfl ?_
  obtain ⟨e, he, hg⟩ := bind_some hg
  refine c0_ rfl rfl (r_idxS sl95 api_Value.enc_len (getI_ix he) (getI_at he)) rfl rfl ?_
  refine c0_ rfl rfl (r_loadEA ty97 (enc_cells api_Value.enc_len (getI_at he) (o := 0) (m := 4) (cs := [.int .i64 e.Tag, .sl 1 (encL e8 e.Bytes), .bool e.Nested, .sl 4 (encL api_Value.enc e.Elements)]) (by simp only [api_Value.enc_eq]; rfl) (by decide) rfl) (enc_cells_le api_Value.enc_len (getI_at he) (o := 0) (m := 4) (by decide) rfl)) rfl rfl ?_
  obtain ⟨y, hy, hg⟩ := bind_some hg
  refine ch_callP (rd := []) (ps := []) (gs := []) false rfl (hrec e _ hy) rfl rfl (.cons (.agg (.cons .val (.cons .sl (.cons .val (.cons .sl .nil))))) .nil) rfl rfl (by intro h; cases h) rfl rfl rfl rfl ?_
  obtain ⟨l_2, hl_2, hg⟩ := bind_some hg
  refine ch_s (rd := [1]) rfl rfl (r_append sl82 e8_len .row rfl .sl rfl hl_2 rfl) rfl rfl ?_
  refine c0_ rfl rfl .assign rfl rfl ?_
  refine ch_n fun hU114_6 => ?_
  refine awp_region (sys _ _ []) 114 138 hU114_6 rfl rfl ?_
  refine c0_ rfl rfl .move rfl rfl ?_
  refine c0_ rfl rfl r_add rfl rfl ?_
  refine c0_ rfl rfl .assign rfl rfl ?_
  refine ch_n fun hU138_7 => ?_
  obtain rfl := Option.some.inj hg
  exact ⟨((W (i_1 + 1), l_2), m1), Nat.lt_succ_self _, hn1, Sub.lists [(0, 0), (1, 98)] rfl rfl ⟨⟨_, rfl, .ptr rfl⟩, ⟨_, rfl, .row rfl⟩, ⟨_, rfl, .val _⟩, trivial⟩ ⟨.inl ⟨0, _, rfl, rfl, ⟨rfl, .cons (.val _) (.cons (.sl _ _) (.cons (.val _) (.cons (.sl _ _) .nil)))⟩⟩, .inl ⟨98, _, rfl, rfl, ⟨rfl, rfl, rfl⟩⟩, trivial⟩⟩
 ·replace hg := cond_f h5 hg
  refine awp_exit ?_
  repeat first | refine st_ ?_ | refine sn_ ?_
  replace hg := leave hg hn1
  refine awp_seq ?_
  refine awp_draw (sys _ _ []) (by kernel_rfl) [0, 1, 3, 7, 0, 16, 48, 127, 0, 511, 1023] 42 130 hU42_4 rfl rfl (by kernel_rfl) ?_
  refine c0_ rfl rfl (.fieldP fd97_0 ty3 (by decide)) rfl rfl ?_
  refine ch_s (rd := [0]) rfl rfl (.loadB1 ty3 rfl) rfl rfl ?_
  refine c0_ rfl rfl (r_conv_u8 und3 und5) rfl rfl ?_
  refine c0_ rfl rfl (r_buildFull sl82 z5 (by decide) rfl rfl rfl rfl ck5 (cs := [.int .u8 ((u8 v.Tag).toNat : Int)]) (.cons .int .nil) rfl (l := ([(u8 v.Tag)] : List UInt8)) (f := e8) rfl) rfl rfl ?_
  refine c0_ rfl rfl .move rfl rfl ?_
  refine ch_s (rd := [1]) rfl rfl (r_lenR sl82 e8_len) rfl rfl ?_
  obtain ⟨y_2, hy_2, hg⟩ := bind_some hg
  refine ch_callP (rd := []) (ps := []) (gs := []) false rfl (w_ref01_length (b_1.length : Int) _ hy_2) rfl rfl (.cons .val .nil) rfl rfl (by intro h; cases h) rfl rfl rfl rfl ?_
  obtain ⟨l_3, hl_3, hg⟩ := bind_some hg
  refine ch_s (rd := [66]) rfl rfl (r_append sl82 e8_len .row rfl .sl rfl hl_3 rfl) rfl rfl ?_
  refine c0_ rfl rfl .move rfl rfl ?_
  obtain ⟨l_4, hl_4, hg⟩ := bind_some hg
  refine ch_s (rd := [98, 1]) rfl rfl (r_append sl82 e8_len .row rfl .row rfl hl_4 rfl) rfl rfl ?_
  refine c0_ rfl rfl .assign rfl rfl ?_
  refine ch_n fun hU130_8 => ?_
  refine aw_r ?_
  obtain rfl := Option.some.inj hg
  exact ⟨[_], _, [], [], .cons (.tmp rfl) .nil, ⟨rfl, rfl⟩, .frz rfl (look_ne rfl), trivial, rfl, rfl, rfl, rfl⟩
theorem w_ref01_put (v : api_Value) (r : (List UInt8)) (hg : g_ref01_put v = some r) : Fn Try.prog 74 0 [.agg [.val (.int .i64 v.Tag), .sl 1 (encL e8 v.Bytes), .val (.bool v.Nested), .sl 4 (encL api_Value.enc v.Elements)]] [] (fun d b => d = .sl 1 (encL e8 r) ∧ b = []) :=
 fixT_ind (motive := fun (x : api_Value) (r : (List UInt8)) => Fn Try.prog 74 0 [.agg [.val (.int .i64 x.Tag), .sl 1 (encL e8 x.Bytes), .val (.bool x.Nested), .sl 4 (encL api_Value.enc x.Elements)]] [] (fun d b => d = .sl 1 (encL e8 r) ∧ b = [])) (fun rec hrec x r h => w_ref01_put.F _ (fun v r h => hrec v r h) x r h) v r hg
theorem w_ref01_Encode (v : api_Value) (r : (List UInt8) × Int) (hg : g_ref01_Encode v = some r) : Fn Try.prog 61 0 [.agg [.val (.int .i64 v.Tag), .sl 1 (encL e8 v.Bytes), .val (.bool v.Nested), .sl 4 (encL api_Value.enc v.Elements)]] [] (fun d b => d = .tup [.sl 1 (encL e8 r.1), .val (.int .i64 r.2)] ∧ b = []) := by
 unfold g_ref01_Encode at hg
 refine Fn.of Try.func61 rfl rfl rfl fun w0 I ρ0 => ?_
 show awp _ ⟨w0, I, ρ0, 0, 0, 17⟩ _ _ _
 refine sr_ 0 24 mk_U ?_
 refine c0_ rfl rfl (.box rfl) rfl rfl ?_
 refine c0_ rfl rfl .assign rfl rfl ?_
 refine c0_ rfl rfl .assign rfl rfl ?_
 refine ch_n fun hU24_1 => ?_
 refine awp_seq ?_
 refine sr_ 24 48 hU24_1 ?_
 refine ch_s (rd := [0]) rfl rfl (.loadBA ty97 (Nat.le_of_ble_eq_true rfl)) rfl rfl ?_
 obtain ⟨y, hy, hg⟩ := bind_some hg
 refine ch_callP (rd := []) (ps := []) (gs := []) false rfl (w_ref01_formed v _ hy) rfl rfl (.cons (.agg (.cons .val (.cons .sl (.cons .val (.cons .sl .nil))))) .nil) rfl rfl (by intro h; cases h) rfl rfl rfl rfl ?_
 refine c0_ rfl rfl r_not rfl rfl ?_
 refine ch_n fun hU48_2 => ?_
 refine awp_cond rfl (fun h3 => ?_) (fun h3 => ?_)
 ·replace hg := cond_t h3 hg
  refine sr_ 48 64 hU48_2 ?_
  refine c0_ rfl rfl .assign rfl rfl ?_
  refine c0_ rfl rfl .assign rfl rfl ?_
  refine ch_n fun hU64_4 => ?_
  refine aw_r ?_
  obtain rfl := Option.some.inj hg
  exact ⟨[_, _], _, [], [], .cons (.tmp rfl) (.cons (.tmp rfl) .nil), ⟨rfl, rfl⟩, .tup (.cons (.nils _) (.cons (.val _) .nil)), trivial, rfl, rfl, rfl, rfl⟩
 ·replace hg := cond_f h3 hg
  refine aw_s ?_
  refine awp_seq ?_
  refine sr_ 48 72 hU48_2 ?_
  refine ch_s (rd := [0]) rfl rfl (.loadBA ty97 (Nat.le_of_ble_eq_true rfl)) rfl rfl ?_
  obtain ⟨y_2, hy_2, hg⟩ := bind_some hg
  refine ch_callP (rd := []) (ps := []) (gs := []) false rfl (w_ref01_depth v _ hy_2) rfl rfl (.cons (.agg (.cons .val (.cons .sl (.cons .val (.cons .sl .nil))))) .nil) rfl rfl (by intro h; cases h) rfl rfl rfl rfl ?_
  refine c0_ rfl rfl r_gtr rfl rfl ?_
  refine ch_n fun hU72_5 => ?_
  refine awp_cond rfl (fun h6 => ?_) (fun h6 => ?_)
  ·replace hg := cond_t h6 hg
   refine sr_ 72 88 hU72_5 ?_
   refine c0_ rfl rfl .assign rfl rfl ?_
   refine c0_ rfl rfl .assign rfl rfl ?_
   refine ch_n fun hU88_7 => ?_
   refine aw_r ?_
   obtain rfl := Option.some.inj hg
   exact ⟨[_, _], _, [], [], .cons (.tmp rfl) (.cons (.tmp rfl) .nil), ⟨rfl, rfl⟩, .tup (.cons (.nils _) (.cons (.val _) .nil)), trivial, rfl, rfl, rfl, rfl⟩
  ·replace hg := cond_f h6 hg
   refine aw_s ?_
   refine sr_ 72 96 hU72_5 ?_
   refine ch_s (rd := [0]) rfl rfl (.loadBA ty97 (Nat.le_of_ble_eq_true rfl)) rfl rfl ?_
   obtain ⟨y_3, hy_3, hg⟩ := bind_some hg
   refine ch_callP (rd := []) (ps := []) (gs := []) false rfl (w_ref01_put v _ hy_3) rfl rfl (.cons (.agg (.cons .val (.cons .sl (.cons .val (.cons .sl .nil))))) .nil) rfl rfl (by intro h; cases h) rfl rfl rfl rfl ?_
   refine c0_ rfl rfl .assign rfl rfl ?_
   refine ch_n fun hU96_8 => ?_
   refine awp_seq ?_
   refine sr_ 96 120 hU96_8 ?_
   refine c0_ rfl rfl .move rfl rfl ?_
   refine c0_ rfl rfl (r_lenS sl82 e8_len) rfl rfl ?_
   refine c0_ rfl rfl r_gtr rfl rfl ?_
   refine ch_n fun hU120_9 => ?_
   refine awp_cond rfl (fun h10 => ?_) (fun h10 => ?_)
   ·replace hg := cond_t h10 hg
    refine sr_ 120 136 hU120_9 ?_
    refine c0_ rfl rfl .assign rfl rfl ?_
    refine c0_ rfl rfl .assign rfl rfl ?_
    refine ch_n fun hU136_11 => ?_
    refine aw_r ?_
    obtain rfl := Option.some.inj hg
    exact ⟨[_, _], _, [], [], .cons (.tmp rfl) (.cons (.tmp rfl) .nil), ⟨rfl, rfl⟩, .tup (.cons (.nils _) (.cons (.val _) .nil)), trivial, rfl, rfl, rfl, rfl⟩
   ·replace hg := cond_f h10 hg
    refine aw_s ?_
    refine sr_ 120 144 hU120_9 ?_
    refine c0_ rfl rfl .move rfl rfl ?_
    refine c0_ rfl rfl .assign rfl rfl ?_
    refine c0_ rfl rfl .assign rfl rfl ?_
    refine ch_n fun hU144_12 => ?_
    refine aw_r ?_
    obtain rfl := Option.some.inj hg
    exact ⟨[_, _], _, [], [], .cons (.tmp rfl) (.cons (.tmp rfl) .nil), ⟨rfl, rfl⟩, .tup (.cons (.sl _ _) (.cons (.val _) .nil)), trivial, rfl, rfl, rfl, rfl⟩
theorem w_ref03_Bytes (c : api_Certificate) (r : (List UInt8) × Int) (hg : g_ref03_Bytes c = some r) : Fn Try.prog 46 0 [.agg [.val (.int .i64 c.Serial), .val (.string c.Issuer), .val (.string c.Subject), .val (.int .i64 c.Key.Alg), .val (.int .i64 c.Key.Bits), .val (.int .i64 c.KeyId), .val (.int .i64 c.Hash.Alg), .val (.int .i64 c.Hash.Bits), .val (.int .i64 c.From), .val (.int .i64 c.To), .val (.bool c.Authority), .val (.int .i64 c.Path), .sl 1 (encL eS c.Names), .val (.int .i64 c.Seal.Key), .val (.int .i64 c.Seal.Sum)]] [] (fun d b => d = .tup [.sl 1 (encL e8 r.1), .val (.int .i64 r.2)] ∧ b = []) := by
 unfold g_ref03_Bytes at hg
 refine Fn.of Try.func46 rfl rfl rfl fun w0 I ρ0 => ?_
 show awp _ ⟨w0, I, ρ0, 0, 0, 12⟩ _ _ _
 refine sr_ 0 24 mk_U ?_
 refine c0_ rfl rfl (.box rfl) rfl rfl ?_
 refine c0_ rfl rfl .assign rfl rfl ?_
 refine c0_ rfl rfl .assign rfl rfl ?_
 refine ch_n fun hU24_1 => ?_
 refine awp_seq ?_
 refine sr_ 24 48 hU24_1 ?_
 refine ch_s (rd := [0]) rfl rfl (.loadBA ty45 (Nat.le_of_ble_eq_true rfl)) rfl rfl ?_
 obtain ⟨y, hy, hg⟩ := bind_some hg
 refine ch_callP (rd := []) (ps := []) (gs := []) false rfl (w_ref03_Check c _ hy) rfl rfl (.cons (.agg (.cons .val (.cons .val (.cons .val (.cons .val (.cons .val (.cons .val (.cons .val (.cons .val (.cons .val (.cons .val (.cons .val (.cons .val (.cons .sl (.cons .val (.cons .val .nil)))))))))))))))) .nil) rfl rfl (by intro h; cases h) rfl rfl rfl rfl ?_
 refine c0_ rfl rfl r_neq rfl rfl ?_
 refine ch_n fun hU48_2 => ?_
 refine awp_cond rfl (fun h3 => ?_) (fun h3 => ?_)
 ·replace hg := cond_t h3 hg
  refine sr_ 48 64 hU48_2 ?_
  refine c0_ rfl rfl .assign rfl rfl ?_
  refine c0_ rfl rfl .assign rfl rfl ?_
  refine ch_n fun hU64_4 => ?_
  refine aw_r ?_
  obtain rfl := Option.some.inj hg
  exact ⟨[_, _], _, [], [], .cons (.tmp rfl) (.cons (.tmp rfl) .nil), ⟨rfl, rfl⟩, .tup (.cons (.nils _) (.cons (.val _) .nil)), trivial, rfl, rfl, rfl, rfl⟩
 ·replace hg := cond_f h3 hg
  refine aw_s ?_
  refine sr_ 48 104 hU48_2 ?_
  refine ch_s (rd := [0]) rfl rfl (.loadBA ty45 (Nat.le_of_ble_eq_true rfl)) rfl rfl ?_
  obtain ⟨y_2, hy_2, hg⟩ := bind_some hg
  refine ch_callP (rd := []) (ps := []) (gs := []) false rfl (w_ref03_body c _ hy_2) rfl rfl (.cons (.agg (.cons .val (.cons .val (.cons .val (.cons .val (.cons .val (.cons .val (.cons .val (.cons .val (.cons .val (.cons .val (.cons .val (.cons .val (.cons .sl (.cons .val (.cons .val .nil)))))))))))))))) .nil) rfl rfl (by intro h; cases h) rfl rfl rfl rfl ?_
  obtain ⟨y_3, hy_3, hg⟩ := bind_some hg
  refine ch_callP (rd := []) (ps := []) (gs := []) false rfl (w_ref01_Encode y_2 _ hy_3) rfl rfl (.cons (.agg (.cons .val (.cons .sl (.cons .val (.cons .sl .nil))))) .nil) rfl rfl (by intro h; cases h) rfl rfl rfl rfl ?_
  refine c0_ rfl rfl (.extract rfl) rfl rfl ?_
  refine c0_ rfl rfl (.extract rfl) rfl rfl ?_
  refine c0_ rfl rfl .assign rfl rfl ?_
  refine c0_ rfl rfl .assign rfl rfl ?_
  refine ch_n fun hU104_5 => ?_
  refine aw_r ?_
  obtain rfl := Option.some.inj hg
  exact ⟨[_, _], _, [], [], .cons (.tmp rfl) (.cons (.tmp rfl) .nil), ⟨rfl, rfl⟩, .tup (.cons (.sl _ _) (.cons (.val _) .nil)), trivial, rfl, rfl, rfl, rfl⟩
theorem w_ref03_Sum (b : (List UInt8)) (r : Int) (hg : g_ref03_Sum b = some r) : Fn Try.prog 47 0 [.sl 1 (encL e8 b)] [] (fun d b => d = .val (.int .i64 r) ∧ b = []) := by
 unfold g_ref03_Sum at hg
 refine Fn.of Try.func47 rfl rfl rfl fun w0 I ρ0 => ?_
 show awp _ ⟨w0, I, ρ0, 0, 0, 21⟩ _ _ _
 refine sr_ 0 8 mk_U ?_
 refine c0_ rfl rfl .assign rfl rfl ?_
 refine ch_n fun hU8_1 => ?_
 refine sr_ 8 16 hU8_1 ?_
 refine c0_ rfl rfl .assign rfl rfl ?_
 refine ch_n fun hU16_2 => ?_
 refine awp_seq ?_
 refine sr_ 16 24 hU16_2 ?_
 refine c0_ rfl rfl .assign rfl rfl ?_
 refine ch_n fun hU24_3 => ?_
 refine awp_block ?_
 obtain ⟨n1, hg⟩ := loop_some hg
 refine awp_loop (ι := (Int × Int) × Nat) (fun (((h_1, i_1), _) : (Int × Int) × Nat) => mk [(0, .sl 1 (encL e8 b)), (3, .val (.int .u32 h_1)), (4, .val (.int .i64 i_1))] [] 0) (fun (((h_1, i_1), nq') : (Int × Int) × Nat) => iter (fun q' => g_ref03_Sum.l1 b q'.1 q'.2) nq' (h_1, i_1) = some r) (fun q => q.2) ((2166136261, 0), n1) (Sub.lists [] rfl rfl ⟨⟨_, rfl, .sl _ _⟩, ⟨_, rfl, .val _⟩, ⟨_, rfl, .val _⟩, trivial⟩ trivial) hg ?_
 rintro ⟨⟨h_1, i_1⟩, n1⟩ hg
 obtain ⟨m1, o1, rfl, hg, hn1⟩ := iter_some (show iter (fun q' => g_ref03_Sum.l1 b q'.1 q'.2) n1 (h_1, i_1) = some r from hg)
 replace hg : g_ref03_Sum.l1 b h_1 i_1 = some o1 := hg
 show awp _ _ _ _ (mk _ _ _)
 unfold g_ref03_Sum.l1 at hg
 refine awp_seq ?_
 refine sr_ 0 32 mk_U ?_
 refine c0_ rfl rfl .move rfl rfl ?_
 refine c0_ rfl rfl .move rfl rfl ?_
 refine c0_ rfl rfl (r_lenS sl82 e8_len) rfl rfl ?_
 refine c0_ rfl rfl r_lss rfl rfl ?_
 refine ch_n fun hU32_4 => ?_
 refine awp_cond rfl (fun h5 => ?_) (fun h5 => ?_)
 ·replace hg := cond_t h5 hg
  refine aw_s ?_
  refine awp_seq ?_
  refine awp_block ?_
  refine awp_region (sys _ _ []) 32 104 hU32_4 rfl rfl ?_
  iterate 3 refine c0_ rfl rfl .move rfl rfl ?_
  obtain ⟨e, he, hg⟩ := bind_some hg
  refine c0_ rfl rfl (r_idxS sl82 e8_len (getI_ix he) (getI_at he)) rfl rfl ?_
  refine c0_ rfl rfl (r_loadE1 ty5 (enc_cell e8_len (getI_at he) (o := 0) (c := .int .u8 (e.toNat : Int)) rfl rfl)) rfl rfl ?_
  refine c0_ rfl rfl (r_convK und5 und99) rfl rfl ?_
  refine c0_ rfl rfl r_xorK rfl rfl ?_
  refine c0_ rfl rfl r_mulK rfl rfl ?_
  refine c0_ rfl rfl .assign rfl rfl ?_
  refine ch_n fun hU104_6 => ?_
  refine awp_region (sys _ _ []) 104 128 hU104_6 rfl rfl ?_
  refine c0_ rfl rfl .move rfl rfl ?_
  refine c0_ rfl rfl r_add rfl rfl ?_
  refine c0_ rfl rfl .assign rfl rfl ?_
  refine ch_n fun hU128_7 => ?_
  obtain rfl := Option.some.inj hg
  exact ⟨((IntKind.wrap .u32 ((xorK .u32 h_1 (IntKind.wrap .u32 (e.toNat : Int))) * 16777619), W (i_1 + 1)), m1), Nat.lt_succ_self _, hn1, Sub.lists [] rfl rfl ⟨⟨_, rfl, .sl _ _⟩, ⟨_, rfl, .val _⟩, ⟨_, rfl, .val _⟩, trivial⟩ trivial⟩
 ·replace hg := cond_f h5 hg
  refine awp_exit ?_
  repeat first | refine st_ ?_ | refine sn_ ?_
  replace hg := leave hg hn1
  refine sr_ 32 56 hU32_4 ?_
  refine c0_ rfl rfl .move rfl rfl ?_
  refine c0_ rfl rfl (r_conv_i64 und99 und3) rfl rfl ?_
  refine c0_ rfl rfl .assign rfl rfl ?_
  refine ch_n fun hU56_8 => ?_
  refine aw_r ?_
  obtain rfl := Option.some.inj hg
  exact ⟨[_], _, [], [], .cons (.tmp rfl) .nil, ⟨rfl, rfl⟩, .val _, trivial, rfl, rfl, rfl, rfl⟩
end Go.Proofs.Ytadjcdhcdmiifaa
