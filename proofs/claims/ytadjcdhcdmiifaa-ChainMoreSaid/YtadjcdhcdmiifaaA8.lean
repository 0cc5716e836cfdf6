/- The program computes the plain functions. -/
import Derived.Test.YtadjcdhcdmiifaaT1
import Derived.Test.YtadjcdhcdmiifaaA5
import Derived.Test.YtadjcdhcdmiifaaA6
import Derived.Test.YtadjcdhcdmiifaaA7
set_option linter.unusedVariables false
set_option linter.unusedSimpArgs false
set_option maxRecDepth 100000
set_option maxHeartbeats 1600000
namespace Go.Proofs.Ytadjcdhcdmiifaa
open Go.RowKit
theorem w_make_Dice_Some (d : cipherplanmake_Dice) (low : Int) (high : Int) (r : (List Int) × cipherplanmake_Dice) (hg : g_make_Dice_Some d low high = some r) : Fn Try.prog 21 1 [.ptr 0 0, .val (.int .i64 low), .val (.int .i64 high)] [.box [.sl 1 (encL eI d.L), .val (.int .i64 d.At)] 58] (fun d b => d = .sl 1 (encL eI r.1) ∧ b = [.box [.sl 1 (encL eI r.2.L), .val (.int .i64 r.2.At)] 58]) := by
 unfold g_make_Dice_Some at hg
 refine Fn.of Try.func21 rfl rfl rfl fun w0 I ρ0 => ?_
 show awp _ ⟨w0, I, ρ0, 1, 1, 23⟩ _ _ _
 refine sr_ 1 9 mk_U ?_
 refine c0_ rfl rfl .assign rfl rfl ?_
 refine ch_n fun hU9_1 => ?_
 refine sr_ 9 17 hU9_1 ?_
 refine c0_ rfl rfl .assign rfl rfl ?_
 refine ch_n fun hU17_2 => ?_
 refine awp_seq ?_
 refine sr_ 17 33 hU17_2 ?_
 refine c0_ rfl rfl .move rfl rfl ?_
 refine c0_ rfl rfl .assign rfl rfl ?_
 refine ch_n fun hU33_3 => ?_
 refine awp_block ?_
 obtain ⟨n1, hg⟩ := loop_some hg
 refine awp_loop (ι := (Int × cipherplanmake_Dice × List Int) × Nat) (fun (((i_1, d_1, out_1), _) : (Int × cipherplanmake_Dice × List Int) × Nat) => mk [(0, .ptr 0 0), (2, .val (.int .i64 high)), (7, .row 1), (8, .val (.int .i64 i_1))] [(0, .box [.sl 1 (encL eI d_1.L), .val (.int .i64 d_1.At)] 58), (1, .row 3 1 (encL eI out_1))] 2) (fun (((i_1, d_1, out_1), nq') : (Int × cipherplanmake_Dice × List Int) × Nat) => iter (fun q' => g_make_Dice_Some.l1 high q'.1 q'.2.1 q'.2.2) nq' (i_1, d_1, out_1) = some r) (fun q => q.2) ((low, d, ([] : List Int)), n1) (Sub.lists [(0, 0)] rfl rfl ⟨⟨_, rfl, .ptr rfl⟩, ⟨_, rfl, .val _⟩, ⟨_, rfl, .nil rfl⟩, ⟨_, rfl, .val _⟩, trivial⟩ ⟨.inl ⟨0, _, rfl, rfl, ⟨rfl, .cons (.sl _ _) (.cons (.val _) .nil)⟩⟩, .inr ⟨rfl, _, _, rfl⟩, trivial⟩) hg ?_
 rintro ⟨⟨i_1, d_1, out_1⟩, n1⟩ hg
 obtain ⟨m1, o1, rfl, hg, hn1⟩ := iter_some (show iter (fun q' => g_make_Dice_Some.l1 high q'.1 q'.2.1 q'.2.2) n1 (i_1, d_1, out_1) = some r from hg)
 replace hg : g_make_Dice_Some.l1 high i_1 d_1 out_1 = some o1 := hg
 show awp _ _ _ _ (mk _ _ _)
 unfold g_make_Dice_Some.l1 at hg
 refine awp_seq ?_
 refine sr_ 2 26 mk_U ?_
 refine c0_ rfl rfl .move rfl rfl ?_
 refine c0_ rfl rfl .move rfl rfl ?_
 refine c0_ rfl rfl r_leq rfl rfl ?_
 refine ch_n fun hU26_4 => ?_
 refine awp_cond rfl (fun h5 => ?_) (fun h5 => ?_)
 ·replace hg := cond_t h5 hg
  refine aw_s ?_
  refine awp_cut (ι := cipherplanmake_Dice × List Int) (fun ((d_2, out_2) : cipherplanmake_Dice × List Int) => mk [(0, .ptr 0 0), (2, .val (.int .i64 high)), (7, .row 1), (8, .val (.int .i64 i_1))] [(0, .box [.sl 1 (encL eI d_2.L), .val (.int .i64 d_2.At)] 58), (1, .row 3 1 (encL eI out_2))] 2) (fun ((d_2, out_2) : cipherplanmake_Dice × List Int) => g_make_Dice_Some.j2 i_1 d_2 out_2 = some o1) ?_ ?_
  ·refine awp_block ?_
   refine sr_ 26 50 hU26_4 ?_
   refine c0_ rfl rfl .move rfl rfl ?_
   obtain ⟨y, hy, hg⟩ := bind_some hg
   refine ch_callP (rd := [0]) (ps := [0]) (gs := []) false rfl (w_make_Dice_Next d_1 2 _ hy) rfl rfl (.cons (.ptr rfl) (.cons .val .nil)) ⟨_, _, _, rfl, .head _, ⟨_, rfl, (by repeat' (first | exact AgL.nil | apply AgL.cons | exact Ag.val | exact Ag.sl | exact Ag.nils))⟩, rfl⟩ rfl (by intro h; cases h) rfl rfl rfl rfl ?_
   refine c0_ rfl rfl r_eql rfl rfl ?_
   refine ch_n fun hU50_6 => ?_
   refine awp_cond rfl (fun h7 => ?_) (fun h7 => ?_)
   ·replace hg := cond_t h7 hg
    refine awp_region (sys _ _ []) 50 90 hU50_6 rfl rfl ?_
    refine c0_ rfl rfl .move rfl rfl ?_
    refine c0_ rfl rfl .move rfl rfl ?_
    refine c0_ rfl rfl (r_buildFull sl22 z3 (by decide) rfl rfl rfl rfl ck3 (cs := [.int .i64 i_1]) (.cons .int .nil) rfl (l := ([i_1] : List Int)) (f := eI) rfl) rfl rfl ?_
    obtain ⟨l, hl, hg⟩ := bind_some hg
    refine ch_s (rd := [1, 66]) rfl rfl (r_append sl22 eI_len .row rfl .row rfl hl rfl) rfl rfl ?_
    refine c0_ rfl rfl .assign rfl rfl ?_
    refine ch_n fun hU90_8 => ?_
    exact ⟨(y.2, l), hg, Sub.lists [(0, 0), (1, 74)] rfl rfl ⟨⟨_, rfl, .ptr rfl⟩, ⟨_, rfl, .val _⟩, ⟨_, rfl, .row rfl⟩, ⟨_, rfl, .val _⟩, trivial⟩ ⟨.inl ⟨0, _, rfl, rfl, ⟨rfl, .cons (.sl _ _) (.cons (.val _) .nil)⟩⟩, .inl ⟨74, _, rfl, rfl, ⟨rfl, rfl, rfl⟩⟩, trivial⟩⟩
   ·replace hg := cond_f h7 hg
    refine aw_s ?_
    exact ⟨(y.2, out_1), hg, Sub.lists [(0, 0), (1, 1)] rfl rfl ⟨⟨_, rfl, .ptr rfl⟩, ⟨_, rfl, .val _⟩, ⟨_, rfl, .row rfl⟩, ⟨_, rfl, .val _⟩, trivial⟩ ⟨.inl ⟨0, _, rfl, rfl, ⟨rfl, .cons (.sl _ _) (.cons (.val _) .nil)⟩⟩, .inl ⟨1, _, rfl, rfl, ⟨rfl, rfl, rfl⟩⟩, trivial⟩⟩
  ·rintro ⟨d_2, out_2⟩ hg
   replace hg : g_make_Dice_Some.j2 i_1 d_2 out_2 = some o1 := hg
   show awp _ _ _ _ (mk _ _ _)
   unfold g_make_Dice_Some.j2 at hg
   refine awp_region (sys _ _ []) 2 26 mk_U rfl rfl ?_
   refine c0_ rfl rfl .move rfl rfl ?_
   refine c0_ rfl rfl r_add rfl rfl ?_
   refine c0_ rfl rfl .assign rfl rfl ?_
   refine ch_n fun hU26_9 => ?_
   obtain rfl := Option.some.inj hg
   exact ⟨((W (i_1 + 1), d_2, out_2), m1), Nat.lt_succ_self _, hn1, Sub.lists [(0, 0), (1, 1)] rfl rfl ⟨⟨_, rfl, .ptr rfl⟩, ⟨_, rfl, .val _⟩, ⟨_, rfl, .row rfl⟩, ⟨_, rfl, .val _⟩, trivial⟩ ⟨.inl ⟨0, _, rfl, rfl, ⟨rfl, .cons (.sl _ _) (.cons (.val _) .nil)⟩⟩, .inl ⟨1, _, rfl, rfl, ⟨rfl, rfl, rfl⟩⟩, trivial⟩⟩
 ·replace hg := cond_f h5 hg
  refine awp_exit ?_
  repeat first | refine st_ ?_ | refine sn_ ?_
  replace hg := leave hg hn1
  refine sr_ 26 42 hU26_4 ?_
  refine c0_ rfl rfl .move rfl rfl ?_
  refine c0_ rfl rfl .assign rfl rfl ?_
  refine ch_n fun hU42_10 => ?_
  refine aw_r ?_
  obtain rfl := Option.some.inj hg
  exact ⟨[_], _, [_], [(0, 0)], .cons (.tmp rfl) .nil, ⟨rfl, rfl⟩, .frz rfl (look_ne rfl), ⟨.inl ⟨0, _, rfl, rfl, ⟨rfl, .cons (.sl _ _) (.cons (.val _) .nil)⟩⟩, trivial⟩, rfl, rfl, rfl, rfl⟩
theorem w_law04_ChainMore (l : (List Int)) (a : UInt8) (b : UInt8) (c : UInt8) (r : Bool) (hg : g_law04_ChainMore l a b c = some r) : Fn Try.prog 5 0 [.sl 1 (encL eI l), .val (.int .u8 (a.toNat : Int)), .val (.int .u8 (b.toNat : Int)), .val (.int .u8 (c.toNat : Int))] [] (fun d b => d = .val (.bool r) ∧ b = []) := by
 unfold g_law04_ChainMore at hg
 refine Fn.of Try.func5 rfl rfl rfl fun w0 I ρ0 => ?_
 show awp _ ⟨w0, I, ρ0, 0, 0, 89⟩ _ _ _
 refine sr_ 0 8 mk_U ?_
 refine c0_ rfl rfl .assign rfl rfl ?_
 refine ch_n fun hU8_1 => ?_
 refine awp_seq ?_
 refine sr_ 8 32 hU8_1 ?_
 refine c0_ rfl rfl .move rfl rfl ?_
 obtain ⟨y, hy, hg⟩ := bind_some hg
 refine ch_callP (rd := []) (ps := []) (gs := []) false rfl (w_make_Light l _ hy) rfl rfl (.cons .sl .nil) rfl rfl (by intro h; cases h) rfl rfl rfl rfl ?_
 refine c0_ rfl rfl r_not rfl rfl ?_
 refine ch_n fun hU32_2 => ?_
 refine awp_cond rfl (fun h3 => ?_) (fun h3 => ?_)
 ·replace hg := cond_t h3 hg
  refine sr_ 32 48 hU32_2 ?_
  obtain ⟨y_2, hy_2, hg⟩ := bind_some hg
  refine ch_callP (rd := []) (ps := []) (gs := []) false rfl (w_law04_awake  _ hy_2) rfl rfl .nil rfl rfl (by intro h; cases h) rfl rfl rfl rfl ?_
  refine c0_ rfl rfl .assign rfl rfl ?_
  refine ch_n fun hU48_4 => ?_
  refine aw_r ?_
  obtain rfl := Option.some.inj hg
  exact ⟨[_], _, [], [], .cons (.tmp rfl) .nil, ⟨rfl, rfl⟩, .val _, trivial, rfl, rfl, rfl, rfl⟩
 ·replace hg := cond_f h3 hg
  refine aw_s ?_
  refine sr_ 32 56 hU32_2 ?_
  refine c0_ rfl rfl .move rfl rfl ?_
  obtain ⟨y_3, hy_3, hg⟩ := bind_some hg
  refine ch_call (rd := []) (ps := []) (gs := []) false rfl (w_make_Roll l _ hy_3) rfl rfl (.cons .sl .nil) rfl rfl (by intro h; cases h) rfl (by intro h; first | (cases h; done) | exact ⟨_, _, ⟨rfl, rfl⟩, by simp, by simp⟩) ?_
  rintro _ _ ⟨rfl, rfl⟩
  refine c0_ rfl rfl .assign rfl rfl ?_
  refine ch_n fun hU56_5 => ?_
  refine sr_ 56 80 hU56_5 ?_
  refine c0_ rfl rfl .move rfl rfl ?_
  obtain ⟨y_4, hy_4, hg⟩ := bind_some hg
  refine ch_callP (rd := [40]) (ps := [40]) (gs := []) false rfl (w_law04_made y_3 _ hy_4) rfl rfl (.cons (.ptr rfl) .nil) ⟨_, _, _, rfl, .head _, ⟨_, rfl, (by repeat' (first | exact AgL.nil | apply AgL.cons | exact Ag.val | exact Ag.sl | exact Ag.nils))⟩, rfl⟩ rfl (by intro h; cases h) rfl rfl rfl rfl ?_
  refine c0_ rfl rfl .assign rfl rfl ?_
  refine ch_n fun hU80_6 => ?_
  refine sr_ 80 104 hU80_6 ?_
  refine c0_ rfl rfl .move rfl rfl ?_
  obtain ⟨y_5, hy_5, hg⟩ := bind_some hg
  refine ch_callP (rd := [40]) (ps := [40]) (gs := []) false rfl (w_make_Dice_Some y_4.2 1 4 _ hy_5) rfl rfl (.cons (.ptr rfl) (.cons .val (.cons .val .nil))) ⟨_, _, _, rfl, .head _, ⟨_, rfl, (by repeat' (first | exact AgL.nil | apply AgL.cons | exact Ag.val | exact Ag.sl | exact Ag.nils))⟩, rfl⟩ rfl (by intro h; cases h) rfl rfl rfl rfl ?_
  refine c0_ rfl rfl .assign rfl rfl ?_
  refine ch_n fun hU104_7 => ?_
  refine sr_ 104 128 hU104_7 ?_
  refine c0_ rfl rfl .move rfl rfl ?_
  obtain ⟨y_6, hy_6, hg⟩ := bind_some hg
  refine ch_callP (rd := [40]) (ps := [40]) (gs := []) false rfl (w_make_Dice_Some y_5.2 1 2 _ hy_6) rfl rfl (.cons (.ptr rfl) (.cons .val (.cons .val .nil))) ⟨_, _, _, rfl, .head _, ⟨_, rfl, (by repeat' (first | exact AgL.nil | apply AgL.cons | exact Ag.val | exact Ag.sl | exact Ag.nils))⟩, rfl⟩ rfl (by intro h; cases h) rfl rfl rfl rfl ?_
  refine c0_ rfl rfl .assign rfl rfl ?_
  refine ch_n fun hU128_8 => ?_
  refine sr_ 128 200 hU128_8 ?_
  refine c0_ rfl rfl .move rfl rfl ?_
  refine c0_ rfl rfl (r_conv_8i (u := a) und5 und3) rfl rfl ?_
  refine c0_ rfl rfl .move rfl rfl ?_
  refine c0_ rfl rfl (r_conv_8i (u := a) und5 und3) rfl rfl ?_
  refine c0_ rfl rfl .move rfl rfl ?_
  refine c0_ rfl rfl (r_conv_8i (u := b) und5 und3) rfl rfl ?_
  refine c0_ rfl rfl r_add rfl rfl ?_
  refine c0_ rfl rfl .assign rfl rfl ?_
  refine c0_ rfl rfl .assign rfl rfl ?_
  refine ch_n fun hU200_9 => ?_
  refine sr_ 200 280 hU200_9 ?_
  refine c0_ rfl rfl .move rfl rfl ?_
  refine c0_ rfl rfl .move rfl rfl ?_
  refine c0_ rfl rfl (r_conv_8i (u := c) und5 und3) rfl rfl ?_
  refine c0_ rfl rfl .move rfl rfl ?_
  refine c0_ rfl rfl .move rfl rfl ?_
  refine c0_ rfl rfl r_sub rfl rfl ?_
  refine c0_ rfl rfl r_add rfl rfl ?_
  obtain ⟨q, hq, hg⟩ := bind_some hg
  refine c0_ rfl rfl (r_rem hq) rfl rfl ?_
  refine c0_ rfl rfl r_add rfl rfl ?_
  refine c0_ rfl rfl .assign rfl rfl ?_
  refine ch_n fun hU280_10 => ?_
  refine sr_ 280 376 hU280_10 ?_
  iterate 4 refine c0_ rfl rfl .move rfl rfl ?_
  obtain ⟨y_7, hy_7, hg⟩ := bind_some hg
  refine ch_callP (rd := []) (ps := []) (gs := []) false rfl (w_chain_Check y_4.1 y_6.1 y_5.1 (a.toNat : Int) (⟨#[119, 101, 98]⟩ : ByteArray) _ hy_7) rfl rfl (.cons .sl (.cons .sl (.cons .sl (.cons .val (.cons .val .nil))))) rfl rfl (by intro h; cases h) rfl rfl rfl rfl ?_
  iterate 4 refine c0_ rfl rfl .move rfl rfl ?_
  obtain ⟨y_8, hy_8, hg⟩ := bind_some hg
  refine ch_callP (rd := []) (ps := []) (gs := []) false rfl (w_chain_Check y_4.1 y_6.1 y_5.1 (W ((a.toNat : Int) + (b.toNat : Int))) (⟨#[119, 101, 98]⟩ : ByteArray) _ hy_8) rfl rfl (.cons .sl (.cons .sl (.cons .sl (.cons .val (.cons .val .nil))))) rfl rfl (by intro h; cases h) rfl rfl rfl rfl ?_
  refine c0_ rfl rfl .assign rfl rfl ?_
  refine c0_ rfl rfl .assign rfl rfl ?_
  refine ch_n fun hU376_11 => ?_
  refine awp_seq ?_
  refine awp_cut (ι := Bool) (fun (x83_1 : Bool) => mk [(83, .val (.bool x83_1))] [] 0) (fun (x83_1 : Bool) => g_law04_ChainMore.j1 x83_1 = some r) ?_ ?_
  ·refine awp_region (sys _ _ []) 376 600 hU376_11 rfl rfl ?_
   refine c0_ rfl rfl .move rfl rfl ?_
   refine c0_ rfl rfl r_eql rfl rfl ?_
   refine c0_ rfl rfl .move rfl rfl ?_
   rcases Bool.eq_false_or_eq_true (decide (y_7 = 0)) with h12 | h12
   ·replace hg := cond_t h12 hg
    refine c0_ (gdv_t rfl rfl h12) rfl .move rfl rfl ?_
    refine c0_ (gdv_t rfl rfl h12) rfl (r_buildFull sl22 z3 (by decide) rfl rfl rfl rfl ck3 (cs := [.int .i64 1, .int .i64 2, .int .i64 77]) (.cons .int (.cons .int (.cons .int .nil))) rfl (l := ([1, 2, 77] : List Int)) (f := eI) rfl) rfl rfl ?_
    obtain ⟨y_9, hy_9, hg⟩ := bind_some hg
    refine ch_callP (rd := []) (ps := []) (gs := []) false (gdv_t rfl rfl h12) (w_law04_hashes  _ hy_9) rfl rfl .nil rfl rfl (by intro h; cases h) rfl rfl rfl rfl ?_
    refine c0_ (gdv_t rfl rfl h12) rfl .move rfl rfl ?_
    obtain ⟨y_10, hy_10, hg⟩ := bind_some hg
    refine ch_callP (rd := [408]) (ps := []) (gs := []) true (gdv_t rfl rfl h12) (w_chain_Check y_4.1 ([1, 2, 77] : List Int) y_9 (a.toNat : Int) (⟨#[119, 101, 98]⟩ : ByteArray) _ hy_10) rfl rfl (.cons .sl (.cons (.row rfl (.head _) rfl) (.cons .sl (.cons .val (.cons .val .nil))))) rfl rfl (fun _ => ⟨by simp [flatD, flatDs], by simp [flatB, flatDs, flatD]⟩) rfl rfl rfl rfl ?_
    refine c0_ (gdv_t rfl rfl h12) rfl r_neq rfl rfl ?_
    refine c0_ (gdv_t rfl rfl h12) rfl .move rfl rfl ?_
    rcases Bool.eq_false_or_eq_true (!decide (y_10 = 0)) with h13 | h13
    ·replace hg := cond_t h13 hg
     iterate 4 refine ch_skip (gdv_f rfl rfl h13) rfl ?_
     refine c0_ (gdv_t rfl rfl h12) rfl (r_pickT h13) rfl rfl ?_
     refine c0_ (gdv_t rfl rfl h12) rfl .move rfl rfl ?_
     iterate 3 refine ch_skip (gdv_f rfl rfl rfl) rfl ?_
     iterate 6 refine ch_skip rfl rfl ?_
     refine ch_skip (gdv_f rfl rfl rfl) rfl ?_
     refine c0_ (gdv_t rfl rfl h12) rfl (r_pickT rfl) rfl rfl ?_
     refine c0_ rfl rfl (r_pickT h12) rfl rfl ?_
     refine ch_n fun hU600_14 => ?_
     exact ⟨true, hg, Sub.lists [] rfl rfl ⟨⟨_, rfl, .val _⟩, trivial⟩ trivial⟩
    ·replace hg := cond_f h13 hg
     refine c0_ (gdv_t rfl rfl h13) rfl .move rfl rfl ?_
     refine c0_ (gdv_t rfl rfl h13) rfl .move rfl rfl ?_
     obtain ⟨y_11, hy_11, hg⟩ := bind_some hg
     refine ch_callP (rd := []) (ps := []) (gs := []) false (gdv_t rfl rfl h13) (w_chain_Until y_4.1 _ hy_11) rfl rfl (.cons .sl .nil) rfl rfl (by intro h; cases h) rfl rfl rfl rfl ?_
     refine c0_ (gdv_t rfl rfl h13) rfl r_geq rfl rfl ?_
     refine c0_ (gdv_t rfl rfl h12) rfl (r_pickF h13) rfl rfl ?_
     refine c0_ (gdv_t rfl rfl h12) rfl .move rfl rfl ?_
     rcases Bool.eq_false_or_eq_true (decide (y_11 ≤ (a.toNat : Int))) with h15 | h15
     ·replace hg := cond_t h15 hg
      iterate 3 refine ch_skip (gdv_f rfl rfl h15) rfl ?_
      iterate 6 refine ch_skip rfl rfl ?_
      refine ch_skip (gdv_f rfl rfl h15) rfl ?_
      refine c0_ (gdv_t rfl rfl h12) rfl (r_pickT h15) rfl rfl ?_
      refine c0_ rfl rfl (r_pickT h12) rfl rfl ?_
      refine ch_n fun hU600_16 => ?_
      exact ⟨true, hg, Sub.lists [] rfl rfl ⟨⟨_, rfl, .val _⟩, trivial⟩ trivial⟩
     ·replace hg := cond_f h15 hg
      refine c0_ (gdv_t rfl rfl h15) rfl .move rfl rfl ?_
      refine c0_ (gdv_t rfl rfl h15) rfl r_eql rfl rfl ?_
      refine c0_ (gdv_t rfl rfl h15) rfl .move rfl rfl ?_
      rcases Bool.eq_false_or_eq_true (decide (y_8 = 0)) with h17 | h17
      ·replace hg := cond_t h17 hg
       iterate 4 refine c0_ (gdv_t rfl rfl h17) rfl .move rfl rfl ?_
       obtain ⟨y_12, hy_12, hg⟩ := bind_some hg
       refine ch_callP (rd := []) (ps := []) (gs := []) false (gdv_t rfl rfl h17) (w_chain_Check y_4.1 y_6.1 y_5.1 (W ((a.toNat : Int) + q)) (⟨#[119, 101, 98]⟩ : ByteArray) _ hy_12) rfl rfl (.cons .sl (.cons .sl (.cons .sl (.cons .val (.cons .val .nil))))) rfl rfl (by intro h; cases h) rfl rfl rfl rfl ?_
       refine c0_ (gdv_t rfl rfl h17) rfl r_neq rfl rfl ?_
       refine c0_ (gdv_t rfl rfl h15) rfl (r_pickT h17) rfl rfl ?_
       refine c0_ (gdv_t rfl rfl h12) rfl (r_pickF h15) rfl rfl ?_
       refine c0_ rfl rfl (r_pickT h12) rfl rfl ?_
       refine ch_n fun hU600_18 => ?_
       exact ⟨!decide (y_12 = 0), hg, Sub.lists [] rfl rfl ⟨⟨_, rfl, .val _⟩, trivial⟩ trivial⟩
      ·replace hg := cond_f h17 hg
       iterate 6 refine ch_skip (gdv_f rfl rfl h17) rfl ?_
       refine c0_ (gdv_t rfl rfl h15) rfl (r_pickF h17) rfl rfl ?_
       refine c0_ (gdv_t rfl rfl h12) rfl (r_pickF h15) rfl rfl ?_
       refine c0_ rfl rfl (r_pickT h12) rfl rfl ?_
       refine ch_n fun hU600_19 => ?_
       exact ⟨false, hg, Sub.lists [] rfl rfl ⟨⟨_, rfl, .val _⟩, trivial⟩ trivial⟩
   ·replace hg := cond_f h12 hg
    iterate 7 refine ch_skip (gdv_f rfl rfl h12) rfl ?_
    iterate 4 refine ch_skip rfl rfl ?_
    refine ch_skip (gdv_f rfl rfl h12) rfl ?_
    refine ch_skip (gdv_f rfl rfl h12) rfl ?_
    iterate 10 refine ch_skip rfl rfl ?_
    refine ch_skip (gdv_f rfl rfl h12) rfl ?_
    refine c0_ rfl rfl (r_pickF h12) rfl rfl ?_
    refine ch_n fun hU600_20 => ?_
    exact ⟨false, hg, Sub.lists [] rfl rfl ⟨⟨_, rfl, .val _⟩, trivial⟩ trivial⟩
  ·rintro x83_1 hg
   replace hg : g_law04_ChainMore.j1 x83_1 = some r := hg
   show awp _ _ _ _ (mk _ _ _)
   unfold g_law04_ChainMore.j1 at hg
   refine awp_cond rfl (fun h21 => ?_) (fun h21 => ?_)
   ·replace hg := cond_t h21 hg
    refine sr_ 0 8 mk_U ?_
    refine c0_ rfl rfl .assign rfl rfl ?_
    refine ch_n fun hU8_22 => ?_
    refine aw_r ?_
    obtain rfl := Option.some.inj hg
    exact ⟨[_], _, [], [], .cons (.tmp rfl) .nil, ⟨rfl, rfl⟩, .val _, trivial, rfl, rfl, rfl, rfl⟩
   ·replace hg := cond_f h21 hg
    refine aw_s ?_
    refine sr_ 0 48 mk_U ?_
    obtain ⟨y_13, hy_13, hg⟩ := bind_some hg
    refine ch_callP (rd := []) (ps := []) (gs := []) false rfl (w_law04_hashes  _ hy_13) rfl rfl .nil rfl rfl (by intro h; cases h) rfl rfl rfl rfl ?_
    obtain ⟨y_14, hy_14, hg⟩ := bind_some hg
    refine ch_callP (rd := []) (ps := []) (gs := []) false rfl (w_ref02_Has y_13 1 _ hy_14) rfl rfl (.cons .sl (.cons .val .nil)) rfl rfl (by intro h; cases h) rfl rfl rfl rfl ?_
    refine c0_ rfl rfl .move rfl rfl ?_
    rcases Bool.eq_false_or_eq_true (y_14) with h23 | h23
    ·replace hg := cond_t h23 hg
     obtain ⟨y_15, hy_15, hg⟩ := bind_some hg
     refine ch_callP (rd := []) (ps := []) (gs := []) false (gdv_t rfl rfl h23) (w_law04_awake  _ hy_15) rfl rfl .nil rfl rfl (by intro h; cases h) rfl rfl rfl rfl ?_
     refine c0_ rfl rfl (r_pickT h23) rfl rfl ?_
     refine c0_ rfl rfl .assign rfl rfl ?_
     refine ch_n fun hU48_24 => ?_
     refine aw_r ?_
     obtain rfl := Option.some.inj hg
     exact ⟨[_], _, [], [], .cons (.tmp rfl) .nil, ⟨rfl, rfl⟩, .val _, trivial, rfl, rfl, rfl, rfl⟩
    ·replace hg := cond_f h23 hg
     refine ch_skip (gdv_f rfl rfl h23) rfl ?_
     refine c0_ rfl rfl (r_pickF h23) rfl rfl ?_
     refine c0_ rfl rfl .assign rfl rfl ?_
     refine ch_n fun hU48_25 => ?_
     refine aw_r ?_
     obtain rfl := Option.some.inj hg
     exact ⟨[_], _, [], [], .cons (.tmp rfl) .nil, ⟨rfl, rfl⟩, .val _, trivial, rfl, rfl, rfl, rfl⟩
end Go.Proofs.Ytadjcdhcdmiifaa
