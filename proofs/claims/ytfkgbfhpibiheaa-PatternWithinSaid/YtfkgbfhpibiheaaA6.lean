/- The program computes the plain functions. -/
import Derived.Test.YtfkgbfhpibiheaaT1
import Derived.Test.YtfkgbfhpibiheaaA1
import Derived.Test.YtfkgbfhpibiheaaA4
import Derived.Test.YtfkgbfhpibiheaaA5
set_option linter.unusedVariables false
set_option linter.unusedSimpArgs false
set_option maxRecDepth 100000
set_option maxHeartbeats 1600000
namespace Go.Proofs.Ytfkgbfhpibiheaa
open Go.RowKit
theorem w_make_Dice_One (d : cipherplanmake_Dice) (n : Int) (r : Bool × cipherplanmake_Dice) (hg : g_make_Dice_One d n = some r) : Fn Try.prog 23 1 [.ptr 0 0, .val (.int .i64 n)] [.box [.sl 1 (encL eI d.L), .val (.int .i64 d.At)] 64] (fun d' b' => d' = .val (.bool r.1) ∧ b' = [.box [.sl 1 (encL eI r.2.L), .val (.int .i64 r.2.At)] 64]) := by
 unfold g_make_Dice_One at hg
 refine Fn.of Try.func23 rfl rfl rfl fun w0 I ρ0 => ?_
 show awp _ ⟨w0, I, ρ0, 1, 1, 11⟩ _ _ _
 refine sr_ 1 9 mk_U ?_
 refine go_ ?_
 refine ch_n fun hU => ?_
 refine sr_ 9 65 hU ?_
 refine go_ ?_
 obtain ⟨y, hy, hg⟩ := bind_some hg
 refine cb_ [0] [0] [] false (w_make_Dice_Next _ _ _ hy) ?_
 refine go_ ?_
 refine ch_n fun hU => ?_
 refine aw_r ?_
 obtain rfl := Option.some.inj hg
 exact fin_ [(0, 0)] ⟨rfl, rfl⟩
theorem w_law11_PatternWithin (l : (List Int)) (r : Bool) (hg : g_law11_PatternWithin l = some r) : Fn Try.prog 6 0 [.sl 1 (encL eI l)] [] (fun d' b' => d' = .val (.bool r) ∧ b' = []) := by
 unfold g_law11_PatternWithin at hg
 refine Fn.of Try.func6 rfl rfl rfl fun w0 I ρ0 => ?_
 show awp _ ⟨w0, I, ρ0, 0, 0, 142⟩ _ _ _
 refine sr_ 0 8 mk_U ?_
 refine go_ ?_
 refine ch_n fun hU => ?_
 refine awp_seq ?_
 refine sr_ 8 32 hU ?_
 refine go_ ?_
 obtain ⟨y, hy, hg⟩ := bind_some hg
 refine ca_ (w_make_Light _ _ hy) ?_
 refine go_ ?_
 refine ch_n fun hU => ?_
 refine cg_ rfl hg (fun h3 hg => ?_) fun h3 hg => ?_
 ·refine awp_seq ?_
  refine awp_region (sys _ _ []) 32 48 hU rfl rfl ?_
  obtain ⟨y_2, hy_2, hg⟩ := bind_some hg
  refine ca_ (w_law11_awake _ hy_2) ?_
  refine go_ ?_
  refine ch_n fun hU => ?_
  refine aw_r ?_
  obtain rfl := Option.some.inj hg
  exact fin_ [] ⟨rfl, rfl⟩
 ·refine awp_skip ?_
  repeat first | refine st_ ?_ | refine sn_ ?_
  refine sr_ 32 56 hU ?_
  refine go_ ?_
  obtain ⟨y_3, hy_3, hg⟩ := bind_some hg
  refine ch_call (rd := []) (ps := []) (gs := []) false rfl (w_make_Roll _ _ hy_3) rfl rfl (.cons .sl .nil) rfl rfl (by intro h; cases h) rfl (by intro h; first | (cases h; done) | exact ⟨_, _, ⟨rfl, rfl⟩, by simp, by simp⟩) ?_
  rintro _ _ ⟨rfl, rfl⟩
  refine go_ ?_
  refine ch_n fun hU => ?_
  refine sr_ 56 80 hU ?_
  refine go_ ?_
  obtain ⟨y_4, hy_4, hg⟩ := bind_some hg
  refine ch_call (rd := [40]) (ps := [40]) (gs := []) false rfl (w_make_Patterns_own _ _ hy_4) rfl rfl (.cons (.ptr rfl) .nil) ⟨_, _, _, rfl, .head _, ⟨_, rfl, (by repeat' (first | exact AgL.nil | apply AgL.cons | exact Ag.val | exact Ag.sl | exact Ag.nils | exact Ag.ptr rfl | exact Ag.rowK rfl))⟩, rfl⟩ rfl (by intro h; cases h) rfl (by intro h; first | (cases h; done) | exact ⟨_, _, ⟨rfl, rfl⟩, by simp, by simp⟩) ?_
  rintro _ _ ⟨rfl, rfl⟩
  refine go_ ?_
  refine ch_n fun hU => ?_
  refine awp_seq ?_
  refine awp_draw (sys _ _ []) (by kernel_rfl) [0, 1, 3, 7, 0, 16, 0, 64, 192, 448, 1008, 0, 4080, 8176, 16383, 0, 65535] 80 216 hU rfl rfl (by kernel_rfl) ?_
  refine go_ ?_
  obtain ⟨e, he, hg⟩ := bind_some hg
  refine go_ ?_
  refine ch_s (rd := [64]) rfl rfl (r_loadRA ty43 (enc_cells api_Pattern.enc_len (getI_at he) (o := 0) (m := 2) (cs := [.int .i64 e.Use.Alg, .int .i64 e.Use.Bits]) rfl (by decide) rfl) (enc_cells_le api_Pattern.enc_len (getI_at he) (o := 0) (m := 2) (by decide) rfl)) rfl rfl ?_
  refine go_ ?_
  obtain ⟨y_5, hy_5, hg⟩ := bind_some hg
  refine ch_call (rd := [40]) (ps := [40]) (gs := []) false rfl (w_law11_text_own _ _ _ hy_5) rfl rfl (.cons (.ptr rfl) (.cons .val .nil)) ⟨_, _, _, rfl, .head _, ⟨_, rfl, (by repeat' (first | exact AgL.nil | apply AgL.cons | exact Ag.val | exact Ag.sl | exact Ag.nils | exact Ag.ptr rfl | exact Ag.rowK rfl))⟩, rfl⟩ rfl (by intro h; cases h) rfl (by intro h; first | (cases h; done) | exact ⟨_, _, ⟨rfl, rfl⟩, by simp, by simp⟩) ?_
  rintro _ _ ⟨rfl, rfl⟩
  refine go_ ?_
  refine ch_s (rd := [64]) rfl rfl (.loadR1 ty27 (enc_cell api_Pattern.enc_len (getI_at he) (o := 2) (c := .sl 1 (encL e8 e.Bytes)) rfl rfl)) rfl rfl ?_
  obtain ⟨l_2, hl_2, hg⟩ := bind_some hg
  refine ch_s (rd := [120]) rfl rfl (r_append sl27 e8_len .row rfl .sl rfl hl_2 rfl) rfl rfl ?_
  refine go_ ?_
  obtain ⟨y_6, hy_6, hg⟩ := bind_some hg
  refine ch_call (rd := [40]) (ps := [40]) (gs := []) false rfl (w_law11_text_own _ _ _ hy_6) rfl rfl (.cons (.ptr rfl) (.cons .val .nil)) ⟨_, _, _, rfl, .head _, ⟨_, rfl, (by repeat' (first | exact AgL.nil | apply AgL.cons | exact Ag.val | exact Ag.sl | exact Ag.nils | exact Ag.ptr rfl | exact Ag.rowK rfl))⟩, rfl⟩ rfl (by intro h; cases h) rfl (by intro h; first | (cases h; done) | exact ⟨_, _, ⟨rfl, rfl⟩, by simp, by simp⟩) ?_
  rintro _ _ ⟨rfl, rfl⟩
  obtain ⟨l_3, hl_3, hg⟩ := bind_some hg
  refine ch_s (rd := [160, 176]) rfl rfl (r_append sl27 e8_len .row rfl .row rfl hl_3 rfl) rfl rfl ?_
  refine c0_ rfl rfl (.build (r := [.val (.int .i64 e.Use.Alg), .val (.int .i64 e.Use.Bits), .row 184]) und45 pl45 z45 (by kernel_rfl) rfl) rfl rfl ?_
  refine go_ ?_
  refine ch_n fun hU => ?_
  refine awp_seq ?_
  refine awp_sub (σ' := mk [(3, .ptr 0 0), (4, .row 1), (5, .ptr 2 0)] [(0, .box [.sl 1 (encL eI y_6.2.L), .val (.int .i64 y_6.2.At)] 64), (1, .row 45 3 (encL api_Pattern.enc y_4.1)), (2, .box [.val (.int .i64 e.Use.Alg), .val (.int .i64 e.Use.Bits), .sl 1 (encL e8 l_3)] 45)] 3) (sub_ [(0, 40), (1, 64), (2, 200)]) ?_
  refine awp_region (sys _ _ []) 3 43 mk_U rfl rfl ?_
  refine go_ ?_
  refine c0_ rfl rfl (r_buildFull sl30 z45 (by decide) rfl rfl rfl rfl ck45 (cs := [.int .i64 e.Use.Alg, .int .i64 e.Use.Bits, .sl 1 (encL e8 l_3)]) (.cons .int (.cons .int (.cons .sl .nil))) rfl (l := ([(api_Pattern.mk e.Use l_3)] : List api_Pattern)) (f := api_Pattern.enc) rfl) rfl rfl ?_
  obtain ⟨l_4, hl_4, hg⟩ := bind_some hg
  refine ch_s (rd := [1, 19]) rfl rfl (r_append sl30 api_Pattern.enc_len .row rfl .row rfl hl_4 rfl) rfl rfl ?_
  refine go_ ?_
  refine ch_n fun hU => ?_
  refine awp_seq ?_
  refine awp_draw (sys _ _ []) (by kernel_rfl) [0, 1, 0, 4, 15, 0, 63, 127, 255] 43 115 hU rfl rfl (by kernel_rfl) ?_
  refine go_ ?_
  obtain ⟨y_7, hy_7, hg⟩ := bind_some hg
  refine ch_call (rd := [0]) (ps := [0]) (gs := []) false rfl (w_law11_text_own _ _ _ hy_7) rfl rfl (.cons (.ptr rfl) (.cons .val .nil)) ⟨_, _, _, rfl, .head _, ⟨_, rfl, (by repeat' (first | exact AgL.nil | apply AgL.cons | exact Ag.val | exact Ag.sl | exact Ag.nils | exact Ag.ptr rfl | exact Ag.rowK rfl))⟩, rfl⟩ rfl (by intro h; cases h) rfl (by intro h; first | (cases h; done) | exact ⟨_, _, ⟨rfl, rfl⟩, by simp, by simp⟩) ?_
  rintro _ _ ⟨rfl, rfl⟩
  refine go_ ?_
  obtain ⟨l_5, hl_5, hg⟩ := bind_some hg
  refine ch_s (rd := [51]) rfl rfl (r_append sl27 e8_len .row rfl .sl rfl hl_5 rfl) rfl rfl ?_
  refine go_ ?_
  obtain ⟨y_8, hy_8, hg⟩ := bind_some hg
  refine ch_call (rd := [0]) (ps := [0]) (gs := []) false rfl (w_law11_text_own _ _ _ hy_8) rfl rfl (.cons (.ptr rfl) (.cons .val .nil)) ⟨_, _, _, rfl, .head _, ⟨_, rfl, (by repeat' (first | exact AgL.nil | apply AgL.cons | exact Ag.val | exact Ag.sl | exact Ag.nils | exact Ag.ptr rfl | exact Ag.rowK rfl))⟩, rfl⟩ rfl (by intro h; cases h) rfl (by intro h; first | (cases h; done) | exact ⟨_, _, ⟨rfl, rfl⟩, by simp, by simp⟩) ?_
  rintro _ _ ⟨rfl, rfl⟩
  obtain ⟨l_6, hl_6, hg⟩ := bind_some hg
  refine ch_s (rd := [75, 91]) rfl rfl (r_append sl27 e8_len .row rfl .row rfl hl_6 rfl) rfl rfl ?_
  refine go_ ?_
  refine ch_n fun hU => ?_
  refine awp_cut (ι := cipherplanmake_Dice × List UInt8) (fun ((d_2, x_2) : cipherplanmake_Dice × List UInt8) => mk [(3, .ptr 0 0), (4, .row 1), (6, .row 2)] [(0, .box [.sl 1 (encL eI d_2.L), .val (.int .i64 d_2.At)] 64), (1, .row 45 3 (encL api_Pattern.enc l_4)), (2, .row 5 1 (encL e8 x_2))] 3) (fun ((d_2, x_2) : cipherplanmake_Dice × List UInt8) => g_law11_PatternWithin.j2 l_4 d_2 x_2 = some r) ?_ ?_
  ·refine awp_seq ?_
   refine awp_region (sys _ _ []) 115 131 hU rfl rfl ?_
   refine go_ ?_
   obtain ⟨y_9, hy_9, hg⟩ := bind_some hg
   refine cb_ [0] [0] [] false (w_make_Dice_One _ _ _ hy_9) ?_
   refine ch_n fun hU => ?_
   refine cg_ rfl hg (fun h11 hg => ?_) fun h11 hg => ?_
   ·refine awp_region (sys _ _ []) 131 155 hU rfl rfl ?_
    refine go_ ?_
    obtain ⟨y_10, hy_10, hg⟩ := bind_some hg
    refine ch_call (rd := [0]) (ps := [0]) (gs := []) false rfl (w_law11_text_own _ _ _ hy_10) rfl rfl (.cons (.ptr rfl) (.cons .val .nil)) ⟨_, _, _, rfl, .head _, ⟨_, rfl, (by repeat' (first | exact AgL.nil | apply AgL.cons | exact Ag.val | exact Ag.sl | exact Ag.nils | exact Ag.ptr rfl | exact Ag.rowK rfl))⟩, rfl⟩ rfl (by intro h; cases h) rfl (by intro h; first | (cases h; done) | exact ⟨_, _, ⟨rfl, rfl⟩, by simp, by simp⟩) ?_
    rintro _ _ ⟨rfl, rfl⟩
    refine go_ ?_
    refine ch_n fun hU => ?_
    exact ⟨(y_10.2, y_10.1), hg, sub_ [(0, 0), (1, 27), (2, 139)]⟩
   ·refine awp_skip ?_
    repeat first | refine st_ ?_ | refine sn_ ?_
    exact ⟨(y_9.2, l_6), hg, sub_ [(0, 0), (1, 27), (2, 99)]⟩
  ·rintro ⟨d_2, x_2⟩ hg
   replace hg : g_law11_PatternWithin.j2 l_4 d_2 x_2 = some r := hg
   show awp _ _ _ _ (mk _ _ _)
   unfold g_law11_PatternWithin.j2 at hg
   refine sr_ 3 51 mk_U ?_
   refine go_ ?_
   obtain ⟨y_11, hy_11, hg⟩ := bind_some hg
   refine cb_ [0] [0] [] false (w_make_Dice_Next _ _ _ hy_11) ?_
   refine go_ ?_
   refine ch_n fun hU => ?_
   refine awp_seq ?_
   refine awp_sub (σ' := mk [(4, .sl 3 (encL api_Pattern.enc l_4)), (6, .row 0), (7, .val (.int .i64 y_11.1))] [(0, .row 5 1 (encL e8 x_2))] 1) (sub_ [(0, 2)]) ?_
   refine awp_sub (σ' := mk [(4, .sl 3 (encL api_Pattern.enc l_4)), (6, .sl 1 (encL e8 x_2)), (7, .val (.int .i64 y_11.1))] [] 0) (sub_ []) ?_
   refine awp_region (sys _ _ []) 0 64 mk_U rfl rfl ?_
   refine go_ ?_
   obtain ⟨y_12, hy_12, hg⟩ := bind_some hg
   refine ca_ (w_pattern_First _ _ _ hy_12) ?_
   refine go_ ?_
   refine ch_n fun hU => ?_
   refine sr_ 64 144 hU ?_
   refine go_ ?_
   obtain ⟨l_7, hl_7, hg⟩ := bind_some hg
   refine c0_ rfl rfl (r_sliS_hi sl27 e8_len hl_7) rfl rfl ?_
   obtain ⟨y_13, hy_13, hg⟩ := bind_some hg
   refine ca_ (w_pattern_First _ _ _ hy_13) ?_
   refine go_ ?_
   refine ch_n fun hU => ?_
   refine awp_seq ?_
   refine awp_cut (ι := Bool) (fun (x118_5 : Bool) => mk [(4, .sl 3 (encL api_Pattern.enc l_4)), (8, .sl 1 (encL eI y_12.1)), (10, .sl 1 (encL eI y_13.1)), (118, .val (.bool x118_5))] [] 0) (fun (x118_5 : Bool) => g_law11_PatternWithin.j5 l_4 y_12 y_13 x118_5 = some r) ?_ ?_
   ·refine awp_draw (sys _ _ []) (by kernel_rfl) [0, 1, 3, 7, 15, 31, 63, 127, 255, 127, 639, 2047, 4095, 8191, 16383, 32767, 16383, 81919, 262143, 524287, 1048575, 2097151, 2097151, 6291455, 14680063, 33554431, 67108863, 134217727, 268435455, 536870911, 1073741823, 2147483647, 4294967295, 8589934591, 17179869183, 34359738367, 68719476735, 17179869183, 17179869183, 292057776127, 841813590015, 2078764171263, 4277787426815, 8675833937919, 17592186044415, 35184372088831, 70368744177663, 140737488355327] 144 528 hU rfl rfl (by kernel_rfl) ?_
    refine go_ ?_
    rcases bc_ hg with ⟨h16, hg⟩ | ⟨h16, hg⟩
    ·refine go_ ?_
     refine ch_n fun hU => ?_
     exact ⟨true, hg, sub_ []⟩
    ·refine go_ ?_
     rcases bc_ hg with ⟨h18, hg⟩ | ⟨h18, hg⟩
     ·refine go_ ?_
      refine ch_n fun hU => ?_
      exact ⟨true, hg, sub_ []⟩
     ·refine go_ ?_
      rcases bc_ hg with ⟨h20, hg⟩ | ⟨h20, hg⟩
      ·refine go_ ?_
       refine ch_n fun hU => ?_
       exact ⟨true, hg, sub_ []⟩
      ·refine go_ ?_
       rcases bc_ hg with ⟨h22, hg⟩ | ⟨h22, hg⟩
       ·refine go_ ?_
        refine ch_n fun hU => ?_
        exact ⟨true, hg, sub_ []⟩
       ·refine go_ ?_
        obtain ⟨e_2, he_2, hg⟩ := bind_some hg
        refine go_ ?_
        refine c0_ (gdv_t rfl rfl h22) rfl (r_loadE1 ty3 (enc_cell eI_len (getI_at he_2) (o := 0) (c := .int .i64 e_2) rfl rfl)) rfl rfl ?_
        refine go_ ?_
        rcases bc_ hg with ⟨h24, hg⟩ | ⟨h24, hg⟩
        ·refine go_ ?_
         obtain ⟨e_3, he_3, hg⟩ := bind_some hg
         refine go_ ?_
         refine c0_ (gdv_t rfl rfl h24) rfl (r_loadE1 ty3 (enc_cell eI_len (getI_at he_3) (o := 0) (c := .int .i64 e_3) rfl rfl)) rfl rfl ?_
         refine go_ ?_
         rcases bc_ hg with ⟨h25, hg⟩ | ⟨h25, hg⟩
         ·refine go_ ?_
          refine ch_n fun hU => ?_
          exact ⟨true, hg, sub_ []⟩
         ·refine go_ ?_
          refine c0_ (gdv_t rfl rfl h25) rfl (r_loadE1 ty3 (enc_cell eI_len (getI_at he_3) (o := 0) (c := .int .i64 e_3) rfl rfl)) rfl rfl ?_
          refine go_ ?_
          refine c0_ (gdv_t rfl rfl h25) rfl (r_loadE1 ty3 (enc_cell eI_len (getI_at he_2) (o := 0) (c := .int .i64 e_2) rfl rfl)) rfl rfl ?_
          refine go_ ?_
          refine ch_n fun hU => ?_
          exact ⟨decide ((W (e_2 + 3)) < e_3), hg, sub_ []⟩
        ·refine go_ ?_
         refine ch_n fun hU => ?_
         exact ⟨false, hg, sub_ []⟩
   ·rintro x118_5 hg
    replace hg : g_law11_PatternWithin.j5 l_4 y_12 y_13 x118_5 = some r := hg
    show awp _ _ _ _ (mk _ _ _)
    unfold g_law11_PatternWithin.j5 at hg
    refine cg_ rfl hg (fun h29 hg => ?_) fun h29 hg => ?_
    ·refine awp_seq ?_
     refine awp_region (sys _ _ []) 0 8 mk_U rfl rfl ?_
     refine go_ ?_
     refine ch_n fun hU => ?_
     refine aw_r ?_
     obtain rfl := Option.some.inj hg
     exact fin_ [] ⟨rfl, rfl⟩
    ·refine awp_skip ?_
     repeat first | refine st_ ?_ | refine sn_ ?_
     refine awp_seq ?_
     refine sr_ 0 8 mk_U ?_
     refine go_ ?_
     refine ch_n fun hU => ?_
     refine awp_block ?_
     refine lp_ (fun (i_6 : Int) => mk [(4, .sl 3 (encL api_Pattern.enc l_4)), (8, .sl 1 (encL eI y_12.1)), (10, .sl 1 (encL eI y_13.1)), (12, .val (.int .i64 i_6))] [] 0) hg (sub_ []) ?_
     rintro i_6 m6 o6 hg hn6
     replace hg : g_law11_PatternWithin.l6 l_4 y_12 y_13 i_6 = some o6 := hg
     show awp _ _ _ _ (mk _ _ _)
     unfold g_law11_PatternWithin.l6 at hg
     refine awp_seq ?_
     refine sr_ 0 32 mk_U ?_
     refine go_ ?_
     refine ch_n fun hU => ?_
     refine cg_ rfl hg (fun h33 hg => ?_) fun h33 hg => ?_
     ·refine awp_skip ?_
      repeat first | refine st_ ?_ | refine sn_ ?_
      refine awp_seq ?_
      refine awp_block ?_
      refine awp_cut (ι := Bool) (fun (x140_7 : Bool) => mk [(4, .sl 3 (encL api_Pattern.enc l_4)), (8, .sl 1 (encL eI y_12.1)), (10, .sl 1 (encL eI y_13.1)), (12, .val (.int .i64 i_6)), (140, .val (.bool x140_7))] [] 0) (fun (x140_7 : Bool) => g_law11_PatternWithin.j7 i_6 x140_7 = some o6) ?_ ?_
      ·refine awp_draw (sys _ _ []) (by kernel_rfl) [0, 0, 3, 7, 15, 31, 63, 63, 255, 511, 63, 63, 3135, 7231, 16383, 32767] 32 160 hU rfl rfl (by kernel_rfl) ?_
       refine go_ ?_
       obtain ⟨e_4, he_4, hg⟩ := bind_some hg
       refine go_ ?_
       refine c0_ rfl rfl (r_loadE1 ty3 (enc_cell eI_len (getI_at he_4) (o := 0) (c := .int .i64 e_4) rfl rfl)) rfl rfl ?_
       refine go_ ?_
       rcases bc_ hg with ⟨h34, hg⟩ | ⟨h34, hg⟩
       ·refine go_ ?_
        obtain ⟨e_5, he_5, hg⟩ := bind_some hg
        refine go_ ?_
        refine c0_ (gdv_t rfl rfl h34) rfl (r_loadE1 ty3 (enc_cell eI_len (getI_at he_5) (o := 0) (c := .int .i64 e_5) rfl rfl)) rfl rfl ?_
        refine go_ ?_
        refine c0_ (gdv_t rfl rfl h34) rfl (r_loadE1 ty3 (enc_cell eI_len (getI_at he_4) (o := 0) (c := .int .i64 e_4) rfl rfl)) rfl rfl ?_
        refine go_ ?_
        refine ch_n fun hU => ?_
        exact ⟨!decide (e_5 = e_4), hg, sub_ []⟩
       ·refine go_ ?_
        refine ch_n fun hU => ?_
        exact ⟨false, hg, sub_ []⟩
      ·rintro x140_7 hg
       replace hg : g_law11_PatternWithin.j7 i_6 x140_7 = some o6 := hg
       show awp _ _ _ _ (mk _ _ _)
       unfold g_law11_PatternWithin.j7 at hg
       refine cg_ rfl hg (fun h37 hg => ?_) fun h37 hg => ?_
       ·refine awp_seq ?_
        refine awp_region (sys _ _ []) 0 8 mk_U rfl rfl ?_
        refine go_ ?_
        refine ch_n fun hU => ?_
        refine aw_r ?_
        replace hg := leave hg hn6
        obtain rfl := Option.some.inj hg
        exact fin_ [] ⟨rfl, rfl⟩
       ·refine awp_skip ?_
        repeat first | refine st_ ?_ | refine sn_ ?_
        refine awp_region (sys _ _ []) 0 24 mk_U rfl rfl ?_
        refine go_ ?_
        refine ch_n fun hU => ?_
        obtain rfl := Option.some.inj hg
        exact ⟨(W (i_6 + 1), m6), Nat.lt_succ_self _, hn6, sub_ []⟩
     ·refine awp_exit ?_
      repeat first | refine st_ ?_ | refine sn_ ?_
      replace hg := leave hg hn6
      refine sr_ 32 48 hU ?_
      obtain ⟨y_14, hy_14, hg⟩ := bind_some hg
      refine ca_ (w_law11_awake _ hy_14) ?_
      refine go_ ?_
      refine ch_n fun hU => ?_
      refine aw_r ?_
      obtain rfl := Option.some.inj hg
      exact fin_ [] ⟨rfl, rfl⟩
end Go.Proofs.Ytfkgbfhpibiheaa
