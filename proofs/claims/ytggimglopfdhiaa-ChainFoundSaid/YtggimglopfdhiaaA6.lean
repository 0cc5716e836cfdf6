/- The program computes the plain functions. -/
import Derived.Test.YtggimglopfdhiaaT1
import Derived.Test.YtggimglopfdhiaaA1
import Derived.Test.YtggimglopfdhiaaA4
import Derived.Test.YtggimglopfdhiaaA5
set_option linter.unusedVariables false
set_option linter.unusedSimpArgs false
set_option maxRecDepth 100000
set_option maxHeartbeats 1600000
namespace Go.Proofs.Ytggimglopfdhiaa
open Go.RowKit
theorem w_ref02_SameTexts (a : (List ByteArray)) (b : (List ByteArray)) (r : Bool) (hg : g_ref02_SameTexts a b = some r) : Fn Try.prog 30 0 [.sl 1 (encL eS a), .sl 1 (encL eS b)] [] (fun d b => d = .val (.bool r) ∧ b = []) := by
 unfold g_ref02_SameTexts at hg
 refine Fn.of Try.func30 rfl rfl rfl fun w0 I ρ0 => ?_
 show awp _ ⟨w0, I, ρ0, 0, 0, 26⟩ _ _ _
 refine sr_ 0 8 mk_U ?_
 refine go_ ?_
 refine ch_n fun hU => ?_
 refine awp_seq ?_
 refine sr_ 8 48 hU ?_
 refine go_ ?_
 refine ch_n fun hU => ?_
 refine cg_ rfl hg (fun h3 hg => ?_) fun h3 hg => ?_
 ·refine awp_seq ?_
  refine awp_region (sys _ _ []) 48 56 hU rfl rfl ?_
  refine go_ ?_
  refine ch_n fun hU => ?_
  refine aw_r ?_
  obtain rfl := Option.some.inj hg
  exact fin_ [] ⟨rfl, rfl⟩
 ·refine awp_skip ?_
  repeat first | refine st_ ?_ | refine sn_ ?_
  refine awp_seq ?_
  refine sr_ 48 56 hU ?_
  refine go_ ?_
  refine ch_n fun hU => ?_
  refine awp_block ?_
  refine lp_ (fun (i_1 : Int) => mk [(0, .sl 1 (encL eS a)), (1, .sl 1 (encL eS b)), (5, .val (.int .i64 i_1))] [] 0) hg (sub_ []) ?_
  rintro i_1 m1 o1 hg hn1
  replace hg : g_ref02_SameTexts.l1 a b i_1 = some o1 := hg
  show awp _ _ _ _ (mk _ _ _)
  unfold g_ref02_SameTexts.l1 at hg
  refine awp_seq ?_
  refine sr_ 0 32 mk_U ?_
  refine go_ ?_
  refine ch_n fun hU => ?_
  refine cg_ rfl hg (fun h7 hg => ?_) fun h7 hg => ?_
  ·refine awp_skip ?_
   repeat first | refine st_ ?_ | refine sn_ ?_
   refine awp_seq ?_
   refine awp_block ?_
   refine awp_seq ?_
   refine awp_draw (sys _ _ []) (by kernel_rfl) [0, 0, 3, 7, 0, 0, 48, 112, 255] 32 104 hU rfl rfl (by kernel_rfl) ?_
   refine go_ ?_
   obtain ⟨e, he, hg⟩ := bind_some hg
   refine go_ ?_
   refine c0_ rfl rfl (r_loadE1 ty9 (enc_cell eS_len (getI_at he) (o := 0) (c := .str e) rfl rfl)) rfl rfl ?_
   refine go_ ?_
   obtain ⟨e_2, he_2, hg⟩ := bind_some hg
   refine go_ ?_
   refine c0_ rfl rfl (r_loadE1 ty9 (enc_cell eS_len (getI_at he_2) (o := 0) (c := .str e_2) rfl rfl)) rfl rfl ?_
   refine go_ ?_
   refine ch_n fun hU => ?_
   refine cg_ rfl hg (fun h9 hg => ?_) fun h9 hg => ?_
   ·refine awp_seq ?_
    refine awp_region (sys _ _ []) 104 112 hU rfl rfl ?_
    refine go_ ?_
    refine ch_n fun hU => ?_
    refine aw_r ?_
    replace hg := leave hg hn1
    obtain rfl := Option.some.inj hg
    exact fin_ [] ⟨rfl, rfl⟩
   ·refine awp_skip ?_
    repeat first | refine st_ ?_ | refine sn_ ?_
    refine awp_region (sys _ _ []) 104 128 hU rfl rfl ?_
    refine go_ ?_
    refine ch_n fun hU => ?_
    obtain rfl := Option.some.inj hg
    exact ⟨(W (i_1 + 1), m1), Nat.lt_succ_self _, hn1, sub_ []⟩
  ·refine awp_exit ?_
   repeat first | refine st_ ?_ | refine sn_ ?_
   replace hg := leave hg hn1
   refine sr_ 32 40 hU ?_
   refine go_ ?_
   refine ch_n fun hU => ?_
   refine aw_r ?_
   obtain rfl := Option.some.inj hg
   exact fin_ [] ⟨rfl, rfl⟩
theorem w_ref03_Same (a : api_Certificate) (b : api_Certificate) (r : Bool) (hg : g_ref03_Same a b = some r) : Fn Try.prog 13 0 [.agg (api_Certificate.dv a), .agg (api_Certificate.dv b)] [] (fun d b => d = .val (.bool r) ∧ b = []) := by
 unfold g_ref03_Same at hg
 refine Fn.of Try.func13 rfl rfl rfl fun w0 I ρ0 => ?_
 show awp _ ⟨w0, I, ρ0, 0, 0, 87⟩ _ _ _
 refine sr_ 0 24 mk_U ?_
 refine go_ ?_
 refine ch_n fun hU => ?_
 refine sr_ 24 688 hU ?_
 refine go_ ?_
 rcases bc_ hg with ⟨h2, hg⟩ | ⟨h2, hg⟩
 ·refine go_ ?_
  rcases bc_ hg with ⟨h3, hg⟩ | ⟨h3, hg⟩
  ·refine go_ ?_
   rcases bc_ hg with ⟨h4, hg⟩ | ⟨h4, hg⟩
   ·refine go_ ?_
    refine c0_ (gdv_t rfl rfl h4) rfl (steq30_eql a.Key b.Key) rfl rfl ?_
    refine go_ ?_
    rcases bc_ hg with ⟨h5, hg⟩ | ⟨h5, hg⟩
    ·refine go_ ?_
     rcases bc_ hg with ⟨h6, hg⟩ | ⟨h6, hg⟩
     ·refine go_ ?_
      refine c0_ (gdv_t rfl rfl h6) rfl (steq30_eql a.Hash b.Hash) rfl rfl ?_
      refine go_ ?_
      rcases bc_ hg with ⟨h7, hg⟩ | ⟨h7, hg⟩
      ·refine go_ ?_
       rcases bc_ hg with ⟨h8, hg⟩ | ⟨h8, hg⟩
       ·refine go_ ?_
        rcases bc_ hg with ⟨h9, hg⟩ | ⟨h9, hg⟩
        ·refine go_ ?_
         refine c0_ (gdv_t rfl rfl h9) rfl (r_beql und4) rfl rfl ?_
         refine go_ ?_
         rcases bc_ hg with ⟨h10, hg⟩ | ⟨h10, hg⟩
         ·refine go_ ?_
          rcases bc_ hg with ⟨h11, hg⟩ | ⟨h11, hg⟩
          ·refine go_ ?_
           obtain ⟨y, hy, hg⟩ := bind_some hg
           refine ca_ (w_ref02_SameTexts _ _ _ hy) ?_
           refine go_ ?_
           rcases bc_ hg with ⟨h12, hg⟩ | ⟨h12, hg⟩
           ·refine go_ ?_
            refine c0_ (gdv_t rfl rfl h12) rfl (steq38_eql a.Seal b.Seal) rfl rfl ?_
            refine go_ ?_
            refine ch_n fun hU => ?_
            refine aw_r ?_
            obtain rfl := Option.some.inj hg
            exact fin_ [] ⟨rfl, rfl⟩
           ·refine go_ ?_
            refine ch_n fun hU => ?_
            refine aw_r ?_
            obtain rfl := Option.some.inj hg
            exact fin_ [] ⟨rfl, rfl⟩
          ·refine go_ ?_
           refine ch_n fun hU => ?_
           refine aw_r ?_
           obtain rfl := Option.some.inj hg
           exact fin_ [] ⟨rfl, rfl⟩
         ·refine go_ ?_
          refine ch_n fun hU => ?_
          refine aw_r ?_
          obtain rfl := Option.some.inj hg
          exact fin_ [] ⟨rfl, rfl⟩
        ·refine go_ ?_
         refine ch_n fun hU => ?_
         refine aw_r ?_
         obtain rfl := Option.some.inj hg
         exact fin_ [] ⟨rfl, rfl⟩
       ·refine go_ ?_
        refine ch_n fun hU => ?_
        refine aw_r ?_
        obtain rfl := Option.some.inj hg
        exact fin_ [] ⟨rfl, rfl⟩
      ·refine go_ ?_
       refine ch_n fun hU => ?_
       refine aw_r ?_
       obtain rfl := Option.some.inj hg
       exact fin_ [] ⟨rfl, rfl⟩
     ·refine go_ ?_
      refine ch_n fun hU => ?_
      refine aw_r ?_
      obtain rfl := Option.some.inj hg
      exact fin_ [] ⟨rfl, rfl⟩
    ·refine go_ ?_
     refine ch_n fun hU => ?_
     refine aw_r ?_
     obtain rfl := Option.some.inj hg
     exact fin_ [] ⟨rfl, rfl⟩
   ·refine go_ ?_
    refine ch_n fun hU => ?_
    refine aw_r ?_
    obtain rfl := Option.some.inj hg
    exact fin_ [] ⟨rfl, rfl⟩
  ·refine go_ ?_
   refine ch_n fun hU => ?_
   refine aw_r ?_
   obtain rfl := Option.some.inj hg
   exact fin_ [] ⟨rfl, rfl⟩
 ·refine go_ ?_
  refine ch_n fun hU => ?_
  refine aw_r ?_
  obtain rfl := Option.some.inj hg
  exact fin_ [] ⟨rfl, rfl⟩
theorem w_law04_ChainFound (l : (List Int)) (r : Bool) (hg : g_law04_ChainFound l = some r) : Fn Try.prog 3 0 [.sl 1 (encL eI l)] [] (fun d b => d = .val (.bool r) ∧ b = []) := by
 unfold g_law04_ChainFound at hg
 refine Fn.of Try.func3 rfl rfl rfl fun w0 I ρ0 => ?_
 show awp _ ⟨w0, I, ρ0, 0, 0, 125⟩ _ _ _
 refine sr_ 0 8 mk_U ?_
 refine go_ ?_
 refine ch_n fun hU => ?_
 refine awp_seq ?_
 refine sr_ 8 32 hU ?_
 refine go_ ?_
 obtain ⟨y, hy, hg⟩ := bind_some hg
 refine ca_ (w_make_Light _ _ hy) ?_
 refine go_ ?_
 refine ch_n fun hU => ?_
 refine cg_ rfl hg (fun h3 hg => ?_) fun h3 hg => ?_
 ·refine awp_seq ?_
  refine awp_region (sys _ _ []) 32 48 hU rfl rfl ?_
  obtain ⟨y_2, hy_2, hg⟩ := bind_some hg
  refine ca_ (w_law04_awake _ hy_2) ?_
  refine go_ ?_
  refine ch_n fun hU => ?_
  refine aw_r ?_
  obtain rfl := Option.some.inj hg
  exact fin_ [] ⟨rfl, rfl⟩
 ·refine awp_skip ?_
  repeat first | refine st_ ?_ | refine sn_ ?_
  refine sr_ 32 56 hU ?_
  refine go_ ?_
  obtain ⟨y_3, hy_3, hg⟩ := bind_some hg
  refine ch_call (rd := []) (ps := []) (gs := []) false rfl (w_make_Roll _ _ hy_3) rfl rfl (.cons .sl .nil) rfl rfl (by intro h; cases h) rfl (by intro h; first | (cases h; done) | exact ⟨_, _, ⟨rfl, rfl⟩, by simp, by simp⟩) ?_
  rintro _ _ ⟨rfl, rfl⟩
  refine go_ ?_
  refine ch_n fun hU => ?_
  refine sr_ 56 96 hU ?_
  refine go_ ?_
  obtain ⟨y_4, hy_4, hg⟩ := bind_some hg
  refine cb_ [40] [40] [] false (w_make_Key _ _ hy_4) ?_
  obtain ⟨y_5, hy_5, hg⟩ := bind_some hg
  refine ch_call (rd := [40]) (ps := [40]) (gs := []) false rfl (w_make_Chain_own _ _ _ _ _ hy_5) rfl rfl (.cons (.ptr rfl) (.cons .val (.cons (.agg (.cons .val (.cons .val .nil))) (.cons .val .nil)))) ⟨_, _, _, rfl, .head _, ⟨_, rfl, (by repeat' (first | exact AgL.nil | apply AgL.cons | exact Ag.val | exact Ag.sl | exact Ag.nils | exact Ag.ptr rfl))⟩, rfl⟩ rfl (by intro h; cases h) rfl (by intro h; first | (cases h; done) | exact ⟨_, _, ⟨rfl, rfl⟩, by simp, by simp⟩) ?_
  rintro _ _ ⟨rfl, rfl⟩
  refine go_ ?_
  refine ch_n fun hU => ?_
  refine sr_ 96 160 hU ?_
  refine c0_ rfl rfl (r_buildFull sl27 z40 (by decide) rfl rfl rfl rfl ck40 (cs := []) .nil rfl (l := ([] : List api_Certificate)) (f := api_Certificate.enc) rfl) rfl rfl ?_
  refine go_ ?_
  obtain ⟨y_6, hy_6, hg⟩ := bind_some hg
  refine cb_ [40] [40] [] false (w_make_Key _ _ hy_6) ?_
  obtain ⟨y_7, hy_7, hg⟩ := bind_some hg
  refine ch_call (rd := [40]) (ps := [40]) (gs := []) false rfl (w_make_Chain_own _ _ _ _ _ hy_7) rfl rfl (.cons (.ptr rfl) (.cons .val (.cons (.agg (.cons .val (.cons .val .nil))) (.cons .val .nil)))) ⟨_, _, _, rfl, .head _, ⟨_, rfl, (by repeat' (first | exact AgL.nil | apply AgL.cons | exact Ag.val | exact Ag.sl | exact Ag.nils | exact Ag.ptr rfl))⟩, rfl⟩ rfl (by intro h; cases h) rfl (by intro h; first | (cases h; done) | exact ⟨_, _, ⟨rfl, rfl⟩, by simp, by simp⟩) ?_
  rintro _ _ ⟨rfl, rfl⟩
  obtain ⟨l_2, hl_2, hg⟩ := bind_some hg
  refine ch_s (rd := [128]) rfl rfl (r_sliR_lo sl27 api_Certificate.enc_len hl_2) rfl rfl ?_
  obtain ⟨l_3, hl_3, hg⟩ := bind_some hg
  refine ch_s (rd := [96, 128]) rfl rfl (r_append sl27 api_Certificate.enc_len .row rfl (.part (part_le api_Certificate.enc_len (slI_le hl_2))) (enc_part api_Certificate.enc_len _ _ _ (slI_le hl_2)) hl_3 rfl) rfl rfl ?_
  refine go_ ?_
  refine ch_n fun hU => ?_
  refine awp_seq ?_
  refine awp_draw (sys _ _ []) (by kernel_rfl) [0, 0, 3, 0, 8, 31, 63] 160 216 hU rfl rfl (by kernel_rfl) ?_
  refine c0_ rfl rfl (r_buildFull sl27 z40 (by decide) rfl rfl rfl rfl ck40 (cs := []) .nil rfl (l := ([] : List api_Certificate)) (f := api_Certificate.enc) rfl) rfl rfl ?_
  refine go_ ?_
  obtain ⟨l_4, hl_4, hg⟩ := bind_some hg
  refine ch_s (rd := [160, 144]) rfl rfl (r_append sl27 api_Certificate.enc_len .row rfl .row rfl hl_4 rfl) rfl rfl ?_
  refine go_ ?_
  obtain ⟨l_5, hl_5, hg⟩ := bind_some hg
  refine ch_s (rd := [80]) rfl rfl (r_sliR_lo sl27 api_Certificate.enc_len hl_5) rfl rfl ?_
  obtain ⟨l_6, hl_6, hg⟩ := bind_some hg
  refine ch_s (rd := [176, 80]) rfl rfl (r_append sl27 api_Certificate.enc_len .row rfl (.part (part_le api_Certificate.enc_len (slI_le hl_5))) (enc_part api_Certificate.enc_len _ _ _ (slI_le hl_5)) hl_6 rfl) rfl rfl ?_
  refine go_ ?_
  refine ch_n fun hU => ?_
  refine awp_seq ?_
  refine awp_region (sys _ _ [224]) 216 248 hU rfl rfl ?_
  refine go_ ?_
  refine ch_z (rd := []) rfl rfl (r_buildFull sl22 z3 (by decide) rfl rfl rfl rfl ck3 (cs := [.int .i64 15, .int .i64 30, .int .i64 5]) (.cons .int (.cons .int (.cons .int .nil))) rfl (l := ([15, 30, 5] : List Int)) (f := eI) rfl) rfl rfl rfl ?_
  obtain ⟨y_8, hy_8, hg⟩ := bind_some hg
  refine cb_ [40] [40] [] false (w_make_Dice_Of _ _ _ hy_8) ?_
  refine go_ ?_
  refine ch_n fun hU => ?_
  refine awp_seq ?_
  refine awp_sub (σ' := mk [(4, .row 0), (5, .sl 15 (encL api_Certificate.enc l_6)), (6, .val (.int .i64 y_8.1))] [(0, .row 40 15 (encL api_Certificate.enc y_5.1))] 1) (sub_ [(0, 80)]) ?_
  refine awp_draw (sys _ _ [33]) (by kernel_rfl) [0, 1, 3, 0, 0, 0, 0, 127, 255, 511, 511, 1023, 4095] 1 105 mk_U rfl rfl (by kernel_rfl) ?_
  refine go_ ?_
  obtain ⟨e_2, he_2, hg⟩ := bind_some hg
  refine go_ ?_
  refine ch_s (rd := [0]) rfl rfl (r_loadRA ty40 (enc_cells api_Certificate.enc_len (getI_at he_2) (o := 0) (m := 15) (cs := [.int .i64 e_2.Serial, .str e_2.Issuer, .str e_2.Subject, .int .i64 e_2.Key.Alg, .int .i64 e_2.Key.Bits, .int .i64 e_2.KeyId, .int .i64 e_2.Hash.Alg, .int .i64 e_2.Hash.Bits, .int .i64 e_2.From, .int .i64 e_2.To, .bool e_2.Authority, .int .i64 e_2.Path, .sl 1 (encL eS e_2.Names), .int .i64 e_2.Seal.Key, .int .i64 e_2.Seal.Sum]) rfl (by decide) rfl) (enc_cells_le api_Certificate.enc_len (getI_at he_2) (o := 0) (m := 15) (by decide) rfl)) rfl rfl ?_
  refine go_ ?_
  refine ch_z (rd := []) rfl rfl (r_buildFull sl22 z3 (by decide) rfl rfl rfl rfl ck3 (cs := [.int .i64 1, .int .i64 2]) (.cons .int (.cons .int .nil)) rfl (l := ([1, 2] : List Int)) (f := eI) rfl) rfl rfl rfl ?_
  obtain ⟨y_10, hy_10, hg⟩ := bind_some hg
  refine ca_ (w_law04_hashes _ hy_10) ?_
  refine go_ ?_
  obtain ⟨y_11, hy_11, hg⟩ := bind_some hg
  refine ca_ (w_chain_Build _ _ _ _ _ _ _ hy_11) ?_
  refine go_ ?_
  refine ch_n fun hU => ?_
  refine sr_ 105 161 hU ?_
  refine go_ ?_
  refine c0_ rfl rfl (r_buildFull sl22 z3 (by decide) rfl rfl rfl rfl ck3 (cs := [.int .i64 1, .int .i64 2]) (.cons .int (.cons .int .nil)) rfl (l := ([1, 2] : List Int)) (f := eI) rfl) rfl rfl ?_
  obtain ⟨y_12, hy_12, hg⟩ := bind_some hg
  refine ca_ (w_law04_hashes _ hy_12) ?_
  refine go_ ?_
  obtain ⟨y_13, hy_13, hg⟩ := bind_some hg
  refine cb_ [0, 113] [] [] true (w_chain_Check _ _ _ _ _ _ hy_13) ?_
  refine go_ ?_
  refine ch_n fun hU => ?_
  refine awp_seq ?_
  refine sr_ 161 177 hU ?_
  refine go_ ?_
  refine ch_n fun hU => ?_
  refine cg_ rfl hg (fun h13 hg => ?_) fun h13 hg => ?_
  ·refine awp_seq ?_
   refine awp_region (sys _ _ []) 177 257 hU rfl rfl ?_
   refine go_ ?_
   rcases bc_ hg with ⟨h14, hg⟩ | ⟨h14, hg⟩
   ·refine go_ ?_
    rcases bc_ hg with ⟨h15, hg⟩ | ⟨h15, hg⟩
    ·obtain ⟨y_14, hy_14, hg⟩ := bind_some hg
     refine ca_ (w_law04_awake _ hy_14) ?_
     refine go_ ?_
     refine ch_n fun hU => ?_
     refine aw_r ?_
     obtain rfl := Option.some.inj hg
     exact fin_ [] ⟨rfl, rfl⟩
    ·refine go_ ?_
     refine ch_n fun hU => ?_
     refine aw_r ?_
     obtain rfl := Option.some.inj hg
     exact fin_ [] ⟨rfl, rfl⟩
   ·refine go_ ?_
    refine ch_n fun hU => ?_
    refine aw_r ?_
    obtain rfl := Option.some.inj hg
    exact fin_ [] ⟨rfl, rfl⟩
  ·refine awp_skip ?_
   repeat first | refine st_ ?_ | refine sn_ ?_
   refine awp_seq ?_
   refine awp_cut (ι := Bool) (fun (x97_2 : Bool) => mk [(5, .sl 15 (encL api_Certificate.enc l_6)), (7, .sl 15 (encL api_Certificate.enc y_11.1)), (97, .val (.bool x97_2))] [] 0) (fun (x97_2 : Bool) => g_law04_ChainFound.j2 l_6 y_11 x97_2 = some r) ?_ ?_
   ·refine awp_draw (sys _ _ []) (by kernel_rfl) [0, 1, 3, 7, 15, 31, 63, 15, 143, 399, 1023, 2047, 4095, 8191, 16383, 16383, 16383, 16383, 262143, 524287, 1048575, 2097151, 4194303, 8388607, 16777215, 33554431, 16777215, 83886079, 268435455, 536870911, 1073741823] 177 425 hU rfl rfl (by kernel_rfl) ?_
    refine go_ ?_
    rcases bc_ hg with ⟨h19, hg⟩ | ⟨h19, hg⟩
    ·refine go_ ?_
     refine ch_n fun hU => ?_
     exact ⟨true, hg, sub_ []⟩
    ·refine go_ ?_
     obtain ⟨e_3, he_3, hg⟩ := bind_some hg
     refine go_ ?_
     refine c0_ (gdv_t rfl rfl h19) rfl (r_loadEA ty40 (enc_cells api_Certificate.enc_len (getI_at he_3) (o := 0) (m := 15) (cs := [.int .i64 e_3.Serial, .str e_3.Issuer, .str e_3.Subject, .int .i64 e_3.Key.Alg, .int .i64 e_3.Key.Bits, .int .i64 e_3.KeyId, .int .i64 e_3.Hash.Alg, .int .i64 e_3.Hash.Bits, .int .i64 e_3.From, .int .i64 e_3.To, .bool e_3.Authority, .int .i64 e_3.Path, .sl 1 (encL eS e_3.Names), .int .i64 e_3.Seal.Key, .int .i64 e_3.Seal.Sum]) rfl (by decide) rfl) (enc_cells_le api_Certificate.enc_len (getI_at he_3) (o := 0) (m := 15) (by decide) rfl)) rfl rfl ?_
     refine go_ ?_
     refine ch_s (rd := [0]) (gdv_t rfl rfl h19) rfl (r_loadRA ty40 (enc_cells api_Certificate.enc_len (getI_at he_2) (o := 0) (m := 15) (cs := [.int .i64 e_2.Serial, .str e_2.Issuer, .str e_2.Subject, .int .i64 e_2.Key.Alg, .int .i64 e_2.Key.Bits, .int .i64 e_2.KeyId, .int .i64 e_2.Hash.Alg, .int .i64 e_2.Hash.Bits, .int .i64 e_2.From, .int .i64 e_2.To, .bool e_2.Authority, .int .i64 e_2.Path, .sl 1 (encL eS e_2.Names), .int .i64 e_2.Seal.Key, .int .i64 e_2.Seal.Sum]) rfl (by decide) rfl) (enc_cells_le api_Certificate.enc_len (getI_at he_2) (o := 0) (m := 15) (by decide) rfl)) rfl rfl ?_
     obtain ⟨y_15, hy_15, hg⟩ := bind_some hg
     refine ca_ (w_ref03_Same _ _ _ hy_15) ?_
     refine go_ ?_
     rcases bc_ hg with ⟨h21, hg⟩ | ⟨h21, hg⟩
     ·refine go_ ?_
      refine ch_n fun hU => ?_
      exact ⟨true, hg, sub_ []⟩
     ·refine go_ ?_
      refine c0_ (gdv_t rfl rfl h21) rfl (r_buildFull sl22 z3 (by decide) rfl rfl rfl rfl ck3 (cs := [.int .i64 1, .int .i64 2]) (.cons .int (.cons .int .nil)) rfl (l := ([1, 2] : List Int)) (f := eI) rfl) rfl rfl ?_
      obtain ⟨y_16, hy_16, hg⟩ := bind_some hg
      refine ca_ (w_law04_hashes _ hy_16) ?_
      refine go_ ?_
      obtain ⟨y_17, hy_17, hg⟩ := bind_some hg
      refine cb_ [297] [] [] true (w_chain_Check _ _ _ _ _ _ hy_17) ?_
      refine go_ ?_
      rcases bc_ hg with ⟨h23, hg⟩ | ⟨h23, hg⟩
      ·refine go_ ?_
       refine ch_n fun hU => ?_
       exact ⟨true, hg, sub_ []⟩
      ·refine go_ ?_
       rcases bc_ hg with ⟨h25, hg⟩ | ⟨h25, hg⟩
       ·refine go_ ?_
        refine ch_n fun hU => ?_
        exact ⟨decide ((y_5.1.length : Int) < (y_11.1.length : Int)), hg, sub_ []⟩
       ·refine go_ ?_
        refine ch_n fun hU => ?_
        exact ⟨false, hg, sub_ []⟩
   ·rintro x97_2 hg
    replace hg : g_law04_ChainFound.j2 l_6 y_11 x97_2 = some r := hg
    show awp _ _ _ _ (mk _ _ _)
    unfold g_law04_ChainFound.j2 at hg
    refine cg_ rfl hg (fun h28 hg => ?_) fun h28 hg => ?_
    ·refine awp_seq ?_
     refine awp_region (sys _ _ []) 0 8 mk_U rfl rfl ?_
     refine go_ ?_
     refine ch_n fun hU => ?_
     refine aw_r ?_
     obtain rfl := Option.some.inj hg
     exact fin_ [] ⟨rfl, rfl⟩
    ·refine awp_skip ?_
     repeat first | refine st_ ?_ | refine sn_ ?_
     refine awp_seq ?_
     refine sr_ 0 8 mk_U ?_
     refine go_ ?_
     refine ch_n fun hU => ?_
     refine awp_block ?_
     refine lp_ (fun (i_3 : Int) => mk [(5, .sl 15 (encL api_Certificate.enc l_6)), (7, .sl 15 (encL api_Certificate.enc y_11.1)), (10, .val (.int .i64 i_3))] [] 0) hg (sub_ []) ?_
     rintro i_3 m3 o3 hg hn3
     replace hg : g_law04_ChainFound.l3 l_6 y_11 i_3 = some o3 := hg
     show awp _ _ _ _ (mk _ _ _)
     unfold g_law04_ChainFound.l3 at hg
     refine awp_seq ?_
     refine sr_ 0 32 mk_U ?_
     refine go_ ?_
     refine ch_n fun hU => ?_
     refine cg_ rfl hg (fun h32 hg => ?_) fun h32 hg => ?_
     ·refine awp_skip ?_
      repeat first | refine st_ ?_ | refine sn_ ?_
      refine awp_seq ?_
      refine awp_block ?_
      refine sr_ 32 40 hU ?_
      refine go_ ?_
      refine ch_n fun hU => ?_
      refine awp_seq ?_
      refine sr_ 40 48 hU ?_
      refine go_ ?_
      refine ch_n fun hU => ?_
      refine awp_block ?_
      refine lp_ (fun ((found_4, k_4) : Bool × Int) => mk [(5, .sl 15 (encL api_Certificate.enc l_6)), (7, .sl 15 (encL api_Certificate.enc y_11.1)), (10, .val (.int .i64 i_3)), (11, .val (.bool found_4)), (12, .val (.int .i64 k_4))] [] 0) hg (sub_ []) ?_
      rintro ⟨found_4, k_4⟩ m4 o4 hg hn4
      replace hg : g_law04_ChainFound.l4 l_6 y_11 i_3 found_4 k_4 = some o4 := hg
      show awp _ _ _ _ (mk _ _ _)
      unfold g_law04_ChainFound.l4 at hg
      refine awp_seq ?_
      refine sr_ 0 32 mk_U ?_
      refine go_ ?_
      refine ch_n fun hU => ?_
      refine cg_ rfl hg (fun h36 hg => ?_) fun h36 hg => ?_
      ·refine awp_skip ?_
       repeat first | refine st_ ?_ | refine sn_ ?_
       refine awp_cut (ι := Bool) (fun (found_5 : Bool) => mk [(5, .sl 15 (encL api_Certificate.enc l_6)), (7, .sl 15 (encL api_Certificate.enc y_11.1)), (10, .val (.int .i64 i_3)), (11, .val (.bool found_5)), (12, .val (.int .i64 k_4))] [] 0) (fun (found_5 : Bool) => g_law04_ChainFound.j5 k_4 found_5 = some o4) ?_ ?_
       ·refine awp_block ?_
        refine awp_draw (sys _ _ []) (by kernel_rfl) [0, 1, 3, 3, 15, 31, 3, 3, 195, 451, 1023, 2047, 4095] 32 136 hU rfl rfl (by kernel_rfl) ?_
        refine go_ ?_
        rcases bc_ hg with ⟨h37, hg⟩ | ⟨h37, hg⟩
        ·refine go_ ?_
         refine ch_n fun hU => ?_
         exact ⟨true, hg, sub_ []⟩
        ·refine go_ ?_
         obtain ⟨e_4, he_4, hg⟩ := bind_some hg
         refine go_ ?_
         refine c0_ (gdv_t rfl rfl h37) rfl (r_loadEA ty40 (enc_cells api_Certificate.enc_len (getI_at he_4) (o := 0) (m := 15) (cs := [.int .i64 e_4.Serial, .str e_4.Issuer, .str e_4.Subject, .int .i64 e_4.Key.Alg, .int .i64 e_4.Key.Bits, .int .i64 e_4.KeyId, .int .i64 e_4.Hash.Alg, .int .i64 e_4.Hash.Bits, .int .i64 e_4.From, .int .i64 e_4.To, .bool e_4.Authority, .int .i64 e_4.Path, .sl 1 (encL eS e_4.Names), .int .i64 e_4.Seal.Key, .int .i64 e_4.Seal.Sum]) rfl (by decide) rfl) (enc_cells_le api_Certificate.enc_len (getI_at he_4) (o := 0) (m := 15) (by decide) rfl)) rfl rfl ?_
         refine go_ ?_
         obtain ⟨e_5, he_5, hg⟩ := bind_some hg
         refine go_ ?_
         refine c0_ (gdv_t rfl rfl h37) rfl (r_loadEA ty40 (enc_cells api_Certificate.enc_len (getI_at he_5) (o := 0) (m := 15) (cs := [.int .i64 e_5.Serial, .str e_5.Issuer, .str e_5.Subject, .int .i64 e_5.Key.Alg, .int .i64 e_5.Key.Bits, .int .i64 e_5.KeyId, .int .i64 e_5.Hash.Alg, .int .i64 e_5.Hash.Bits, .int .i64 e_5.From, .int .i64 e_5.To, .bool e_5.Authority, .int .i64 e_5.Path, .sl 1 (encL eS e_5.Names), .int .i64 e_5.Seal.Key, .int .i64 e_5.Seal.Sum]) rfl (by decide) rfl) (enc_cells_le api_Certificate.enc_len (getI_at he_5) (o := 0) (m := 15) (by decide) rfl)) rfl rfl ?_
         obtain ⟨y_18, hy_18, hg⟩ := bind_some hg
         refine ca_ (w_ref03_Same _ _ _ hy_18) ?_
         refine go_ ?_
         refine ch_n fun hU => ?_
         exact ⟨y_18, hg, sub_ []⟩
       ·rintro found_5 hg
        replace hg : g_law04_ChainFound.j5 k_4 found_5 = some o4 := hg
        show awp _ _ _ _ (mk _ _ _)
        unfold g_law04_ChainFound.j5 at hg
        refine awp_region (sys _ _ []) 0 24 mk_U rfl rfl ?_
        refine go_ ?_
        refine ch_n fun hU => ?_
        obtain rfl := Option.some.inj hg
        exact ⟨((found_5, W (k_4 + 1)), m4), Nat.lt_succ_self _, hn4, sub_ []⟩
      ·refine awp_exit ?_
       repeat first | refine st_ ?_ | refine sn_ ?_
       replace hg := leave hg hn4
       refine sr_ 32 48 hU ?_
       refine go_ ?_
       refine ch_n fun hU => ?_
       refine cg_ rfl hg (fun h42 hg => ?_) fun h42 hg => ?_
       ·refine awp_seq ?_
        refine awp_region (sys _ _ []) 48 56 hU rfl rfl ?_
        refine go_ ?_
        refine ch_n fun hU => ?_
        refine aw_r ?_
        replace hg := leave hg hn3
        obtain rfl := Option.some.inj hg
        exact fin_ [] ⟨rfl, rfl⟩
       ·refine awp_skip ?_
        repeat first | refine st_ ?_ | refine sn_ ?_
        refine awp_region (sys _ _ []) 48 72 hU rfl rfl ?_
        refine go_ ?_
        refine ch_n fun hU => ?_
        obtain rfl := Option.some.inj hg
        exact ⟨(W (i_3 + 1), m3), Nat.lt_succ_self _, hn3, sub_ []⟩
     ·refine awp_exit ?_
      repeat first | refine st_ ?_ | refine sn_ ?_
      replace hg := leave hg hn3
      refine sr_ 32 48 hU ?_
      obtain ⟨y_19, hy_19, hg⟩ := bind_some hg
      refine ca_ (w_law04_awake _ hy_19) ?_
      refine go_ ?_
      refine ch_n fun hU => ?_
      refine aw_r ?_
      obtain rfl := Option.some.inj hg
      exact fin_ [] ⟨rfl, rfl⟩
end Go.Proofs.Ytggimglopfdhiaa
