/- The program computes the plain functions. -/
import Derived.Test.YtoekocjflclojaaGreatT1
import Derived.Test.YtoekocjflclojaaGreatA1
import Derived.Test.YtoekocjflclojaaGreatA3
import Derived.Test.YtoekocjflclojaaGreatA4
set_option linter.unusedVariables false
set_option linter.unusedSimpArgs false
set_option maxRecDepth 100000
set_option maxHeartbeats 1600000
namespace Go.Proofs.YtoekocjflclojaaGreat
open Go.RowKit
theorem w_ref14_number (f : api_Finding) (kind : Int) (n : Int) (r : api_Finding) (hg : g_ref14_number f kind n = some r) : Fn Tryz.prog 33 0 [.agg (api_Finding.dv f), .val (.int .i64 kind), .val (.int .i64 n)] [] (fun d b => d = .agg (api_Finding.dv r) ∧ b = []) := by
 unfold g_ref14_number at hg
 refine Fn.of Tryz.func33 rfl rfl rfl fun w0 I ρ0 => ?_
 show awp _ ⟨w0, I, ρ0, 0, 0, 12⟩ _ _ _
 refine sr_ 0 16 mk_U ?_
 refine go_ ?_
 refine ch_n fun hU => ?_
 refine sr_ 16 64 hU ?_
 refine go_ ?_
 refine ch_n fun hU => ?_
 refine sr_ 64 80 hU ?_
 refine go_ ?_
 refine ch_n fun hU => ?_
 refine aw_r ?_
 obtain rfl := Option.some.inj hg
 exact fin_ [] ⟨rfl, rfl⟩
theorem w_ref14_use (f : api_Finding) (kind : Int) (u : api_Use) (n : Int) (r : api_Finding) (hg : g_ref14_use f kind u n = some r) : Fn Tryz.prog 34 0 [.agg (api_Finding.dv f), .val (.int .i64 kind), .agg [.val (.int .i64 u.Alg), .val (.int .i64 u.Bits)], .val (.int .i64 n)] [] (fun d b => d = .agg (api_Finding.dv r) ∧ b = []) := by
 unfold g_ref14_use at hg
 refine Fn.of Tryz.func34 rfl rfl rfl fun w0 I ρ0 => ?_
 show awp _ ⟨w0, I, ρ0, 0, 0, 16⟩ _ _ _
 refine sr_ 0 24 mk_U ?_
 refine go_ ?_
 refine ch_n fun hU => ?_
 refine awp_seq ?_
 refine awp_draw (sys _ _ []) (by kernel_rfl) [0, 0, 0, 1, 9, 27, 59, 127, 255] 24 96 hU rfl rfl (by kernel_rfl) ?_
 refine go_ ?_
 refine ch_n fun hU => ?_
 refine sr_ 96 112 hU ?_
 refine go_ ?_
 refine ch_n fun hU => ?_
 refine aw_r ?_
 obtain rfl := Option.some.inj hg
 exact fin_ [] ⟨rfl, rfl⟩
theorem w_ref14_texts (a : ByteArray) (b : ByteArray) (r : Int) (hg : g_ref14_texts a b = some r) : Fn Tryz.prog 93 0 [.val (.string a), .val (.string b)] [] (fun d b => d = .val (.int .i64 r) ∧ b = []) := by
 unfold g_ref14_texts at hg
 refine Fn.of Tryz.func93 rfl rfl rfl fun w0 I ρ0 => ?_
 show awp _ ⟨w0, I, ρ0, 0, 0, 11⟩ _ _ _
 refine sr_ 0 8 mk_U ?_
 refine go_ ?_
 refine ch_n fun hU => ?_
 refine awp_seq ?_
 refine sr_ 8 32 hU ?_
 refine go_ ?_
 refine c0_ rfl rfl r_slss rfl rfl ?_
 refine ch_n fun hU => ?_
 refine cg_ rfl hg (fun h3 hg => ?_) fun h3 hg => ?_
 ·refine awp_seq ?_
  refine awp_region (sys _ _ []) 32 40 hU rfl rfl ?_
  refine go_ ?_
  refine ch_n fun hU => ?_
  refine aw_r ?_
  obtain rfl := Option.some.inj hg
  exact fin_ [] ⟨rfl, rfl⟩
 ·refine awp_skip ?_
  repeat first | refine st_ ?_ | refine sn_ ?_
  refine awp_seq ?_
  refine sr_ 32 56 hU ?_
  refine go_ ?_
  refine c0_ rfl rfl r_sgtr rfl rfl ?_
  refine ch_n fun hU => ?_
  refine cg_ rfl hg (fun h6 hg => ?_) fun h6 hg => ?_
  ·refine awp_seq ?_
   refine awp_region (sys _ _ []) 56 64 hU rfl rfl ?_
   refine go_ ?_
   refine ch_n fun hU => ?_
   refine aw_r ?_
   obtain rfl := Option.some.inj hg
   exact fin_ [] ⟨rfl, rfl⟩
  ·refine awp_skip ?_
   repeat first | refine st_ ?_ | refine sn_ ?_
   refine sr_ 56 64 hU ?_
   refine go_ ?_
   refine ch_n fun hU => ?_
   refine aw_r ?_
   obtain rfl := Option.some.inj hg
   exact fin_ [] ⟨rfl, rfl⟩
theorem w_ref14_ints (a : (List Int)) (b : (List Int)) (r : Int) (hg : g_ref14_ints a b = some r) : Fn Tryz.prog 94 0 [.sl 1 (encL eI a), .sl 1 (encL eI b)] [] (fun d b => d = .val (.int .i64 r) ∧ b = []) := by
 unfold g_ref14_ints at hg
 refine Fn.of Tryz.func94 rfl rfl rfl fun w0 I ρ0 => ?_
 show awp _ ⟨w0, I, ρ0, 0, 0, 30⟩ _ _ _
 refine sr_ 0 8 mk_U ?_
 refine go_ ?_
 refine ch_n fun hU => ?_
 refine awp_seq ?_
 refine sr_ 8 16 hU ?_
 refine go_ ?_
 refine ch_n fun hU => ?_
 refine awp_block ?_
 refine lp_ (fun (i_1 : Int) => mk [(0, .sl 1 (encL eI a)), (1, .sl 1 (encL eI b)), (5, .val (.int .i64 i_1))] [] 0) hg (sub_ []) ?_
 rintro i_1 m1 o1 hg hn1
 replace hg : g_ref14_ints.l1 a b i_1 = some o1 := hg
 show awp _ _ _ _ (mk _ _ _)
 unfold g_ref14_ints.l1 at hg
 refine awp_seq ?_
 refine sr_ 0 32 mk_U ?_
 refine go_ ?_
 refine ch_n fun hU => ?_
 refine cg_ rfl hg (fun h4 hg => ?_) fun h4 hg => ?_
 ·refine awp_skip ?_
  repeat first | refine st_ ?_ | refine sn_ ?_
  refine awp_seq ?_
  refine awp_block ?_
  refine awp_seq ?_
  refine awp_seq ?_
  refine awp_draw (sys _ _ []) (by kernel_rfl) [0, 0, 3, 7, 0, 0, 48, 112, 255] 32 104 hU rfl rfl (by kernel_rfl) ?_
  refine go_ ?_
  obtain ⟨e, he, hg⟩ := bind_some hg
  refine go_ ?_
  refine c0_ rfl rfl (r_loadE1 ty3 (enc_cell eI_len (getI_at he) (o := 0) (c := .int .i64 e) rfl rfl)) rfl rfl ?_
  refine go_ ?_
  obtain ⟨e_2, he_2, hg⟩ := bind_some hg
  refine go_ ?_
  refine c0_ rfl rfl (r_loadE1 ty3 (enc_cell eI_len (getI_at he_2) (o := 0) (c := .int .i64 e_2) rfl rfl)) rfl rfl ?_
  refine go_ ?_
  refine ch_n fun hU => ?_
  refine cg_ rfl hg (fun h6 hg => ?_) fun h6 hg => ?_
  ·refine awp_seq ?_
   refine awp_region (sys _ _ []) 104 112 hU rfl rfl ?_
   refine go_ ?_
   refine ch_n fun hU => ?_
   refine aw_r ?_
   replace hg := leave hg hn1
   obtain rfl := Option.some.inj hg
   exact fin_ [] ⟨rfl, rfl⟩
  ·refine awp_skip ?_
   repeat first | refine st_ ?_ | refine sn_ ?_
   refine awp_seq ?_
   refine awp_draw (sys _ _ []) (by kernel_rfl) [0, 0, 3, 7, 0, 0, 48, 112, 255] 104 176 hU rfl rfl (by kernel_rfl) ?_
   refine go_ ?_
   refine c0_ rfl rfl (r_loadE1 ty3 (enc_cell eI_len (getI_at he) (o := 0) (c := .int .i64 e) rfl rfl)) rfl rfl ?_
   refine go_ ?_
   refine c0_ rfl rfl (r_loadE1 ty3 (enc_cell eI_len (getI_at he_2) (o := 0) (c := .int .i64 e_2) rfl rfl)) rfl rfl ?_
   refine go_ ?_
   refine ch_n fun hU => ?_
   refine cg_ rfl hg (fun h9 hg => ?_) fun h9 hg => ?_
   ·refine awp_seq ?_
    refine awp_region (sys _ _ []) 176 184 hU rfl rfl ?_
    refine go_ ?_
    refine ch_n fun hU => ?_
    refine aw_r ?_
    replace hg := leave hg hn1
    obtain rfl := Option.some.inj hg
    exact fin_ [] ⟨rfl, rfl⟩
   ·refine awp_skip ?_
    repeat first | refine st_ ?_ | refine sn_ ?_
    refine awp_region (sys _ _ []) 176 200 hU rfl rfl ?_
    refine go_ ?_
    refine ch_n fun hU => ?_
    obtain rfl := Option.some.inj hg
    exact ⟨(W (i_1 + 1), m1), Nat.lt_succ_self _, hn1, sub_ []⟩
 ·refine awp_exit ?_
  repeat first | refine st_ ?_ | refine sn_ ?_
  replace hg := leave hg hn1
  refine sr_ 32 40 hU ?_
  refine go_ ?_
  refine ch_n fun hU => ?_
  refine aw_r ?_
  obtain rfl := Option.some.inj hg
  exact fin_ [] ⟨rfl, rfl⟩
theorem w_ref14_Order (a : api_Finding) (b : api_Finding) (r : Int) (hg : g_ref14_Order a b = some r) : Fn Tryz.prog 75 0 [.agg (api_Finding.dv a), .agg (api_Finding.dv b)] [] (fun d b => d = .val (.int .i64 r) ∧ b = []) := by
 unfold g_ref14_Order at hg
 refine Fn.of Tryz.func75 rfl rfl rfl fun w0 I ρ0 => ?_
 show awp _ ⟨w0, I, ρ0, 0, 0, 85⟩ _ _ _
 refine sr_ 0 24 mk_U ?_
 refine go_ ?_
 refine ch_n fun hU => ?_
 refine awp_seq ?_
 refine sr_ 24 72 hU ?_
 refine go_ ?_
 obtain ⟨y, hy, hg⟩ := bind_some hg
 refine ca_ (w_ref14_texts _ _ _ hy) ?_
 refine go_ ?_
 refine ch_n fun hU => ?_
 refine sr_ 72 88 hU ?_
 refine go_ ?_
 refine ch_n fun hU => ?_
 refine cg_ rfl hg (fun h4 hg => ?_) fun h4 hg => ?_
 ·refine awp_seq ?_
  refine awp_region (sys _ _ []) 88 104 hU rfl rfl ?_
  refine go_ ?_
  refine ch_n fun hU => ?_
  refine aw_r ?_
  obtain rfl := Option.some.inj hg
  exact fin_ [] ⟨rfl, rfl⟩
 ·refine awp_skip ?_
  repeat first | refine st_ ?_ | refine sn_ ?_
  refine awp_seq ?_
  refine sr_ 88 184 hU ?_
  refine go_ ?_
  refine c0_ rfl rfl (r_buildFull sl22 z3 (by decide) rfl rfl rfl rfl ck3 (cs := [.int .i64 a.Machine, .int .i64 a.Day]) (.cons .int (.cons .int .nil)) rfl (l := ([a.Machine, a.Day] : List Int)) (f := eI) rfl) rfl rfl ?_
  refine go_ ?_
  refine c0_ rfl rfl (r_buildFull sl22 z3 (by decide) rfl rfl rfl rfl ck3 (cs := [.int .i64 b.Machine, .int .i64 b.Day]) (.cons .int (.cons .int .nil)) rfl (l := ([b.Machine, b.Day] : List Int)) (f := eI) rfl) rfl rfl ?_
  obtain ⟨y_2, hy_2, hg⟩ := bind_some hg
  refine cb_ [120, 160] [] [] true (w_ref14_ints _ _ _ hy_2) ?_
  refine go_ ?_
  refine ch_n fun hU => ?_
  refine sr_ 184 200 hU ?_
  refine go_ ?_
  refine ch_n fun hU => ?_
  refine cg_ rfl hg (fun h8 hg => ?_) fun h8 hg => ?_
  ·refine awp_seq ?_
   refine awp_region (sys _ _ []) 200 216 hU rfl rfl ?_
   refine go_ ?_
   refine ch_n fun hU => ?_
   refine aw_r ?_
   obtain rfl := Option.some.inj hg
   exact fin_ [] ⟨rfl, rfl⟩
  ·refine awp_skip ?_
   repeat first | refine st_ ?_ | refine sn_ ?_
   refine awp_seq ?_
   refine sr_ 200 248 hU ?_
   refine go_ ?_
   obtain ⟨y_3, hy_3, hg⟩ := bind_some hg
   refine ca_ (w_ref14_texts _ _ _ hy_3) ?_
   refine go_ ?_
   refine ch_n fun hU => ?_
   refine sr_ 248 264 hU ?_
   refine go_ ?_
   refine ch_n fun hU => ?_
   refine cg_ rfl hg (fun h12 hg => ?_) fun h12 hg => ?_
   ·refine awp_seq ?_
    refine awp_region (sys _ _ []) 264 280 hU rfl rfl ?_
    refine go_ ?_
    refine ch_n fun hU => ?_
    refine aw_r ?_
    obtain rfl := Option.some.inj hg
    exact fin_ [] ⟨rfl, rfl⟩
   ·refine awp_skip ?_
    repeat first | refine st_ ?_ | refine sn_ ?_
    refine awp_seq ?_
    refine sr_ 264 456 hU ?_
    refine go_ ?_
    refine c0_ rfl rfl (r_buildFull sl22 z3 (by decide) rfl rfl rfl rfl ck3 (cs := [.int .i64 a.Kind, .int .i64 a.Use.Alg, .int .i64 a.Use.Bits, .int .i64 a.Number]) (.cons .int (.cons .int (.cons .int (.cons .int .nil)))) rfl (l := ([a.Kind, a.Use.Alg, a.Use.Bits, a.Number] : List Int)) (f := eI) rfl) rfl rfl ?_
    refine go_ ?_
    refine c0_ rfl rfl (r_buildFull sl22 z3 (by decide) rfl rfl rfl rfl ck3 (cs := [.int .i64 b.Kind, .int .i64 b.Use.Alg, .int .i64 b.Use.Bits, .int .i64 b.Number]) (.cons .int (.cons .int (.cons .int (.cons .int .nil)))) rfl (l := ([b.Kind, b.Use.Alg, b.Use.Bits, b.Number] : List Int)) (f := eI) rfl) rfl rfl ?_
    obtain ⟨y_4, hy_4, hg⟩ := bind_some hg
    refine cb_ [344, 432] [] [] true (w_ref14_ints _ _ _ hy_4) ?_
    refine go_ ?_
    refine ch_n fun hU => ?_
    refine sr_ 456 472 hU ?_
    refine go_ ?_
    refine ch_n fun hU => ?_
    refine cg_ rfl hg (fun h16 hg => ?_) fun h16 hg => ?_
    ·refine awp_seq ?_
     refine awp_region (sys _ _ []) 472 488 hU rfl rfl ?_
     refine go_ ?_
     refine ch_n fun hU => ?_
     refine aw_r ?_
     obtain rfl := Option.some.inj hg
     exact fin_ [] ⟨rfl, rfl⟩
    ·refine awp_skip ?_
     repeat first | refine st_ ?_ | refine sn_ ?_
     refine awp_seq ?_
     refine sr_ 472 520 hU ?_
     refine go_ ?_
     obtain ⟨y_5, hy_5, hg⟩ := bind_some hg
     refine ca_ (w_ref14_texts _ _ _ hy_5) ?_
     refine go_ ?_
     refine ch_n fun hU => ?_
     refine sr_ 520 536 hU ?_
     refine go_ ?_
     refine ch_n fun hU => ?_
     refine cg_ rfl hg (fun h20 hg => ?_) fun h20 hg => ?_
     ·refine awp_seq ?_
      refine awp_region (sys _ _ []) 536 552 hU rfl rfl ?_
      refine go_ ?_
      refine ch_n fun hU => ?_
      refine aw_r ?_
      obtain rfl := Option.some.inj hg
      exact fin_ [] ⟨rfl, rfl⟩
     ·refine awp_skip ?_
      repeat first | refine st_ ?_ | refine sn_ ?_
      refine sr_ 536 632 hU ?_
      refine go_ ?_
      refine c0_ rfl rfl (r_buildFull sl22 z3 (by decide) rfl rfl rfl rfl ck3 (cs := [.int .i64 a.Source, .int .i64 a.Confidence]) (.cons .int (.cons .int .nil)) rfl (l := ([a.Source, a.Confidence] : List Int)) (f := eI) rfl) rfl rfl ?_
      refine go_ ?_
      refine c0_ rfl rfl (r_buildFull sl22 z3 (by decide) rfl rfl rfl rfl ck3 (cs := [.int .i64 b.Source, .int .i64 b.Confidence]) (.cons .int (.cons .int .nil)) rfl (l := ([b.Source, b.Confidence] : List Int)) (f := eI) rfl) rfl rfl ?_
      obtain ⟨y_6, hy_6, hg⟩ := bind_some hg
      refine cb_ [568, 608] [] [] true (w_ref14_ints _ _ _ hy_6) ?_
      refine go_ ?_
      refine ch_n fun hU => ?_
      refine aw_r ?_
      obtain rfl := Option.some.inj hg
      exact fin_ [] ⟨rfl, rfl⟩
theorem w_ref14_put (l : (List api_Finding)) (f : api_Finding) (r : (List api_Finding)) (hg : g_ref14_put l f = some r) : Fn Tryz.prog 55 0 [.sl 11 (encL api_Finding.enc l), .agg (api_Finding.dv f)] [] (fun d b => d = .sl 11 (encL api_Finding.enc r) ∧ b = []) := by
 unfold g_ref14_put at hg
 refine Fn.of Tryz.func55 rfl rfl rfl fun w0 I ρ0 => ?_
 show awp _ ⟨w0, I, ρ0, 0, 0, 47⟩ _ _ _
 refine sr_ 0 16 mk_U ?_
 refine go_ ?_
 refine ch_n fun hU => ?_
 refine sr_ 16 40 hU ?_
 refine go_ ?_
 refine ch_n fun hU => ?_
 refine awp_seq ?_
 refine awp_block ?_
 refine lp_ (fun (k_1 : Int) => mk [(0, .sl 11 (encL api_Finding.enc l)), (3, .ptr 0 0), (5, .val (.int .i64 k_1))] [(0, .box (api_Finding.dv f) 44)] 1) hg (sub_ [(0, 0)]) ?_
 rintro k_1 m1 o1 hg hn1
 replace hg : g_ref14_put.l1 l f k_1 = some o1 := hg
 show awp _ _ _ _ (mk _ _ _)
 unfold g_ref14_put.l1 at hg
 refine awp_seq ?_
 refine awp_cut (ι := Bool) (fun (x19_2 : Bool) => mk [(0, .sl 11 (encL api_Finding.enc l)), (3, .ptr 0 0), (5, .val (.int .i64 k_1)), (19, .val (.bool x19_2))] [(0, .box (api_Finding.dv f) 44)] 1) (fun (x19_2 : Bool) => g_ref14_put.j2 l f k_1 x19_2 = some o1) ?_ ?_
 ·refine awp_draw (sys _ _ []) (by kernel_rfl) [0, 1, 3, 7, 7, 23, 63, 127, 7, 511, 1023, 2047] 1 97 mk_U rfl rfl (by kernel_rfl) ?_
  refine go_ ?_
  rcases bc_ hg with ⟨h3, hg⟩ | ⟨h3, hg⟩
  ·refine go_ ?_
   obtain ⟨e, he, hg⟩ := bind_some hg
   refine go_ ?_
   refine c0_ (gdv_t rfl rfl h3) rfl (r_loadEA ty44 (enc_cells api_Finding.enc_len (getI_at he) (o := 0) (m := 11) (cs := [.int .i64 e.Source, .str e.Host, .int .i64 e.Machine, .int .i64 e.Day, .int .i64 e.Confidence, .int .i64 e.Kind, .str e.Subject, .int .i64 e.Use.Alg, .int .i64 e.Use.Bits, .int .i64 e.Number, .str e.Text]) rfl (by decide) rfl) (enc_cells_le api_Finding.enc_len (getI_at he) (o := 0) (m := 11) (by decide) rfl)) rfl rfl ?_
   refine go_ ?_
   obtain ⟨y, hy, hg⟩ := bind_some hg
   refine ca_ (w_ref14_Order _ _ _ hy) ?_
   refine go_ ?_
   refine ch_n fun hU => ?_
   exact ⟨decide (0 < y), hg, sub_ [(0, 0)]⟩
  ·refine go_ ?_
   refine ch_n fun hU => ?_
   exact ⟨false, hg, sub_ [(0, 0)]⟩
 ·rintro x19_2 hg
  replace hg : g_ref14_put.j2 l f k_1 x19_2 = some o1 := hg
  show awp _ _ _ _ (mk _ _ _)
  unfold g_ref14_put.j2 at hg
  refine cg_ rfl hg (fun h6 hg => ?_) fun h6 hg => ?_
  ·refine awp_skip ?_
   repeat first | refine st_ ?_ | refine sn_ ?_
   refine awp_block ?_
   refine awp_region (sys _ _ []) 1 25 mk_U rfl rfl ?_
   refine go_ ?_
   refine ch_n fun hU => ?_
   obtain rfl := Option.some.inj hg
   exact ⟨(W (k_1 - 1), m1), Nat.lt_succ_self _, hn1, sub_ [(0, 0)]⟩
  ·refine awp_exit ?_
   repeat first | refine st_ ?_ | refine sn_ ?_
   replace hg := leave hg hn1
   refine awp_seq ?_
   refine awp_cut (ι := Bool) (fun (x33_3 : Bool) => mk [(0, .sl 11 (encL api_Finding.enc l)), (3, .ptr 0 0), (5, .val (.int .i64 k_1)), (33, .val (.bool x33_3))] [(0, .box (api_Finding.dv f) 44)] 1) (fun (x33_3 : Bool) => g_ref14_put.j3 l f k_1 x33_3 = some r) ?_ ?_
   ·refine awp_draw (sys _ _ []) (by kernel_rfl) [0, 1, 3, 7, 7, 23, 63, 127, 7, 511, 1023, 2047] 1 97 mk_U rfl rfl (by kernel_rfl) ?_
    refine go_ ?_
    rcases bc_ hg with ⟨h8, hg⟩ | ⟨h8, hg⟩
    ·refine go_ ?_
     obtain ⟨e_2, he_2, hg⟩ := bind_some hg
     refine go_ ?_
     refine c0_ (gdv_t rfl rfl h8) rfl (r_loadEA ty44 (enc_cells api_Finding.enc_len (getI_at he_2) (o := 0) (m := 11) (cs := [.int .i64 e_2.Source, .str e_2.Host, .int .i64 e_2.Machine, .int .i64 e_2.Day, .int .i64 e_2.Confidence, .int .i64 e_2.Kind, .str e_2.Subject, .int .i64 e_2.Use.Alg, .int .i64 e_2.Use.Bits, .int .i64 e_2.Number, .str e_2.Text]) rfl (by decide) rfl) (enc_cells_le api_Finding.enc_len (getI_at he_2) (o := 0) (m := 11) (by decide) rfl)) rfl rfl ?_
     refine go_ ?_
     obtain ⟨y_2, hy_2, hg⟩ := bind_some hg
     refine ca_ (w_ref14_Order _ _ _ hy_2) ?_
     refine go_ ?_
     refine ch_n fun hU => ?_
     exact ⟨decide (y_2 = 0), hg, sub_ [(0, 0)]⟩
    ·refine go_ ?_
     refine ch_n fun hU => ?_
     exact ⟨false, hg, sub_ [(0, 0)]⟩
   ·rintro x33_3 hg
    replace hg : g_ref14_put.j3 l f k_1 x33_3 = some r := hg
    show awp _ _ _ _ (mk _ _ _)
    unfold g_ref14_put.j3 at hg
    refine cg_ rfl hg (fun h11 hg => ?_) fun h11 hg => ?_
    ·refine awp_seq ?_
     refine awp_region (sys _ _ []) 1 17 mk_U rfl rfl ?_
     refine go_ ?_
     refine ch_n fun hU => ?_
     refine aw_r ?_
     obtain rfl := Option.some.inj hg
     exact fin_ [] ⟨rfl, rfl⟩
    ·refine awp_skip ?_
     repeat first | refine st_ ?_ | refine sn_ ?_
     refine awp_seq ?_
     refine awp_draw (sys _ _ []) (by kernel_rfl) [0, 0, 0, 6, 15, 0, 32, 127, 0, 0, 768, 2047, 4095] 1 105 mk_U rfl rfl (by kernel_rfl) ?_
     refine c0_ rfl rfl (r_buildFull sl33 z44 (by decide) rfl rfl rfl rfl ck44 (cs := []) .nil rfl (l := ([] : List api_Finding)) (f := api_Finding.enc) rfl) rfl rfl ?_
     refine go_ ?_
     obtain ⟨l_2, hl_2, hg⟩ := bind_some hg
     refine c0_ rfl rfl (r_sliS_hi sl33 api_Finding.enc_len hl_2) rfl rfl ?_
     obtain ⟨l_3, hl_3, hg⟩ := bind_some hg
     refine ch_s (rd := [1]) rfl rfl (r_append sl33 api_Finding.enc_len .row rfl .sl rfl hl_3 rfl) rfl rfl ?_
     refine go_ ?_
     refine c0_ rfl rfl (r_buildFull sl33 z44 (by decide) rfl rfl rfl rfl ck44 (cs := [.int .i64 f.Source, .str f.Host, .int .i64 f.Machine, .int .i64 f.Day, .int .i64 f.Confidence, .int .i64 f.Kind, .str f.Subject, .int .i64 f.Use.Alg, .int .i64 f.Use.Bits, .int .i64 f.Number, .str f.Text]) (.cons .int (.cons .str (.cons .int (.cons .int (.cons .int (.cons .int (.cons .str (.cons .int (.cons .int (.cons .int (.cons .str .nil))))))))))) rfl (l := ([f] : List api_Finding)) (f := api_Finding.enc) rfl) rfl rfl ?_
     obtain ⟨l_4, hl_4, hg⟩ := bind_some hg
     refine ch_s (rd := [33, 49]) rfl rfl (r_append sl33 api_Finding.enc_len .row rfl .row rfl hl_4 rfl) rfl rfl ?_
     refine go_ ?_
     obtain ⟨l_5, hl_5, hg⟩ := bind_some hg
     refine c0_ rfl rfl (r_sliS_lo sl33 api_Finding.enc_len hl_5) rfl rfl ?_
     obtain ⟨l_6, hl_6, hg⟩ := bind_some hg
     refine ch_s (rd := [57]) rfl rfl (r_append sl33 api_Finding.enc_len .row rfl .sl rfl hl_6 rfl) rfl rfl ?_
     refine go_ ?_
     refine ch_n fun hU => ?_
     refine aw_r ?_
     obtain rfl := Option.some.inj hg
     exact fin_ [] ⟨rfl, rfl⟩
theorem w_ref14_Norm (l : (List api_Finding)) (r : (List api_Finding) × Int) (hg : g_ref14_Norm l = some r) : Fn Tryz.prog 35 0 [.sl 11 (encL api_Finding.enc l)] [] (fun d b => d = .tup [.sl 11 (encL api_Finding.enc r.1), .val (.int .i64 r.2)] ∧ b = []) := by
 unfold g_ref14_Norm at hg
 refine Fn.of Tryz.func35 rfl rfl rfl fun w0 I ρ0 => ?_
 show awp _ ⟨w0, I, ρ0, 0, 0, 38⟩ _ _ _
 refine sr_ 0 16 mk_U ?_
 refine go_ ?_
 refine ch_n fun hU => ?_
 refine awp_seq ?_
 refine sr_ 16 24 hU ?_
 refine go_ ?_
 refine ch_n fun hU => ?_
 refine awp_block ?_
 refine lp_ (fun (i_1 : Int) => mk [(0, .sl 11 (encL api_Finding.enc l)), (4, .val (.int .i64 i_1))] [] 0) hg (sub_ []) ?_
 rintro i_1 m1 o1 hg hn1
 replace hg : g_ref14_Norm.l1 l i_1 = some o1 := hg
 show awp _ _ _ _ (mk _ _ _)
 unfold g_ref14_Norm.l1 at hg
 refine awp_seq ?_
 refine sr_ 0 32 mk_U ?_
 refine go_ ?_
 refine ch_n fun hU => ?_
 refine cg_ rfl hg (fun h4 hg => ?_) fun h4 hg => ?_
 ·refine awp_skip ?_
  repeat first | refine st_ ?_ | refine sn_ ?_
  refine awp_seq ?_
  refine awp_block ?_
  refine sr_ 32 80 hU ?_
  refine go_ ?_
  obtain ⟨e, he, hg⟩ := bind_some hg
  refine go_ ?_
  refine c0_ rfl rfl (r_loadEA ty44 (enc_cells api_Finding.enc_len (getI_at he) (o := 0) (m := 11) (cs := [.int .i64 e.Source, .str e.Host, .int .i64 e.Machine, .int .i64 e.Day, .int .i64 e.Confidence, .int .i64 e.Kind, .str e.Subject, .int .i64 e.Use.Alg, .int .i64 e.Use.Bits, .int .i64 e.Number, .str e.Text]) rfl (by decide) rfl) (enc_cells_le api_Finding.enc_len (getI_at he) (o := 0) (m := 11) (by decide) rfl)) rfl rfl ?_
  obtain ⟨y, hy, hg⟩ := bind_some hg
  refine ca_ (w_ref14_Check _ _ hy) ?_
  refine go_ ?_
  refine ch_n fun hU => ?_
  refine sr_ 80 96 hU ?_
  refine go_ ?_
  refine ch_n fun hU => ?_
  refine cg_ rfl hg (fun h7 hg => ?_) fun h7 hg => ?_
  ·refine awp_seq ?_
   refine awp_region (sys _ _ []) 96 120 hU rfl rfl ?_
   refine go_ ?_
   refine ch_n fun hU => ?_
   refine aw_r ?_
   replace hg := leave hg hn1
   obtain rfl := Option.some.inj hg
   exact fin_ [] ⟨rfl, rfl⟩
  ·refine awp_skip ?_
   repeat first | refine st_ ?_ | refine sn_ ?_
   refine awp_region (sys _ _ []) 96 120 hU rfl rfl ?_
   refine go_ ?_
   refine ch_n fun hU => ?_
   obtain rfl := Option.some.inj hg
   exact ⟨(W (i_1 + 1), m1), Nat.lt_succ_self _, hn1, sub_ []⟩
 ·refine awp_exit ?_
  repeat first | refine st_ ?_ | refine sn_ ?_
  replace hg := leave hg hn1
  refine sr_ 32 40 hU ?_
  refine go_ ?_
  refine ch_n fun hU => ?_
  refine awp_seq ?_
  refine sr_ 40 48 hU ?_
  refine go_ ?_
  refine ch_n fun hU => ?_
  refine awp_block ?_
  refine lp_ (fun ((out_2, i_2) : List api_Finding × Int) => mk [(0, .sl 11 (encL api_Finding.enc l)), (6, .sl 11 (encL api_Finding.enc out_2)), (7, .val (.int .i64 i_2))] [] 0) hg (sub_ []) ?_
  rintro ⟨out_2, i_2⟩ m2 o2 hg hn2
  replace hg : g_ref14_Norm.l2 l out_2 i_2 = some o2 := hg
  show awp _ _ _ _ (mk _ _ _)
  unfold g_ref14_Norm.l2 at hg
  refine awp_seq ?_
  refine sr_ 0 32 mk_U ?_
  refine go_ ?_
  refine ch_n fun hU => ?_
  refine cg_ rfl hg (fun h13 hg => ?_) fun h13 hg => ?_
  ·refine awp_skip ?_
   repeat first | refine st_ ?_ | refine sn_ ?_
   refine awp_seq ?_
   refine awp_block ?_
   refine sr_ 32 88 hU ?_
   refine go_ ?_
   obtain ⟨e_2, he_2, hg⟩ := bind_some hg
   refine go_ ?_
   refine c0_ rfl rfl (r_loadEA ty44 (enc_cells api_Finding.enc_len (getI_at he_2) (o := 0) (m := 11) (cs := [.int .i64 e_2.Source, .str e_2.Host, .int .i64 e_2.Machine, .int .i64 e_2.Day, .int .i64 e_2.Confidence, .int .i64 e_2.Kind, .str e_2.Subject, .int .i64 e_2.Use.Alg, .int .i64 e_2.Use.Bits, .int .i64 e_2.Number, .str e_2.Text]) rfl (by decide) rfl) (enc_cells_le api_Finding.enc_len (getI_at he_2) (o := 0) (m := 11) (by decide) rfl)) rfl rfl ?_
   obtain ⟨y_2, hy_2, hg⟩ := bind_some hg
   refine ca_ (w_ref14_put _ _ _ hy_2) ?_
   refine go_ ?_
   refine ch_n fun hU => ?_
   refine sr_ 88 112 hU ?_
   refine go_ ?_
   refine ch_n fun hU => ?_
   refine cg_ rfl hg (fun h16 hg => ?_) fun h16 hg => ?_
   ·refine awp_seq ?_
    refine awp_region (sys _ _ []) 112 128 hU rfl rfl ?_
    refine go_ ?_
    refine ch_n fun hU => ?_
    refine aw_r ?_
    replace hg := leave hg hn2
    obtain rfl := Option.some.inj hg
    exact fin_ [] ⟨rfl, rfl⟩
   ·refine awp_skip ?_
    repeat first | refine st_ ?_ | refine sn_ ?_
    refine awp_region (sys _ _ []) 112 136 hU rfl rfl ?_
    refine go_ ?_
    refine ch_n fun hU => ?_
    obtain rfl := Option.some.inj hg
    exact ⟨((y_2, W (i_2 + 1)), m2), Nat.lt_succ_self _, hn2, sub_ []⟩
  ·refine awp_exit ?_
   repeat first | refine st_ ?_ | refine sn_ ?_
   replace hg := leave hg hn2
   refine sr_ 32 56 hU ?_
   refine go_ ?_
   refine ch_n fun hU => ?_
   refine aw_r ?_
   obtain rfl := Option.some.inj hg
   exact fin_ [] ⟨rfl, rfl⟩
theorem w_ref14_FromEndpoint (at' : api_Finding) (e : api_Endpoint) (r : (List api_Finding) × Int) (hg : g_ref14_FromEndpoint at' e = some r) : Fn Tryz.prog 20 0 [.agg (api_Finding.dv at'), .agg (api_Endpoint.dv e)] [] (fun d b => d = .tup [.sl 11 (encL api_Finding.enc r.1), .val (.int .i64 r.2)] ∧ b = []) := by
 unfold g_ref14_FromEndpoint at hg
 refine Fn.of Tryz.func20 rfl rfl rfl fun w0 I ρ0 => ?_
 show awp _ ⟨w0, I, ρ0, 0, 0, 116⟩ _ _ _
 refine sr_ 0 32 mk_U ?_
 refine go_ ?_
 refine ch_n fun hU => ?_
 refine sr_ 32 96 hU ?_
 refine go_ ?_
 obtain ⟨y, hy, hg⟩ := bind_some hg
 refine ca_ (w_ref14_base _ _ hy) ?_
 refine go_ ?_
 refine ch_n fun hU => ?_
 refine awp_seq ?_
 refine sr_ 96 112 hU ?_
 refine go_ ?_
 refine ch_n fun hU => ?_
 refine cg_ rfl hg (fun h4 hg => ?_) fun h4 hg => ?_
 ·refine awp_seq ?_
  refine awp_region (sys _ _ []) 112 136 hU rfl rfl ?_
  refine go_ ?_
  refine ch_n fun hU => ?_
  refine aw_r ?_
  obtain rfl := Option.some.inj hg
  exact fin_ [] ⟨rfl, rfl⟩
 ·refine awp_skip ?_
  repeat first | refine st_ ?_ | refine sn_ ?_
  refine awp_seq ?_
  refine sr_ 112 136 hU ?_
  refine go_ ?_
  obtain ⟨y_2, hy_2, hg⟩ := bind_some hg
  refine ca_ (w_ref09_Check _ _ hy_2) ?_
  refine go_ ?_
  refine ch_n fun hU => ?_
  refine sr_ 136 152 hU ?_
  refine go_ ?_
  refine ch_n fun hU => ?_
  refine cg_ rfl hg (fun h8 hg => ?_) fun h8 hg => ?_
  ·refine awp_seq ?_
   refine awp_region (sys _ _ []) 152 176 hU rfl rfl ?_
   refine go_ ?_
   refine ch_n fun hU => ?_
   refine aw_r ?_
   obtain rfl := Option.some.inj hg
   exact fin_ [] ⟨rfl, rfl⟩
  ·refine awp_skip ?_
   repeat first | refine st_ ?_ | refine sn_ ?_
   refine awp_seq ?_
   refine awp_draw (sys _ _ []) (by kernel_rfl) [0, 0, 2, 7, 0, 0, 32, 127, 255, 511] 152 232 hU rfl rfl (by kernel_rfl) ?_
   refine go_ ?_
   obtain ⟨y_3, hy_3, hg⟩ := bind_some hg
   refine ca_ (w_ref14_number _ _ _ _ hy_3) ?_
   refine go_ ?_
   obtain ⟨y_4, hy_4, hg⟩ := bind_some hg
   refine ca_ (w_ref14_number _ _ _ _ hy_4) ?_
   refine c0_ rfl rfl (r_buildFull sl33 z44 (by decide) rfl rfl rfl rfl ck44 (cs := [.int .i64 y_3.Source, .str y_3.Host, .int .i64 y_3.Machine, .int .i64 y_3.Day, .int .i64 y_3.Confidence, .int .i64 y_3.Kind, .str y_3.Subject, .int .i64 y_3.Use.Alg, .int .i64 y_3.Use.Bits, .int .i64 y_3.Number, .str y_3.Text, .int .i64 y_4.Source, .str y_4.Host, .int .i64 y_4.Machine, .int .i64 y_4.Day, .int .i64 y_4.Confidence, .int .i64 y_4.Kind, .str y_4.Subject, .int .i64 y_4.Use.Alg, .int .i64 y_4.Use.Bits, .int .i64 y_4.Number, .str y_4.Text]) (.cons .int (.cons .str (.cons .int (.cons .int (.cons .int (.cons .int (.cons .str (.cons .int (.cons .int (.cons .int (.cons .str (.cons .int (.cons .str (.cons .int (.cons .int (.cons .int (.cons .int (.cons .str (.cons .int (.cons .int (.cons .int (.cons .str .nil)))))))))))))))))))))) rfl (l := ([y_3, y_4] : List api_Finding)) (f := api_Finding.enc) rfl) rfl rfl ?_
   refine go_ ?_
   refine ch_n fun hU => ?_
   refine awp_seq ?_
   refine sr_ 232 240 hU ?_
   refine go_ ?_
   refine ch_n fun hU => ?_
   refine awp_block ?_
   refine lp_ (fun ((i_1, l_1) : Int × List api_Finding) => mk [(3, .ptr 0 0), (6, .ptr 1 0), (9, .row 2), (10, .val (.int .i64 i_1))] [(0, .box (api_Endpoint.dv e) 37), (1, .box (api_Finding.dv y.1) 44), (2, .row 44 11 (encL api_Finding.enc l_1))] 3) hg (sub_ [(0, 8), (1, 72), (2, 216)]) ?_
   rintro ⟨i_1, l_1⟩ m1 o1 hg hn1
   replace hg : g_ref14_FromEndpoint.l1 e y i_1 l_1 = some o1 := hg
   show awp _ _ _ _ (mk _ _ _)
   unfold g_ref14_FromEndpoint.l1 at hg
   refine awp_seq ?_
   refine sr_ 3 43 mk_U ?_
   refine go_ ?_
   refine ch_n fun hU => ?_
   refine cg_ rfl hg (fun h13 hg => ?_) fun h13 hg => ?_
   ·refine awp_skip ?_
    repeat first | refine st_ ?_ | refine sn_ ?_
    refine awp_seq ?_
    refine awp_block ?_
    refine awp_draw (sys _ _ []) (by kernel_rfl) [0, 0, 0, 4, 0, 28, 60, 126, 254, 511, 1023] 43 131 hU rfl rfl (by kernel_rfl) ?_
    refine go_ ?_
    obtain ⟨e_2, he_2, hg⟩ := bind_some hg
    refine go_ ?_
    refine c0_ rfl rfl (r_loadE1 ty3 (enc_cell eI_len (getI_at he_2) (o := 0) (c := .int .i64 e_2) rfl rfl)) rfl rfl ?_
    obtain ⟨y_5, hy_5, hg⟩ := bind_some hg
    refine ca_ (w_ref14_number _ _ _ _ hy_5) ?_
    refine c0_ rfl rfl (r_buildFull sl33 z44 (by decide) rfl rfl rfl rfl ck44 (cs := [.int .i64 y_5.Source, .str y_5.Host, .int .i64 y_5.Machine, .int .i64 y_5.Day, .int .i64 y_5.Confidence, .int .i64 y_5.Kind, .str y_5.Subject, .int .i64 y_5.Use.Alg, .int .i64 y_5.Use.Bits, .int .i64 y_5.Number, .str y_5.Text]) (.cons .int (.cons .str (.cons .int (.cons .int (.cons .int (.cons .int (.cons .str (.cons .int (.cons .int (.cons .int (.cons .str .nil))))))))))) rfl (l := ([y_5] : List api_Finding)) (f := api_Finding.enc) rfl) rfl rfl ?_
    obtain ⟨l, hl, hg⟩ := bind_some hg
    refine ch_s (rd := [2, 107]) rfl rfl (r_append sl33 api_Finding.enc_len .row rfl .row rfl hl rfl) rfl rfl ?_
    refine go_ ?_
    refine ch_n fun hU => ?_
    refine awp_region (sys _ _ []) 131 155 hU rfl rfl ?_
    refine go_ ?_
    refine ch_n fun hU => ?_
    obtain rfl := Option.some.inj hg
    exact ⟨((W (i_1 + 1), l), m1), Nat.lt_succ_self _, hn1, sub_ [(0, 0), (1, 1), (2, 115)]⟩
   ·refine awp_exit ?_
    repeat first | refine st_ ?_ | refine sn_ ?_
    replace hg := leave hg hn1
    refine awp_seq ?_
    refine sr_ 43 51 hU ?_
    refine go_ ?_
    refine ch_n fun hU => ?_
    refine awp_block ?_
    refine lp_ (fun ((i_2, l_2) : Int × List api_Finding) => mk [(3, .ptr 0 0), (6, .ptr 1 0), (9, .row 2), (11, .val (.int .i64 i_2))] [(0, .box (api_Endpoint.dv e) 37), (1, .box (api_Finding.dv y.1) 44), (2, .row 44 11 (encL api_Finding.enc l_2))] 3) hg (sub_ [(0, 0), (1, 1), (2, 2)]) ?_
    rintro ⟨i_2, l_2⟩ m2 o2 hg hn2
    replace hg : g_ref14_FromEndpoint.l2 e y i_2 l_2 = some o2 := hg
    show awp _ _ _ _ (mk _ _ _)
    unfold g_ref14_FromEndpoint.l2 at hg
    refine awp_seq ?_
    refine sr_ 3 43 mk_U ?_
    refine go_ ?_
    refine ch_n fun hU => ?_
    refine cg_ rfl hg (fun h18 hg => ?_) fun h18 hg => ?_
    ·refine awp_skip ?_
     repeat first | refine st_ ?_ | refine sn_ ?_
     refine awp_seq ?_
     refine awp_block ?_
     refine awp_draw (sys _ _ []) (by kernel_rfl) [0, 0, 0, 4, 0, 28, 60, 124, 0, 256, 0, 1792, 3840, 7936, 16382, 32766, 65535, 131071] 43 187 hU rfl rfl (by kernel_rfl) ?_
     refine go_ ?_
     obtain ⟨e_3, he_3, hg⟩ := bind_some hg
     refine go_ ?_
     refine c0_ rfl rfl (r_fieldE fd58_0 ty42 (by decide) (enc_lt api_Identity.enc_len (getI_at he_3) (o := 0) (by decide) rfl)) rfl rfl ?_
     refine c0_ rfl rfl (r_loadEA ty42 (enc_cells api_Identity.enc_len (getI_at he_3) (o := 0) (m := 2) (cs := [.int .i64 e_3.Key.Alg, .int .i64 e_3.Key.Bits]) rfl (by decide) rfl) (enc_cells_le api_Identity.enc_len (getI_at he_3) (o := 0) (m := 2) (by decide) rfl)) rfl rfl ?_
     refine go_ ?_
     refine c0_ rfl rfl (r_fieldE fd58_1 ty3 (by decide) (enc_lt api_Identity.enc_len (getI_at he_3) (o := 2) (by decide) rfl)) rfl rfl ?_
     refine c0_ rfl rfl (r_loadE1 ty3 (enc_cell api_Identity.enc_len (getI_at he_3) (o := 2) (c := .int .i64 e_3.KeyId) rfl rfl)) rfl rfl ?_
     obtain ⟨y_6, hy_6, hg⟩ := bind_some hg
     refine ca_ (w_ref14_use _ _ _ _ _ hy_6) ?_
     refine c0_ rfl rfl (r_buildFull sl33 z44 (by decide) rfl rfl rfl rfl ck44 (cs := [.int .i64 y_6.Source, .str y_6.Host, .int .i64 y_6.Machine, .int .i64 y_6.Day, .int .i64 y_6.Confidence, .int .i64 y_6.Kind, .str y_6.Subject, .int .i64 y_6.Use.Alg, .int .i64 y_6.Use.Bits, .int .i64 y_6.Number, .str y_6.Text]) (.cons .int (.cons .str (.cons .int (.cons .int (.cons .int (.cons .int (.cons .str (.cons .int (.cons .int (.cons .int (.cons .str .nil))))))))))) rfl (l := ([y_6] : List api_Finding)) (f := api_Finding.enc) rfl) rfl rfl ?_
     obtain ⟨l_3, hl_3, hg⟩ := bind_some hg
     refine ch_s (rd := [2, 163]) rfl rfl (r_append sl33 api_Finding.enc_len .row rfl .row rfl hl_3 rfl) rfl rfl ?_
     refine go_ ?_
     refine ch_n fun hU => ?_
     refine awp_region (sys _ _ []) 187 211 hU rfl rfl ?_
     refine go_ ?_
     refine ch_n fun hU => ?_
     obtain rfl := Option.some.inj hg
     exact ⟨((W (i_2 + 1), l_3), m2), Nat.lt_succ_self _, hn2, sub_ [(0, 0), (1, 1), (2, 171)]⟩
    ·refine awp_exit ?_
     repeat first | refine st_ ?_ | refine sn_ ?_
     replace hg := leave hg hn2
     refine awp_seq ?_
     refine sr_ 43 51 hU ?_
     refine go_ ?_
     refine ch_n fun hU => ?_
     refine awp_block ?_
     refine lp_ (fun ((i_3, l_3_2) : Int × List api_Finding) => mk [(3, .ptr 0 0), (6, .ptr 1 0), (9, .row 2), (12, .val (.int .i64 i_3))] [(0, .box (api_Endpoint.dv e) 37), (1, .box (api_Finding.dv y.1) 44), (2, .row 44 11 (encL api_Finding.enc l_3_2))] 3) hg (sub_ [(0, 0), (1, 1), (2, 2)]) ?_
     rintro ⟨i_3, l_3_2⟩ m3 o3 hg hn3
     replace hg : g_ref14_FromEndpoint.l3 e y i_3 l_3_2 = some o3 := hg
     show awp _ _ _ _ (mk _ _ _)
     unfold g_ref14_FromEndpoint.l3 at hg
     refine awp_seq ?_
     refine sr_ 3 43 mk_U ?_
     refine go_ ?_
     refine ch_n fun hU => ?_
     refine cg_ rfl hg (fun h23 hg => ?_) fun h23 hg => ?_
     ·refine awp_skip ?_
      repeat first | refine st_ ?_ | refine sn_ ?_
      refine awp_seq ?_
      refine awp_block ?_
      refine awp_draw (sys _ _ []) (by kernel_rfl) [0, 0, 0, 4, 0, 28, 60, 126, 254, 511, 1023] 43 131 hU rfl rfl (by kernel_rfl) ?_
      refine go_ ?_
      obtain ⟨e_4, he_4, hg⟩ := bind_some hg
      refine go_ ?_
      refine c0_ rfl rfl (r_loadE1 ty3 (enc_cell eI_len (getI_at he_4) (o := 0) (c := .int .i64 e_4) rfl rfl)) rfl rfl ?_
      obtain ⟨y_7, hy_7, hg⟩ := bind_some hg
      refine ca_ (w_ref14_number _ _ _ _ hy_7) ?_
      refine c0_ rfl rfl (r_buildFull sl33 z44 (by decide) rfl rfl rfl rfl ck44 (cs := [.int .i64 y_7.Source, .str y_7.Host, .int .i64 y_7.Machine, .int .i64 y_7.Day, .int .i64 y_7.Confidence, .int .i64 y_7.Kind, .str y_7.Subject, .int .i64 y_7.Use.Alg, .int .i64 y_7.Use.Bits, .int .i64 y_7.Number, .str y_7.Text]) (.cons .int (.cons .str (.cons .int (.cons .int (.cons .int (.cons .int (.cons .str (.cons .int (.cons .int (.cons .int (.cons .str .nil))))))))))) rfl (l := ([y_7] : List api_Finding)) (f := api_Finding.enc) rfl) rfl rfl ?_
      obtain ⟨l_4, hl_4, hg⟩ := bind_some hg
      refine ch_s (rd := [2, 107]) rfl rfl (r_append sl33 api_Finding.enc_len .row rfl .row rfl hl_4 rfl) rfl rfl ?_
      refine go_ ?_
      refine ch_n fun hU => ?_
      refine awp_region (sys _ _ []) 131 155 hU rfl rfl ?_
      refine go_ ?_
      refine ch_n fun hU => ?_
      obtain rfl := Option.some.inj hg
      exact ⟨((W (i_3 + 1), l_4), m3), Nat.lt_succ_self _, hn3, sub_ [(0, 0), (1, 1), (2, 115)]⟩
     ·refine awp_exit ?_
      repeat first | refine st_ ?_ | refine sn_ ?_
      replace hg := leave hg hn3
      refine awp_seq ?_
      refine sr_ 43 51 hU ?_
      refine go_ ?_
      refine ch_n fun hU => ?_
      refine awp_block ?_
      refine lp_ (fun ((i_4, l_4_2) : Int × List api_Finding) => mk [(3, .ptr 0 0), (6, .ptr 1 0), (9, .row 2), (13, .val (.int .i64 i_4))] [(0, .box (api_Endpoint.dv e) 37), (1, .box (api_Finding.dv y.1) 44), (2, .row 44 11 (encL api_Finding.enc l_4_2))] 3) hg (sub_ [(0, 0), (1, 1), (2, 2)]) ?_
      rintro ⟨i_4, l_4_2⟩ m4 o4 hg hn4
      replace hg : g_ref14_FromEndpoint.l4 e y i_4 l_4_2 = some o4 := hg
      show awp _ _ _ _ (mk _ _ _)
      unfold g_ref14_FromEndpoint.l4 at hg
      refine awp_seq ?_
      refine sr_ 3 43 mk_U ?_
      refine go_ ?_
      refine ch_n fun hU => ?_
      refine cg_ rfl hg (fun h28 hg => ?_) fun h28 hg => ?_
      ·refine awp_skip ?_
       repeat first | refine st_ ?_ | refine sn_ ?_
       refine awp_seq ?_
       refine awp_block ?_
       refine awp_draw (sys _ _ []) (by kernel_rfl) [0, 0, 0, 4, 0, 28, 60, 124, 254, 510, 1023, 2047] 43 139 hU rfl rfl (by kernel_rfl) ?_
       refine go_ ?_
       obtain ⟨e_5, he_5, hg⟩ := bind_some hg
       refine go_ ?_
       refine c0_ rfl rfl (r_loadE1 ty3 (enc_cell eI_len (getI_at he_5) (o := 0) (c := .int .i64 e_5) rfl rfl)) rfl rfl ?_
       refine c0_ rfl rfl (.build (r := [.val (.int .i64 e_5), .val (.int .i64 0)]) und42 pl42 z42 (by kernel_rfl) rfl) rfl rfl ?_
       obtain ⟨y_8, hy_8, hg⟩ := bind_some hg
       refine ca_ (w_ref14_use _ _ _ _ _ hy_8) ?_
       refine c0_ rfl rfl (r_buildFull sl33 z44 (by decide) rfl rfl rfl rfl ck44 (cs := [.int .i64 y_8.Source, .str y_8.Host, .int .i64 y_8.Machine, .int .i64 y_8.Day, .int .i64 y_8.Confidence, .int .i64 y_8.Kind, .str y_8.Subject, .int .i64 y_8.Use.Alg, .int .i64 y_8.Use.Bits, .int .i64 y_8.Number, .str y_8.Text]) (.cons .int (.cons .str (.cons .int (.cons .int (.cons .int (.cons .int (.cons .str (.cons .int (.cons .int (.cons .int (.cons .str .nil))))))))))) rfl (l := ([y_8] : List api_Finding)) (f := api_Finding.enc) rfl) rfl rfl ?_
       obtain ⟨l_5, hl_5, hg⟩ := bind_some hg
       refine ch_s (rd := [2, 115]) rfl rfl (r_append sl33 api_Finding.enc_len .row rfl .row rfl hl_5 rfl) rfl rfl ?_
       refine go_ ?_
       refine ch_n fun hU => ?_
       refine awp_region (sys _ _ []) 139 163 hU rfl rfl ?_
       refine go_ ?_
       refine ch_n fun hU => ?_
       obtain rfl := Option.some.inj hg
       exact ⟨((W (i_4 + 1), l_5), m4), Nat.lt_succ_self _, hn4, sub_ [(0, 0), (1, 1), (2, 123)]⟩
      ·refine awp_exit ?_
       repeat first | refine st_ ?_ | refine sn_ ?_
       replace hg := leave hg hn4
       refine awp_seq ?_
       refine awp_sub (σ' := mk [(9, .sl 11 (encL api_Finding.enc l_4_2))] [] 0) (sub_ []) ?_
       refine awp_region (sys _ _ []) 0 48 mk_U rfl rfl ?_
       refine go_ ?_
       obtain ⟨y_9, hy_9, hg⟩ := bind_some hg
       refine ca_ (w_ref14_Norm _ _ hy_9) ?_
       refine go_ ?_
       refine ch_n fun hU => ?_
       refine aw_r ?_
       obtain rfl := Option.some.inj hg
       exact fin_ [] ⟨rfl, rfl⟩
theorem w_make_Finding (d : cipherplanmake_Dice) (r : api_Finding × cipherplanmake_Dice) (hg : g_make_Finding d = some r) : Fn Tryz.prog 36 1 [.ptr 0 0] [.box [.sl 1 (encL eI d.L), .val (.int .i64 d.At)] 50] (fun d b => d = .agg (api_Finding.dv r.1) ∧ b = [.box [.sl 1 (encL eI r.2.L), .val (.int .i64 r.2.At)] 50]) := by
 unfold g_make_Finding at hg
 refine Fn.of Tryz.func36 rfl rfl rfl fun w0 I ρ0 => ?_
 show awp _ ⟨w0, I, ρ0, 1, 1, 76⟩ _ _ _
 refine sr_ 1 9 mk_U ?_
 refine go_ ?_
 refine ch_n fun hU => ?_
 refine awp_seq ?_
 refine awp_region (sys _ _ [41, 65, 105, 153]) 9 193 hU rfl rfl ?_
 refine go_ ?_
 obtain ⟨y, hy, hg⟩ := bind_some hg
 refine cb_ [0] [0] [] false (w_make_Dice_Next _ _ _ hy) ?_
 refine go_ ?_
 refine ch_z (rd := []) rfl rfl (r_buildFull sl51 z9 (by decide) rfl rfl rfl rfl ck9 (cs := [.str (⟨#[97]⟩ : ByteArray), .str (⟨#[98]⟩ : ByteArray), .str (⟨#[99]⟩ : ByteArray)]) (.cons .str (.cons .str (.cons .str .nil))) rfl (l := ([(⟨#[97]⟩ : ByteArray), (⟨#[98]⟩ : ByteArray), (⟨#[99]⟩ : ByteArray)] : List ByteArray)) (f := eS) rfl) rfl rfl rfl ?_
 obtain ⟨y_2, hy_2, hg⟩ := bind_some hg
 refine cb_ [0] [0] [] false (w_make_Dice_Word _ _ _ hy_2) ?_
 refine go_ ?_
 refine ch_z (rd := []) rfl rfl (r_buildFull sl22 z3 (by decide) rfl rfl rfl rfl ck3 (cs := [.int .i64 0, .int .i64 1, .int .i64 2, .int .i64 0, .int .i64 3]) (.cons .int (.cons .int (.cons .int (.cons .int (.cons .int .nil))))) rfl (l := ([0, 1, 2, 0, 3] : List Int)) (f := eI) rfl) rfl rfl rfl ?_
 obtain ⟨y_3, hy_3, hg⟩ := bind_some hg
 refine cb_ [0] [0] [] false (w_make_Dice_Of _ _ _ hy_3) ?_
 refine go_ ?_
 obtain ⟨y_4, hy_4, hg⟩ := bind_some hg
 refine cb_ [0] [0] [] false (w_make_Dice_Next _ _ _ hy_4) ?_
 refine go_ ?_
 refine ch_z (rd := []) rfl rfl (r_buildFull sl22 z3 (by decide) rfl rfl rfl rfl ck3 (cs := [.int .i64 90, .int .i64 50, .int .i64 100, .int .i64 1]) (.cons .int (.cons .int (.cons .int (.cons .int .nil)))) rfl (l := ([90, 50, 100, 1] : List Int)) (f := eI) rfl) rfl rfl rfl ?_
 obtain ⟨y_5, hy_5, hg⟩ := bind_some hg
 refine cb_ [0] [0] [] false (w_make_Dice_Of _ _ _ hy_5) ?_
 refine go_ ?_
 obtain ⟨y_6, hy_6, hg⟩ := bind_some hg
 refine cb_ [0] [0] [] false (w_make_Dice_Next _ _ _ hy_6) ?_
 refine go_ ?_
 refine ch_z (rd := []) rfl rfl (r_buildFull sl51 z9 (by decide) rfl rfl rfl rfl ck9 (cs := [.str (⟨#[115]⟩ : ByteArray), .str (⟨#[116]⟩ : ByteArray)]) (.cons .str (.cons .str .nil)) rfl (l := ([(⟨#[115]⟩ : ByteArray), (⟨#[116]⟩ : ByteArray)] : List ByteArray)) (f := eS) rfl) rfl rfl rfl ?_
 obtain ⟨y_7, hy_7, hg⟩ := bind_some hg
 refine cb_ [0] [0] [] false (w_make_Dice_Word _ _ _ hy_7) ?_
 refine c0_ rfl rfl (.build (r := [.val (.int .i64 (W (1 + y.1))), .val (.string y_2.1), .val (.int .i64 y_3.1), .val (.int .i64 y_4.1), .val (.int .i64 y_5.1), .val (.int .i64 (W (1 + y_6.1))), .val (.string y_7.1), .val (.int .i64 0), .val (.int .i64 0), .val (.int .i64 0), .val (.string (⟨#[]⟩ : ByteArray))]) und44 pl44 z44 (by kernel_rfl) rfl) rfl rfl ?_
 refine go_ ?_
 refine ch_n fun hU => ?_
 refine awp_cut (ι := cipherplanmake_Dice × api_Finding) (fun ((b_3, f_3) : cipherplanmake_Dice × api_Finding) => mk [(2, .ptr 1 0), (3, .ptr 2 0)] [(0, .box [.sl 1 (encL eI b_3.L), .val (.int .i64 b_3.At)] 50), (1, .box [.val (.int .i64 0), .val (.string (⟨#[]⟩ : ByteArray)), .val (.int .i64 0), .val (.int .i64 0), .val (.int .i64 0), .val (.int .i64 0), .val (.string (⟨#[]⟩ : ByteArray)), .val (.int .i64 0), .val (.int .i64 0), .val (.int .i64 0), .val (.string (⟨#[]⟩ : ByteArray))] 44), (2, .box (api_Finding.dv f_3) 44)] 3) (fun ((b_3, f_3) : cipherplanmake_Dice × api_Finding) => g_make_Finding.j3 b_3 f_3 = some r) ?_ ?_
 ·refine awp_seq ?_
  refine awp_region (sys _ _ []) 193 209 hU rfl rfl ?_
  refine go_ ?_
  refine ch_n fun hU => ?_
  refine awp_block ?_
  refine awp_cut (ι := Bool) (fun (x27_1 : Bool) => mk [(0, .ptr 0 0), (2, .ptr 1 0), (3, .ptr 2 0), (26, .val (.int .i64 (W (1 + y_6.1)))), (27, .val (.bool x27_1))] [(0, .box [.sl 1 (encL eI y_7.2.L), .val (.int .i64 y_7.2.At)] 50), (1, .box [.val (.int .i64 0), .val (.string (⟨#[]⟩ : ByteArray)), .val (.int .i64 0), .val (.int .i64 0), .val (.int .i64 0), .val (.int .i64 0), .val (.string (⟨#[]⟩ : ByteArray)), .val (.int .i64 0), .val (.int .i64 0), .val (.int .i64 0), .val (.string (⟨#[]⟩ : ByteArray))] 44), (2, .box [.val (.int .i64 (W (1 + y.1))), .val (.string y_2.1), .val (.int .i64 y_3.1), .val (.int .i64 y_4.1), .val (.int .i64 y_5.1), .val (.int .i64 (W (1 + y_6.1))), .val (.string y_7.1), .val (.int .i64 0), .val (.int .i64 0), .val (.int .i64 0), .val (.string (⟨#[]⟩ : ByteArray))] 44)] 3) (fun (x27_1 : Bool) => g_make_Finding.j1 y y_2 y_3 y_4 y_5 y_6 y_7 x27_1 = some r) ?_ ?_
  ·refine awp_seq ?_
   refine awp_region (sys _ _ []) 209 225 hU rfl rfl ?_
   refine go_ ?_
   refine ch_n fun hU => ?_
   refine cg_ rfl hg (fun h5 hg => ?_) fun h5 hg => ?_
   ·refine awp_skip ?_
    repeat first | refine st_ ?_ | refine sn_ ?_
    exact ⟨decide ((W (1 + y_6.1)) = 1), hg, sub_ [(0, 0), (1, 1), (2, 177)]⟩
   ·refine awp_region (sys _ _ []) 225 241 hU rfl rfl ?_
    refine go_ ?_
    refine ch_n fun hU => ?_
    exact ⟨decide ((W (1 + y_6.1)) = 8), hg, sub_ [(0, 0), (1, 1), (2, 177)]⟩
  ·rintro x27_1 hg
   replace hg : g_make_Finding.j1 y y_2 y_3 y_4 y_5 y_6 y_7 x27_1 = some r := hg
   show awp _ _ _ _ (mk _ _ _)
   unfold g_make_Finding.j1 at hg
   refine cg_ rfl hg (fun h7 hg => ?_) fun h7 hg => ?_
   ·refine awp_region (sys _ _ []) 3 91 mk_U rfl rfl ?_
    refine c0_ rfl rfl (.build (r := [.val (.int .i64 1), .val (.int .i64 0)]) und42 pl42 z42 (by kernel_rfl) rfl) rfl rfl ?_
    refine c0_ rfl rfl (.build (r := [.val (.int .i64 2), .val (.int .i64 0)]) und42 pl42 z42 (by kernel_rfl) rfl) rfl rfl ?_
    refine c0_ rfl rfl (.build (r := [.val (.int .i64 5), .val (.int .i64 1024)]) und42 pl42 z42 (by kernel_rfl) rfl) rfl rfl ?_
    refine c0_ rfl rfl (.build (r := [.val (.int .i64 14), .val (.int .i64 128)]) und42 pl42 z42 (by kernel_rfl) rfl) rfl rfl ?_
    refine c0_ rfl rfl (r_buildFull sl84 z42 (by decide) rfl rfl rfl rfl ck42 (cs := [.int .i64 1, .int .i64 0, .int .i64 2, .int .i64 0, .int .i64 5, .int .i64 1024, .int .i64 14, .int .i64 128]) (.cons .int (.cons .int (.cons .int (.cons .int (.cons .int (.cons .int (.cons .int (.cons .int .nil)))))))) rfl (l := ([(api_Use.mk 1 0), (api_Use.mk 2 0), (api_Use.mk 5 1024), (api_Use.mk 14 128)] : List api_Use)) (f := api_Use.enc) rfl) rfl rfl ?_
    refine go_ ?_
    obtain ⟨y_8, hy_8, hg⟩ := bind_some hg
    refine cb_ [0] [0] [] false (w_make_Dice_Next _ _ _ hy_8) ?_
    obtain ⟨e, he, hg⟩ := bind_some hg
    refine go_ ?_
    refine ch_s (rd := [35]) rfl rfl (r_loadRA ty42 (enc_cells api_Use.enc_len (getI_at he) (o := 0) (m := 2) (cs := [.int .i64 e.Alg, .int .i64 e.Bits]) rfl (by decide) rfl) (enc_cells_le api_Use.enc_len (getI_at he) (o := 0) (m := 2) (by decide) rfl)) rfl rfl ?_
    refine go_ ?_
    refine ch_n fun hU => ?_
    exact ⟨(y_8.2, (api_Finding.mk (W (1 + y.1)) y_2.1 y_3.1 y_4.1 y_5.1 (W (1 + y_6.1)) y_7.1 e 0 (⟨#[]⟩ : ByteArray))), hg, sub_ [(0, 0), (1, 1), (2, 2)]⟩
   ·refine awp_seq ?_
    refine awp_region (sys _ _ []) 3 19 mk_U rfl rfl ?_
    refine go_ ?_
    refine ch_n fun hU => ?_
    refine cg_ rfl hg (fun h10 hg => ?_) fun h10 hg => ?_
    ·refine awp_region (sys _ _ []) 19 59 hU rfl rfl ?_
     refine go_ ?_
     obtain ⟨y_9, hy_9, hg⟩ := bind_some hg
     refine cb_ [0] [0] [] false (w_make_Dice_Next _ _ _ hy_9) ?_
     refine go_ ?_
     refine ch_n fun hU => ?_
     exact ⟨(y_9.2, (api_Finding.mk (W (1 + y.1)) y_2.1 y_3.1 y_4.1 y_5.1 (W (1 + y_6.1)) y_7.1 (api_Use.mk 0 0) (W (1 + y_9.1)) (⟨#[]⟩ : ByteArray))), hg, sub_ [(0, 0), (1, 1), (2, 2)]⟩
    ·refine awp_seq ?_
     refine awp_region (sys _ _ []) 19 35 hU rfl rfl ?_
     refine go_ ?_
     refine ch_n fun hU => ?_
     refine cg_ rfl hg (fun h13 hg => ?_) fun h13 hg => ?_
     ·refine awp_region (sys _ _ [43]) 35 123 hU rfl rfl ?_
      refine go_ ?_
      refine ch_z (rd := []) rfl rfl (r_buildFull sl22 z3 (by decide) rfl rfl rfl rfl ck3 (cs := [.int .i64 1024, .int .i64 2048]) (.cons .int (.cons .int .nil)) rfl (l := ([1024, 2048] : List Int)) (f := eI) rfl) rfl rfl rfl ?_
      obtain ⟨y_10, hy_10, hg⟩ := bind_some hg
      refine cb_ [0] [0] [] false (w_make_Dice_Of _ _ _ hy_10) ?_
      refine c0_ rfl rfl (.build (r := [.val (.int .i64 5), .val (.int .i64 y_10.1)]) und42 pl42 z42 (by kernel_rfl) rfl) rfl rfl ?_
      refine go_ ?_
      obtain ⟨y_11, hy_11, hg⟩ := bind_some hg
      refine cb_ [0] [0] [] false (w_make_Dice_Next _ _ _ hy_11) ?_
      refine go_ ?_
      refine ch_n fun hU => ?_
      exact ⟨(y_11.2, (api_Finding.mk (W (1 + y.1)) y_2.1 y_3.1 y_4.1 y_5.1 (W (1 + y_6.1)) y_7.1 (api_Use.mk 5 y_10.1) (W (100 + y_11.1)) (⟨#[]⟩ : ByteArray))), hg, sub_ [(0, 0), (1, 1), (2, 2)]⟩
     ·refine awp_cut (ι := Bool) (fun (x57_2 : Bool) => mk [(0, .ptr 0 0), (2, .ptr 1 0), (3, .ptr 2 0), (26, .val (.int .i64 (W (1 + y_6.1)))), (57, .val (.bool x57_2))] [(0, .box [.sl 1 (encL eI y_7.2.L), .val (.int .i64 y_7.2.At)] 50), (1, .box [.val (.int .i64 0), .val (.string (⟨#[]⟩ : ByteArray)), .val (.int .i64 0), .val (.int .i64 0), .val (.int .i64 0), .val (.int .i64 0), .val (.string (⟨#[]⟩ : ByteArray)), .val (.int .i64 0), .val (.int .i64 0), .val (.int .i64 0), .val (.string (⟨#[]⟩ : ByteArray))] 44), (2, .box [.val (.int .i64 (W (1 + y.1))), .val (.string y_2.1), .val (.int .i64 y_3.1), .val (.int .i64 y_4.1), .val (.int .i64 y_5.1), .val (.int .i64 (W (1 + y_6.1))), .val (.string y_7.1), .val (.int .i64 0), .val (.int .i64 0), .val (.int .i64 0), .val (.string (⟨#[]⟩ : ByteArray))] 44)] 3) (fun (x57_2 : Bool) => g_make_Finding.j2 y y_2 y_3 y_4 y_5 y_6 y_7 x57_2 = some r) ?_ ?_
      ·refine awp_seq ?_
       refine awp_region (sys _ _ []) 35 51 hU rfl rfl ?_
       refine go_ ?_
       refine ch_n fun hU => ?_
       refine cg_ rfl hg (fun h16 hg => ?_) fun h16 hg => ?_
       ·refine awp_skip ?_
        repeat first | refine st_ ?_ | refine sn_ ?_
        exact ⟨decide ((W (1 + y_6.1)) = 4), hg, sub_ [(0, 0), (1, 1), (2, 2)]⟩
       ·refine awp_region (sys _ _ []) 51 67 hU rfl rfl ?_
        refine go_ ?_
        refine ch_n fun hU => ?_
        exact ⟨decide ((W (1 + y_6.1)) = 5), hg, sub_ [(0, 0), (1, 1), (2, 2)]⟩
      ·rintro x57_2 hg
       replace hg : g_make_Finding.j2 y y_2 y_3 y_4 y_5 y_6 y_7 x57_2 = some r := hg
       show awp _ _ _ _ (mk _ _ _)
       unfold g_make_Finding.j2 at hg
       refine cg_ rfl hg (fun h18 hg => ?_) fun h18 hg => ?_
       ·refine awp_region (sys _ _ []) 3 43 mk_U rfl rfl ?_
        refine go_ ?_
        obtain ⟨y_12, hy_12, hg⟩ := bind_some hg
        refine cb_ [0] [0] [] false (w_make_Dice_Next _ _ _ hy_12) ?_
        refine go_ ?_
        refine ch_n fun hU => ?_
        exact ⟨(y_12.2, (api_Finding.mk (W (1 + y.1)) y_2.1 y_3.1 y_4.1 y_5.1 (W (1 + y_6.1)) y_7.1 (api_Use.mk 0 0) (W (1 + y_12.1)) (⟨#[]⟩ : ByteArray))), hg, sub_ [(0, 0), (1, 1), (2, 2)]⟩
       ·refine awp_seq ?_
        refine awp_region (sys _ _ []) 3 19 mk_U rfl rfl ?_
        refine go_ ?_
        refine ch_n fun hU => ?_
        refine cg_ rfl hg (fun h21 hg => ?_) fun h21 hg => ?_
        ·refine awp_region (sys _ _ []) 19 51 hU rfl rfl ?_
         refine go_ ?_
         obtain ⟨y_13, hy_13, hg⟩ := bind_some hg
         refine cb_ [0] [0] [] false (w_make_Dice_Next _ _ _ hy_13) ?_
         refine go_ ?_
         refine ch_n fun hU => ?_
         exact ⟨(y_13.2, (api_Finding.mk (W (1 + y.1)) y_2.1 y_3.1 y_4.1 y_5.1 (W (1 + y_6.1)) y_7.1 (api_Use.mk 0 0) y_13.1 (⟨#[]⟩ : ByteArray))), hg, sub_ [(0, 0), (1, 1), (2, 2)]⟩
        ·refine awp_seq ?_
         refine awp_region (sys _ _ []) 19 35 hU rfl rfl ?_
         refine go_ ?_
         refine ch_n fun hU => ?_
         refine cg_ rfl hg (fun h24 hg => ?_) fun h24 hg => ?_
         ·refine awp_region (sys _ _ [43]) 35 75 hU rfl rfl ?_
          refine go_ ?_
          refine ch_z (rd := []) rfl rfl (r_buildFull sl51 z9 (by decide) rfl rfl rfl rfl ck9 (cs := [.str (⟨#[97]⟩ : ByteArray), .str (⟨#[98]⟩ : ByteArray)]) (.cons .str (.cons .str .nil)) rfl (l := ([(⟨#[97]⟩ : ByteArray), (⟨#[98]⟩ : ByteArray)] : List ByteArray)) (f := eS) rfl) rfl rfl rfl ?_
          obtain ⟨y_14, hy_14, hg⟩ := bind_some hg
          refine cb_ [0] [0] [] false (w_make_Dice_Word _ _ _ hy_14) ?_
          refine go_ ?_
          refine ch_n fun hU => ?_
          exact ⟨(y_14.2, (api_Finding.mk (W (1 + y.1)) y_2.1 y_3.1 y_4.1 y_5.1 (W (1 + y_6.1)) y_7.1 (api_Use.mk 0 0) 0 y_14.1)), hg, sub_ [(0, 0), (1, 1), (2, 2)]⟩
         ·refine awp_skip ?_
          repeat first | refine st_ ?_ | refine sn_ ?_
          exact ⟨(y_7.2, (api_Finding.mk (W (1 + y.1)) y_2.1 y_3.1 y_4.1 y_5.1 (W (1 + y_6.1)) y_7.1 (api_Use.mk 0 0) 0 (⟨#[]⟩ : ByteArray))), hg, sub_ [(0, 0), (1, 1), (2, 2)]⟩
 ·rintro ⟨b_3, f_3⟩ hg
  replace hg : g_make_Finding.j3 b_3 f_3 = some r := hg
  show awp _ _ _ _ (mk _ _ _)
  unfold g_make_Finding.j3 at hg
  refine sr_ 3 19 mk_U ?_
  refine go_ ?_
  refine ch_n fun hU => ?_
  refine aw_r ?_
  obtain rfl := Option.some.inj hg
  exact fin_ [(0, 0)] ⟨rfl, rfl⟩
theorem w_make_Findings (d : cipherplanmake_Dice) (most : Int) (r : (List api_Finding) × cipherplanmake_Dice) (hg : g_make_Findings d most = some r) : Fn Tryz.prog 22 1 [.ptr 0 0, .val (.int .i64 most)] [.box [.sl 1 (encL eI d.L), .val (.int .i64 d.At)] 50] (fun d b => d = .sl 11 (encL api_Finding.enc r.1) ∧ b = [.box [.sl 1 (encL eI r.2.L), .val (.int .i64 r.2.At)] 50]) := by
 unfold g_make_Findings at hg
 refine Fn.of Tryz.func22 rfl rfl rfl fun w0 I ρ0 => ?_
 show awp _ ⟨w0, I, ρ0, 1, 1, 28⟩ _ _ _
 refine sr_ 1 9 mk_U ?_
 refine go_ ?_
 refine ch_n fun hU => ?_
 refine sr_ 9 17 hU ?_
 refine go_ ?_
 refine ch_n fun hU => ?_
 refine awp_seq ?_
 refine sr_ 17 57 hU ?_
 refine go_ ?_
 obtain ⟨y, hy, hg⟩ := bind_some hg
 refine cb_ [0] [0] [] false (w_make_Dice_Next _ _ _ hy) ?_
 refine go_ ?_
 refine ch_n fun hU => ?_
 refine awp_block ?_
 refine lp_ (fun ((i_1, d_1, l_1) : Int × cipherplanmake_Dice × List api_Finding) => mk [(0, .ptr 0 0), (5, .row 1), (6, .val (.int .i64 i_1))] [(0, .box [.sl 1 (encL eI d_1.L), .val (.int .i64 d_1.At)] 50), (1, .row 44 11 (encL api_Finding.enc l_1))] 2) hg (sub_ [(0, 0)]) ?_
 rintro ⟨i_1, d_1, l_1⟩ m1 o1 hg hn1
 replace hg : g_make_Findings.l1 i_1 d_1 l_1 = some o1 := hg
 show awp _ _ _ _ (mk _ _ _)
 unfold g_make_Findings.l1 at hg
 refine awp_seq ?_
 refine sr_ 2 18 mk_U ?_
 refine go_ ?_
 refine ch_n fun hU => ?_
 refine cg_ rfl hg (fun h5 hg => ?_) fun h5 hg => ?_
 ·refine awp_skip ?_
  repeat first | refine st_ ?_ | refine sn_ ?_
  refine awp_seq ?_
  refine awp_block ?_
  refine awp_region (sys _ _ []) 18 66 hU rfl rfl ?_
  refine go_ ?_
  obtain ⟨y_2, hy_2, hg⟩ := bind_some hg
  refine cb_ [0] [0] [] false (w_make_Finding _ _ hy_2) ?_
  refine c0_ rfl rfl (r_buildFull sl33 z44 (by decide) rfl rfl rfl rfl ck44 (cs := [.int .i64 y_2.1.Source, .str y_2.1.Host, .int .i64 y_2.1.Machine, .int .i64 y_2.1.Day, .int .i64 y_2.1.Confidence, .int .i64 y_2.1.Kind, .str y_2.1.Subject, .int .i64 y_2.1.Use.Alg, .int .i64 y_2.1.Use.Bits, .int .i64 y_2.1.Number, .str y_2.1.Text]) (.cons .int (.cons .str (.cons .int (.cons .int (.cons .int (.cons .int (.cons .str (.cons .int (.cons .int (.cons .int (.cons .str .nil))))))))))) rfl (l := ([y_2.1] : List api_Finding)) (f := api_Finding.enc) rfl) rfl rfl ?_
  obtain ⟨l, hl, hg⟩ := bind_some hg
  refine ch_s (rd := [1, 42]) rfl rfl (r_append sl33 api_Finding.enc_len .row rfl .row rfl hl rfl) rfl rfl ?_
  refine go_ ?_
  refine ch_n fun hU => ?_
  refine awp_region (sys _ _ []) 66 90 hU rfl rfl ?_
  refine go_ ?_
  refine ch_n fun hU => ?_
  obtain rfl := Option.some.inj hg
  exact ⟨((W (i_1 - 1), y_2.2, l), m1), Nat.lt_succ_self _, hn1, sub_ [(0, 0), (1, 50)]⟩
 ·refine awp_exit ?_
  repeat first | refine st_ ?_ | refine sn_ ?_
  replace hg := leave hg hn1
  refine awp_seq ?_
  refine awp_sub (σ' := mk [(5, .sl 11 (encL api_Finding.enc l_1))] [(0, .box [.sl 1 (encL eI d_1.L), .val (.int .i64 d_1.At)] 50)] 1) (sub_ [(0, 0)]) ?_
  refine awp_region (sys _ _ []) 1 57 mk_U rfl rfl ?_
  refine go_ ?_
  obtain ⟨y_3, hy_3, hg⟩ := bind_some hg
  refine ca_ (w_ref14_Norm _ _ hy_3) ?_
  refine go_ ?_
  refine ch_n fun hU => ?_
  refine sr_ 57 73 hU ?_
  refine go_ ?_
  refine ch_n fun hU => ?_
  refine aw_r ?_
  obtain rfl := Option.some.inj hg
  exact fin_ [(0, 0)] ⟨rfl, rfl⟩
theorem w_move_Norm (l : (List api_Finding)) (r : (List api_Finding)) (hg : g_move_Norm l = some r) : Fn Tryz.prog 21 0 [.sl 11 (encL api_Finding.enc l)] [] (fun d b => d = .sl 11 (encL api_Finding.enc r) ∧ b = []) := by
 unfold g_move_Norm at hg
 refine Fn.of Tryz.func21 rfl rfl rfl fun w0 I ρ0 => ?_
 show awp _ ⟨w0, I, ρ0, 0, 0, 11⟩ _ _ _
 refine sr_ 0 8 mk_U ?_
 refine go_ ?_
 refine ch_n fun hU => ?_
 refine sr_ 8 64 hU ?_
 refine go_ ?_
 obtain ⟨y, hy, hg⟩ := bind_some hg
 refine ca_ (w_ref14_Norm _ _ hy) ?_
 refine go_ ?_
 refine ch_n fun hU => ?_
 refine sr_ 64 80 hU ?_
 refine go_ ?_
 refine ch_n fun hU => ?_
 refine aw_r ?_
 obtain rfl := Option.some.inj hg
 exact fin_ [] ⟨rfl, rfl⟩
theorem w_law38_looks (d : cipherplanmake_Dice) (e : api_Endpoint) (day : Int) (r : (List api_Finding) × cipherplanmake_Dice) (hg : g_law38_looks d e day = some r) : Fn Tryz.prog 8 1 [.ptr 0 0, .agg (api_Endpoint.dv e), .val (.int .i64 day)] [.box [.sl 1 (encL eI d.L), .val (.int .i64 d.At)] 50] (fun d b => d = .sl 11 (encL api_Finding.enc r.1) ∧ b = [.box [.sl 1 (encL eI r.2.L), .val (.int .i64 r.2.At)] 50]) := by
 unfold g_law38_looks at hg
 refine Fn.of Tryz.func8 rfl rfl rfl fun w0 I ρ0 => ?_
 show awp _ ⟨w0, I, ρ0, 1, 1, 58⟩ _ _ _
 refine sr_ 1 17 mk_U ?_
 refine go_ ?_
 refine ch_n fun hU => ?_
 refine awp_seq ?_
 refine awp_draw (sys _ _ []) (by kernel_rfl) [0, 1, 0, 7, 0, 31, 63, 127, 127, 255, 1023] 17 105 hU rfl rfl (by kernel_rfl) ?_
 refine go_ ?_
 obtain ⟨y, hy, hg⟩ := bind_some hg
 refine ca_ (w_move_At _ _ _ hy) ?_
 refine go_ ?_
 obtain ⟨y_2, hy_2, hg⟩ := bind_some hg
 refine ca_ (w_ref14_FromEndpoint _ _ _ hy_2) ?_
 refine go_ ?_
 refine ch_n fun hU => ?_
 refine sr_ 105 113 hU ?_
 refine go_ ?_
 refine ch_n fun hU => ?_
 refine awp_seq ?_
 refine sr_ 113 137 hU ?_
 refine go_ ?_
 refine ch_n fun hU => ?_
 refine awp_block ?_
 refine lp_ (fun ((x23_1, d_1, out_1) : Int × cipherplanmake_Dice × List api_Finding) => mk [(0, .ptr 0 0), (2, .val (.int .i64 day)), (9, .row 1), (21, .sl 11 (encL api_Finding.enc y_2.1)), (22, .val (.int .i64 (y_2.1.length : Int))), (23, .val (.int .i64 x23_1))] [(0, .box [.sl 1 (encL eI d_1.L), .val (.int .i64 d_1.At)] 50), (1, .row 44 11 (encL api_Finding.enc out_1))] 2) hg (sub_ [(0, 0)]) ?_
 rintro ⟨x23_1, d_1, out_1⟩ m1 o1 hg hn1
 replace hg : g_law38_looks.l1 day y_2 x23_1 d_1 out_1 = some o1 := hg
 show awp _ _ _ _ (mk _ _ _)
 unfold g_law38_looks.l1 at hg
 refine sr_ 2 10 mk_U ?_
 refine go_ ?_
 refine ch_n fun hU => ?_
 refine awp_seq ?_
 refine cg_ rfl hg (fun h6 hg => ?_) fun h6 hg => ?_
 ·refine awp_skip ?_
  repeat first | refine st_ ?_ | refine sn_ ?_
  refine awp_cut (ι := cipherplanmake_Dice × List api_Finding) (fun ((d_3, out_3) : cipherplanmake_Dice × List api_Finding) => mk [(0, .ptr 0 0), (2, .val (.int .i64 day)), (9, .row 1), (21, .sl 11 (encL api_Finding.enc y_2.1)), (22, .val (.int .i64 (y_2.1.length : Int))), (23, .val (.int .i64 x23_1))] [(0, .box [.sl 1 (encL eI d_3.L), .val (.int .i64 d_3.At)] 50), (1, .row 44 11 (encL api_Finding.enc out_3))] 2) (fun ((d_3, out_3) : cipherplanmake_Dice × List api_Finding) => g_law38_looks.j3 x23_1 d_3 out_3 = some o1) ?_ ?_
  ·refine awp_block ?_
   refine sr_ 10 42 hU ?_
   obtain ⟨e_2, he_2, hg⟩ := bind_some hg
   refine go_ ?_
   refine c0_ rfl rfl (r_loadEA ty44 (enc_cells api_Finding.enc_len (getI_at he_2) (o := 0) (m := 11) (cs := [.int .i64 e_2.Source, .str e_2.Host, .int .i64 e_2.Machine, .int .i64 e_2.Day, .int .i64 e_2.Confidence, .int .i64 e_2.Kind, .str e_2.Subject, .int .i64 e_2.Use.Alg, .int .i64 e_2.Use.Bits, .int .i64 e_2.Number, .str e_2.Text]) rfl (by decide) rfl) (enc_cells_le api_Finding.enc_len (getI_at he_2) (o := 0) (m := 11) (by decide) rfl)) rfl rfl ?_
   refine go_ ?_
   refine ch_n fun hU => ?_
   refine awp_cut (ι := cipherplanmake_Dice × api_Finding) (fun ((d_2, f_2) : cipherplanmake_Dice × api_Finding) => mk [(0, .ptr 0 0), (2, .val (.int .i64 day)), (9, .row 1), (11, .ptr 2 0), (21, .sl 11 (encL api_Finding.enc y_2.1)), (22, .val (.int .i64 (y_2.1.length : Int))), (23, .val (.int .i64 x23_1))] [(0, .box [.sl 1 (encL eI d_2.L), .val (.int .i64 d_2.At)] 50), (1, .row 44 11 (encL api_Finding.enc out_1)), (2, .box (api_Finding.dv f_2) 44)] 3) (fun ((d_2, f_2) : cipherplanmake_Dice × api_Finding) => g_law38_looks.j2 x23_1 out_1 d_2 f_2 = some o1) ?_ ?_
   ·refine awp_seq ?_
    refine awp_region (sys _ _ []) 42 58 hU rfl rfl ?_
    refine go_ ?_
    obtain ⟨y_3, hy_3, hg⟩ := bind_some hg
    refine cb_ [0] [0] [] false (w_make_Dice_Next _ _ _ hy_3) ?_
    refine ch_n fun hU => ?_
    refine awp_block ?_
    refine sr_ 58 74 hU ?_
    refine go_ ?_
    refine ch_n fun hU => ?_
    refine cg_ rfl hg (fun h10 hg => ?_) fun h10 hg => ?_
    ·refine awp_exit ?_
     repeat first | refine st_ ?_ | refine sn_ ?_
     exact ⟨(y_3.2, out_1), hg, sub_ [(0, 0), (1, 1)]⟩
    ·refine awp_seq ?_
     refine awp_region (sys _ _ []) 74 90 hU rfl rfl ?_
     refine go_ ?_
     refine ch_n fun hU => ?_
     refine cg_ rfl hg (fun h12 hg => ?_) fun h12 hg => ?_
     ·refine awp_draw (sys _ _ [114]) (by kernel_rfl) [0, 1, 0, 0, 12, 31, 63, 127] 90 154 hU rfl rfl (by kernel_rfl) ?_
      refine go_ ?_
      refine ch_z (rd := []) rfl rfl (r_buildFull sl22 z3 (by decide) rfl rfl rfl rfl ck3 (cs := [.int .i64 1, .int .i64 (-1), .int .i64 2]) (.cons .int (.cons .int (.cons .int .nil))) rfl (l := ([1, -1, 2] : List Int)) (f := eI) rfl) rfl rfl rfl ?_
      obtain ⟨y_4, hy_4, hg⟩ := bind_some hg
      refine cb_ [0] [0] [] false (w_make_Dice_Of _ _ _ hy_4) ?_
      refine go_ ?_
      refine ch_n fun hU => ?_
      exact ⟨(y_4.2, (api_Finding.mk e_2.Source e_2.Host e_2.Machine e_2.Day e_2.Confidence e_2.Kind e_2.Subject e_2.Use (W (e_2.Number + y_4.1)) e_2.Text)), hg, sub_ [(0, 0), (1, 1), (2, 26)]⟩
     ·refine awp_seq ?_
      refine awp_region (sys _ _ []) 90 106 hU rfl rfl ?_
      refine go_ ?_
      refine ch_n fun hU => ?_
      refine cg_ rfl hg (fun h15 hg => ?_) fun h15 hg => ?_
      ·refine awp_region (sys _ _ []) 106 122 hU rfl rfl ?_
       refine go_ ?_
       refine ch_n fun hU => ?_
       exact ⟨(y_3.2, (api_Finding.mk e_2.Source e_2.Host e_2.Machine e_2.Day 50 e_2.Kind e_2.Subject e_2.Use e_2.Number e_2.Text)), hg, sub_ [(0, 0), (1, 1), (2, 26)]⟩
      ·refine awp_seq ?_
       refine awp_region (sys _ _ []) 106 122 hU rfl rfl ?_
       refine go_ ?_
       refine ch_n fun hU => ?_
       refine cg_ rfl hg (fun h18 hg => ?_) fun h18 hg => ?_
       ·refine awp_region (sys _ _ []) 122 154 hU rfl rfl ?_
        refine go_ ?_
        refine ch_n fun hU => ?_
        exact ⟨(y_3.2, (api_Finding.mk e_2.Source e_2.Host e_2.Machine (W (day + 1)) e_2.Confidence e_2.Kind e_2.Subject e_2.Use e_2.Number e_2.Text)), hg, sub_ [(0, 0), (1, 1), (2, 26)]⟩
       ·refine awp_skip ?_
        repeat first | refine st_ ?_ | refine sn_ ?_
        exact ⟨(y_3.2, e_2), hg, sub_ [(0, 0), (1, 1), (2, 26)]⟩
   ·rintro ⟨d_2, f_2⟩ hg
    replace hg : g_law38_looks.j2 x23_1 out_1 d_2 f_2 = some o1 := hg
    show awp _ _ _ _ (mk _ _ _)
    unfold g_law38_looks.j2 at hg
    refine awp_region (sys _ _ []) 3 43 mk_U rfl rfl ?_
    refine go_ ?_
    refine c0_ rfl rfl (r_buildFull sl33 z44 (by decide) rfl rfl rfl rfl ck44 (cs := [.int .i64 f_2.Source, .str f_2.Host, .int .i64 f_2.Machine, .int .i64 f_2.Day, .int .i64 f_2.Confidence, .int .i64 f_2.Kind, .str f_2.Subject, .int .i64 f_2.Use.Alg, .int .i64 f_2.Use.Bits, .int .i64 f_2.Number, .str f_2.Text]) (.cons .int (.cons .str (.cons .int (.cons .int (.cons .int (.cons .int (.cons .str (.cons .int (.cons .int (.cons .int (.cons .str .nil))))))))))) rfl (l := ([f_2] : List api_Finding)) (f := api_Finding.enc) rfl) rfl rfl ?_
    obtain ⟨l, hl, hg⟩ := bind_some hg
    refine ch_s (rd := [1, 19]) rfl rfl (r_append sl33 api_Finding.enc_len .row rfl .row rfl hl rfl) rfl rfl ?_
    refine go_ ?_
    refine ch_n fun hU => ?_
    exact ⟨(d_2, l), hg, sub_ [(0, 0), (1, 27)]⟩
  ·rintro ⟨d_3, out_3⟩ hg
   replace hg : g_law38_looks.j3 x23_1 d_3 out_3 = some o1 := hg
   show awp _ _ _ _ (mk _ _ _)
   unfold g_law38_looks.j3 at hg
   refine awp_region (sys _ _ []) 2 18 mk_U rfl rfl ?_
   refine go_ ?_
   refine ch_n fun hU => ?_
   obtain rfl := Option.some.inj hg
   exact ⟨((W (x23_1 + 1), d_3, out_3), m1), Nat.lt_succ_self _, hn1, sub_ [(0, 0), (1, 1)]⟩
 ·refine awp_exit ?_
  repeat first | refine st_ ?_ | refine sn_ ?_
  replace hg := leave hg hn1
  refine awp_seq ?_
  refine awp_region (sys _ _ [34]) 10 58 hU rfl rfl ?_
  refine go_ ?_
  obtain ⟨y_5, hy_5, hg⟩ := bind_some hg
  refine cb_ [0] [0] [] false (w_make_Findings _ _ _ hy_5) ?_
  obtain ⟨l_2, hl_2, hg⟩ := bind_some hg
  refine ch_z (rd := [1]) rfl rfl (r_append sl33 api_Finding.enc_len .row rfl .sl rfl hl_2 rfl) rfl rfl rfl ?_
  obtain ⟨y_6, hy_6, hg⟩ := bind_some hg
  refine ca_ (w_move_Norm _ _ hy_6) ?_
  refine go_ ?_
  refine ch_n fun hU => ?_
  refine aw_r ?_
  obtain rfl := Option.some.inj hg
  exact fin_ [(0, 0)] ⟨rfl, rfl⟩
end Go.Proofs.YtoekocjflclojaaGreat
