/- The program computes the plain functions. -/
import Derived.Test.YtlcfdnjokgbccaaGreatT1
import Derived.Test.YtlcfdnjokgbccaaGreatA1
import Derived.Test.YtlcfdnjokgbccaaGreatA2
import Derived.Test.YtlcfdnjokgbccaaGreatA3
set_option linter.unusedVariables false
set_option linter.unusedSimpArgs false
set_option maxRecDepth 100000
set_option maxHeartbeats 1600000
namespace Go.Proofs.YtlcfdnjokgbccaaGreat
open Go.RowKit
theorem w_certificate_Reader_names (r' : certificate_Reader) (r : (List ByteArray) × certificate_Reader) (hg : g_certificate_Reader_names r' = some r) : Fn Tryz.prog 80 1 [.ptr 0 0] [.box [.sl 4 (encL api_Value.enc r'.l), .val (.bool r'.Failed)] 100] (fun d b => d = .sl 1 (encL eS r.1) ∧ b = [.box [.sl 4 (encL api_Value.enc r.2.l), .val (.bool r.2.Failed)] 100]) := by
 unfold g_certificate_Reader_names at hg
 refine Fn.of Tryz.func80 rfl rfl rfl fun w0 I ρ0 => ?_
 show awp _ ⟨w0, I, ρ0, 1, 1, 37⟩ _ _ _
 refine sr_ 1 9 mk_U ?_
 refine go_ ?_
 refine ch_n fun hU => ?_
 refine sr_ 9 17 hU ?_
 refine go_ ?_
 refine ch_n fun hU => ?_
 refine awp_seq ?_
 refine sr_ 17 49 hU ?_
 refine go_ ?_
 obtain ⟨y, hy, hg⟩ := bind_some hg
 refine cb_ [0] [0] [] false (w_certificate_Reader_List _ _ hy) ?_
 refine go_ ?_
 refine ch_n fun hU => ?_
 refine awp_block ?_
 refine lp_ (fun ((x11_1, r_1, out_1) : Int × Bool × List ByteArray) => mk [(0, .ptr 0 0), (3, .row 1), (9, .sl 4 (encL api_Value.enc y.1)), (10, .val (.int .i64 (y.1.length : Int))), (11, .val (.int .i64 x11_1))] [(0, .box [.sl 4 (encL api_Value.enc y.2.l), .val (.bool r_1)] 100), (1, .row 9 1 (encL eS out_1))] 2) hg (sub_ [(0, 0)]) ?_
 rintro ⟨x11_1, r_1, out_1⟩ m1 o1 hg hn1
 replace hg : g_certificate_Reader_names.l1 y x11_1 r_1 out_1 = some o1 := hg
 show awp _ _ _ _ (mk _ _ _)
 unfold g_certificate_Reader_names.l1 at hg
 refine sr_ 2 10 mk_U ?_
 refine go_ ?_
 refine ch_n fun hU => ?_
 refine awp_seq ?_
 refine cg_ rfl hg (fun h5 hg => ?_) fun h5 hg => ?_
 ·refine awp_skip ?_
  repeat first | refine st_ ?_ | refine sn_ ?_
  refine awp_seq ?_
  refine awp_block ?_
  refine sr_ 10 42 hU ?_
  obtain ⟨e, he, hg⟩ := bind_some hg
  refine go_ ?_
  refine c0_ rfl rfl (r_loadEA ty41 (enc_cells api_Value.enc_len (getI_at he) (o := 0) (m := 4) (cs := [.int .i64 e.Tag, .sl 1 (encL e8 e.Bytes), .bool e.Nested, .sl 4 (encL api_Value.enc e.Elements)]) (by simp only [api_Value.enc_eq]; rfl) (by decide) rfl) (enc_cells_le api_Value.enc_len (getI_at he) (o := 0) (m := 4) (by decide) rfl)) rfl rfl ?_
  refine go_ ?_
  refine ch_n fun hU => ?_
  refine sr_ 42 98 hU ?_
  refine go_ ?_
  obtain ⟨y_2, hy_2, hg⟩ := bind_some hg
  refine ca_ (w_der_AsText _ _ hy_2) ?_
  refine go_ ?_
  refine ch_n fun hU => ?_
  refine awp_cut (ι := Bool) (fun (r_2 : Bool) => mk [(0, .ptr 0 0), (3, .row 1), (6, .val (.string y_2.1)), (9, .sl 4 (encL api_Value.enc y.1)), (10, .val (.int .i64 (y.1.length : Int))), (11, .val (.int .i64 x11_1))] [(0, .box [.sl 4 (encL api_Value.enc y.2.l), .val (.bool r_2)] 100), (1, .row 9 1 (encL eS out_1))] 2) (fun (r_2 : Bool) => g_certificate_Reader_names.j2 x11_1 out_1 y_2 r_2 = some o1) ?_ ?_
  ·refine awp_region (sys _ _ []) 98 194 hU rfl rfl ?_
   refine go_ ?_
   rcases bc_ hg with ⟨h8, hg⟩ | ⟨h8, hg⟩
   ·refine go_ ?_
    refine ch_n fun hU => ?_
    exact ⟨true, hg, sub_ [(0, 0), (1, 1)]⟩
   ·refine go_ ?_
    refine ch_n fun hU => ?_
    exact ⟨!decide (y_2.2 = 0), hg, sub_ [(0, 0), (1, 1)]⟩
  ·rintro r_2 hg
   replace hg : g_certificate_Reader_names.j2 x11_1 out_1 y_2 r_2 = some o1 := hg
   show awp _ _ _ _ (mk _ _ _)
   unfold g_certificate_Reader_names.j2 at hg
   refine awp_region (sys _ _ []) 2 42 mk_U rfl rfl ?_
   refine go_ ?_
   refine c0_ rfl rfl (r_buildFull sl29 z9 (by decide) rfl rfl rfl rfl ck9 (cs := [.str y_2.1]) (.cons .str .nil) rfl (l := ([y_2.1] : List ByteArray)) (f := eS) rfl) rfl rfl ?_
   obtain ⟨l, hl, hg⟩ := bind_some hg
   refine ch_s (rd := [1, 18]) rfl rfl (r_append sl29 eS_len .row rfl .row rfl hl rfl) rfl rfl ?_
   refine go_ ?_
   refine ch_n fun hU => ?_
   refine awp_region (sys _ _ []) 42 58 hU rfl rfl ?_
   refine go_ ?_
   refine ch_n fun hU => ?_
   obtain rfl := Option.some.inj hg
   exact ⟨((W (x11_1 + 1), r_2, l), m1), Nat.lt_succ_self _, hn1, sub_ [(0, 0), (1, 26)]⟩
 ·refine awp_exit ?_
  repeat first | refine st_ ?_ | refine sn_ ?_
  replace hg := leave hg hn1
  refine sr_ 10 26 hU ?_
  refine go_ ?_
  refine ch_n fun hU => ?_
  refine aw_r ?_
  obtain rfl := Option.some.inj hg
  exact fin_ [(0, 0)] ⟨rfl, rfl⟩
theorem w_certificate_Parse_c7 (c0 : certificate_Reader) (c1 : api_Certificate) (r : certificate_Reader × api_Certificate) (hg : g_certificate_Parse_c7 c0 c1 = some r) : Fn Tryz.prog 79 3 [.ptr 0 0, .ptr 2 0] [.box [.ptr 1 0] 91, .box [.sl 4 (encL api_Value.enc c0.l), .val (.bool c0.Failed)] 100, .box (api_Certificate.dv c1) 33] (fun d b => d = .tup [] ∧ b = [.box [.ptr 1 0] 91, .box [.sl 4 (encL api_Value.enc r.1.l), .val (.bool r.1.Failed)] 100, .box (api_Certificate.dv r.2) 33]) := by
 unfold g_certificate_Parse_c7 at hg
 refine Fn.of Tryz.func79 rfl rfl rfl fun w0 I ρ0 => ?_
 show awp _ ⟨w0, I, ρ0, 3, 3, 5⟩ _ _ _
 refine awp_region (sys _ _ []) 3 35 mk_U rfl rfl ?_
 refine go_ ?_
 obtain ⟨y, hy, hg⟩ := bind_some hg
 refine cb_ [1] [1] [] false (w_certificate_Reader_names _ _ hy) ?_
 refine go_ ?_
 refine ch_n fun hU => ?_
 obtain rfl := Option.some.inj hg
 exact fin_ [(0, 0), (1, 1), (2, 2)] ⟨rfl, rfl⟩
theorem w_certificate_Parse_c8 (c0 : certificate_Reader) (c1 : api_Certificate) (r : certificate_Reader × api_Certificate) (hg : g_certificate_Parse_c8 c0 c1 = some r) : Fn Tryz.prog 81 3 [.ptr 0 0, .ptr 2 0] [.box [.ptr 1 0] 91, .box [.sl 4 (encL api_Value.enc c0.l), .val (.bool c0.Failed)] 100, .box (api_Certificate.dv c1) 33] (fun d b => d = .tup [] ∧ b = [.box [.ptr 1 0] 91, .box [.sl 4 (encL api_Value.enc r.1.l), .val (.bool r.1.Failed)] 100, .box (api_Certificate.dv r.2) 33]) := by
 unfold g_certificate_Parse_c8 at hg
 refine Fn.of Tryz.func81 rfl rfl rfl fun w0 I ρ0 => ?_
 show awp _ ⟨w0, I, ρ0, 3, 3, 8⟩ _ _ _
 refine awp_draw (sys _ _ []) (by kernel_rfl) [0, 1, 0, 7, 15, 31, 63] 3 59 mk_U rfl rfl (by kernel_rfl) ?_
 refine go_ ?_
 obtain ⟨y, hy, hg⟩ := bind_some hg
 refine cb_ [1] [1] [] false (w_certificate_Reader_Int _ _ hy) ?_
 refine go_ ?_
 obtain ⟨y_2, hy_2, hg⟩ := bind_some hg
 refine cb_ [1] [1] [] false (w_certificate_Reader_Int _ _ hy_2) ?_
 refine c0_ rfl rfl (.build (r := [.val (.int .i64 y.1), .val (.int .i64 y_2.1)]) und31 pl31 z31 (by kernel_rfl) rfl) rfl rfl ?_
 refine go_ ?_
 refine ch_n fun hU => ?_
 obtain rfl := Option.some.inj hg
 exact fin_ [(0, 0), (1, 1), (2, 2)] ⟨rfl, rfl⟩
theorem w_certificate_Parse (v : api_Value) (r : api_Certificate × Bool) (hg : g_certificate_Parse v = some r) : Fn Tryz.prog 41 0 [.agg (api_Value.dv v)] [] (fun d b => d = .tup [.agg (api_Certificate.dv r.1), .val (.bool r.2)] ∧ b = []) := by
 unfold g_certificate_Parse at hg
 refine Fn.of Tryz.func41 rfl rfl rfl fun w0 I ρ0 => ?_
 show awp _ ⟨w0, I, ρ0, 0, 0, 51⟩ _ _ _
 refine sr_ 0 24 mk_U ?_
 refine go_ ?_
 refine ch_n fun hU => ?_
 refine sr_ 24 32 hU ?_
 refine go_ ?_
 refine ch_n fun hU => ?_
 refine sr_ 32 56 hU ?_
 refine go_ ?_
 obtain ⟨y, hy, hg⟩ := bind_some hg
 refine ch_call (rd := []) (ps := []) (gs := []) false rfl (w_certificate_Read _ _ _ hy) rfl rfl (.cons (.agg (.cons .val (.cons .sl (.cons .val (.cons .sl .nil))))) (.cons .val .nil)) rfl rfl (by intro h; cases h) rfl (by intro h; first | (cases h; done) | exact ⟨_, _, ⟨rfl, rfl⟩, by simp, by simp⟩) ?_
 rintro _ _ ⟨rfl, rfl⟩
 refine go_ ?_
 refine ch_n fun hU => ?_
 refine sr_ 56 136 hU ?_
 refine go_ ?_
 obtain ⟨y_2, hy_2, hg⟩ := bind_some hg
 refine cb_ [40] [40] [] false (w_certificate_Reader_Next _ _ hy_2) ?_
 obtain ⟨y_3, hy_3, hg⟩ := bind_some hg
 refine ch_call (rd := []) (ps := []) (gs := []) false rfl (w_certificate_Read _ _ _ hy_3) rfl rfl (.cons (.agg (.cons .val (.cons .sl (.cons .val (.cons .sl .nil))))) (.cons .val .nil)) rfl rfl (by intro h; cases h) rfl (by intro h; first | (cases h; done) | exact ⟨_, _, ⟨rfl, rfl⟩, by simp, by simp⟩) ?_
 rintro _ _ ⟨rfl, rfl⟩
 refine go_ ?_
 obtain ⟨y_4, hy_4, hg⟩ := bind_some hg
 refine cb_ [40] [40] [] false (w_certificate_Reader_Next _ _ hy_4) ?_
 obtain ⟨y_5, hy_5, hg⟩ := bind_some hg
 refine ch_call (rd := []) (ps := []) (gs := []) false rfl (w_certificate_Read _ _ _ hy_5) rfl rfl (.cons (.agg (.cons .val (.cons .sl (.cons .val (.cons .sl .nil))))) (.cons .val .nil)) rfl rfl (by intro h; cases h) rfl (by intro h; first | (cases h; done) | exact ⟨_, _, ⟨rfl, rfl⟩, by simp, by simp⟩) ?_
 rintro _ _ ⟨rfl, rfl⟩
 refine go_ ?_
 refine ch_n fun hU => ?_
 refine awp_seq ?_
 refine sr_ 136 216 hU ?_
 refine go_ ?_
 refine c0_ rfl rfl (.buildArr (sz := 1) (r := [.clo 69 0 [.ptr 104 0, .ptr 24 0], .clo 71 0 [.ptr 104 0, .ptr 24 0], .clo 73 0 [.ptr 104 0, .ptr 24 0], .clo 75 0 [.ptr 104 0, .ptr 24 0], .clo 76 0 [.ptr 104 0, .ptr 24 0], .clo 77 0 [.ptr 104 0, .ptr 24 0], .clo 79 0 [.ptr 104 0, .ptr 24 0], .clo 81 0 [.ptr 112 0, .ptr 24 0]]) und98 (by kernel_rfl) z98 (by kernel_rfl) rfl) rfl rfl ?_
 refine go_ ?_
 refine ch_n fun hU => ?_
 refine awp_block ?_
 refine awp_rounds 10 ?_
 refine rnd_ ?_
 refine sr_ 216 224 hU ?_
 refine go_ ?_
 refine ch_n fun hU => ?_
 refine awp_seq ?_
 refine awp_cond rfl (fun h => ?_) (fun h => ?_)
 ·refine awp_skip ?_
  repeat first | refine st_ ?_ | refine sn_ ?_
  refine awp_seq ?_
  refine awp_block ?_
  refine sr_ 224 240 hU ?_
  refine c0_ rfl rfl (.indexA (j := 0) und98 ty1 rfl rfl rfl) rfl rfl ?_
  refine go_ ?_
  refine ch_n fun hU => ?_
  refine awp_region (sys _ _ []) 240 256 hU rfl rfl ?_
  refine go_ ?_
  obtain ⟨y_6, hy_6, hg⟩ := bind_some hg
  refine ch_callC (rd := [104, 24, 72]) (ps := [104, 72, 24]) (gs := []) false rfl rfl (w_certificate_Parse_c1 _ _ _ hy_6) rfl rfl (.cons (.ptr rfl) (.cons (.ptr rfl) .nil)) ⟨_, _, _, rfl, .head _, ⟨_, rfl, (by repeat' (first | exact AgL.nil | apply AgL.cons | exact Ag.val | exact Ag.sl | exact Ag.nils | exact Ag.ptr rfl))⟩, ⟨_, _, _, rfl, .tail _ (.tail _ (.head _)), ⟨_, rfl, (by repeat' (first | exact AgL.nil | apply AgL.cons | exact Ag.val | exact Ag.sl | exact Ag.nils | exact Ag.ptr rfl))⟩, ⟨_, _, _, rfl, .tail _ (.head _), ⟨_, rfl, (by repeat' (first | exact AgL.nil | apply AgL.cons | exact Ag.val | exact Ag.sl | exact Ag.nils | exact Ag.ptr rfl))⟩, rfl⟩⟩⟩ rfl (by intro h; cases h) rfl (by intro h; first | (cases h; done) | exact ⟨_, _, ⟨rfl, rfl⟩, by simp, by simp⟩) ?_
  rintro _ _ ⟨rfl, rfl⟩
  refine ch_n fun hU => ?_
  refine awp_region (sys _ _ []) 256 272 hU rfl rfl ?_
  refine c0_ rfl rfl (r_addL (z := 1) (by decide)) rfl rfl ?_
  refine go_ ?_
  refine ch_n fun hU => ?_
  refine rnd_ ?_
  refine sr_ 272 280 hU ?_
  refine go_ ?_
  refine ch_n fun hU => ?_
  refine awp_seq ?_
  refine awp_cond rfl (fun h => ?_) (fun h => ?_)
  ·refine awp_skip ?_
   repeat first | refine st_ ?_ | refine sn_ ?_
   refine awp_seq ?_
   refine awp_block ?_
   refine sr_ 280 296 hU ?_
   refine c0_ rfl rfl (.indexA (j := 1) und98 ty1 rfl rfl rfl) rfl rfl ?_
   refine go_ ?_
   refine ch_n fun hU => ?_
   refine awp_region (sys _ _ []) 296 312 hU rfl rfl ?_
   refine go_ ?_
   obtain ⟨y_7, hy_7, hg⟩ := bind_some hg
   refine ch_callC (rd := [104, 24, 72]) (ps := [104, 72, 24]) (gs := []) false rfl rfl (w_certificate_Parse_c2 _ _ _ hy_7) rfl rfl (.cons (.ptr rfl) (.cons (.ptr rfl) .nil)) ⟨_, _, _, rfl, .head _, ⟨_, rfl, (by repeat' (first | exact AgL.nil | apply AgL.cons | exact Ag.val | exact Ag.sl | exact Ag.nils | exact Ag.ptr rfl))⟩, ⟨_, _, _, rfl, .tail _ (.tail _ (.head _)), ⟨_, rfl, (by repeat' (first | exact AgL.nil | apply AgL.cons | exact Ag.val | exact Ag.sl | exact Ag.nils | exact Ag.ptr rfl))⟩, ⟨_, _, _, rfl, .tail _ (.head _), ⟨_, rfl, (by repeat' (first | exact AgL.nil | apply AgL.cons | exact Ag.val | exact Ag.sl | exact Ag.nils | exact Ag.ptr rfl))⟩, rfl⟩⟩⟩ rfl (by intro h; cases h) rfl (by intro h; first | (cases h; done) | exact ⟨_, _, ⟨rfl, rfl⟩, by simp, by simp⟩) ?_
   rintro _ _ ⟨rfl, rfl⟩
   refine ch_n fun hU => ?_
   refine awp_region (sys _ _ []) 312 328 hU rfl rfl ?_
   refine c0_ rfl rfl (r_addL (z := 2) (by decide)) rfl rfl ?_
   refine go_ ?_
   refine ch_n fun hU => ?_
   refine rnd_ ?_
   refine sr_ 328 336 hU ?_
   refine go_ ?_
   refine ch_n fun hU => ?_
   refine awp_seq ?_
   refine awp_cond rfl (fun h => ?_) (fun h => ?_)
   ·refine awp_skip ?_
    repeat first | refine st_ ?_ | refine sn_ ?_
    refine awp_seq ?_
    refine awp_block ?_
    refine sr_ 336 352 hU ?_
    refine c0_ rfl rfl (.indexA (j := 2) und98 ty1 rfl rfl rfl) rfl rfl ?_
    refine go_ ?_
    refine ch_n fun hU => ?_
    refine awp_region (sys _ _ []) 352 368 hU rfl rfl ?_
    refine go_ ?_
    obtain ⟨y_8, hy_8, hg⟩ := bind_some hg
    refine ch_callC (rd := [104, 24, 72]) (ps := [104, 72, 24]) (gs := []) false rfl rfl (w_certificate_Parse_c3 _ _ _ hy_8) rfl rfl (.cons (.ptr rfl) (.cons (.ptr rfl) .nil)) ⟨_, _, _, rfl, .head _, ⟨_, rfl, (by repeat' (first | exact AgL.nil | apply AgL.cons | exact Ag.val | exact Ag.sl | exact Ag.nils | exact Ag.ptr rfl))⟩, ⟨_, _, _, rfl, .tail _ (.tail _ (.head _)), ⟨_, rfl, (by repeat' (first | exact AgL.nil | apply AgL.cons | exact Ag.val | exact Ag.sl | exact Ag.nils | exact Ag.ptr rfl))⟩, ⟨_, _, _, rfl, .tail _ (.head _), ⟨_, rfl, (by repeat' (first | exact AgL.nil | apply AgL.cons | exact Ag.val | exact Ag.sl | exact Ag.nils | exact Ag.ptr rfl))⟩, rfl⟩⟩⟩ rfl (by intro h; cases h) rfl (by intro h; first | (cases h; done) | exact ⟨_, _, ⟨rfl, rfl⟩, by simp, by simp⟩) ?_
    rintro _ _ ⟨rfl, rfl⟩
    refine ch_n fun hU => ?_
    refine awp_region (sys _ _ []) 368 384 hU rfl rfl ?_
    refine c0_ rfl rfl (r_addL (z := 3) (by decide)) rfl rfl ?_
    refine go_ ?_
    refine ch_n fun hU => ?_
    refine rnd_ ?_
    refine sr_ 384 392 hU ?_
    refine go_ ?_
    refine ch_n fun hU => ?_
    refine awp_seq ?_
    refine awp_cond rfl (fun h => ?_) (fun h => ?_)
    ·refine awp_skip ?_
     repeat first | refine st_ ?_ | refine sn_ ?_
     refine awp_seq ?_
     refine awp_block ?_
     refine sr_ 392 408 hU ?_
     refine c0_ rfl rfl (.indexA (j := 3) und98 ty1 rfl rfl rfl) rfl rfl ?_
     refine go_ ?_
     refine ch_n fun hU => ?_
     refine awp_region (sys _ _ []) 408 424 hU rfl rfl ?_
     refine go_ ?_
     obtain ⟨y_9, hy_9, hg⟩ := bind_some hg
     refine ch_callC (rd := [104, 24, 72]) (ps := [104, 72, 24]) (gs := []) false rfl rfl (w_certificate_Parse_c4 _ _ _ hy_9) rfl rfl (.cons (.ptr rfl) (.cons (.ptr rfl) .nil)) ⟨_, _, _, rfl, .head _, ⟨_, rfl, (by repeat' (first | exact AgL.nil | apply AgL.cons | exact Ag.val | exact Ag.sl | exact Ag.nils | exact Ag.ptr rfl))⟩, ⟨_, _, _, rfl, .tail _ (.tail _ (.head _)), ⟨_, rfl, (by repeat' (first | exact AgL.nil | apply AgL.cons | exact Ag.val | exact Ag.sl | exact Ag.nils | exact Ag.ptr rfl))⟩, ⟨_, _, _, rfl, .tail _ (.head _), ⟨_, rfl, (by repeat' (first | exact AgL.nil | apply AgL.cons | exact Ag.val | exact Ag.sl | exact Ag.nils | exact Ag.ptr rfl))⟩, rfl⟩⟩⟩ rfl (by intro h; cases h) rfl (by intro h; first | (cases h; done) | exact ⟨_, _, ⟨rfl, rfl⟩, by simp, by simp⟩) ?_
     rintro _ _ ⟨rfl, rfl⟩
     refine ch_n fun hU => ?_
     refine awp_region (sys _ _ []) 424 440 hU rfl rfl ?_
     refine c0_ rfl rfl (r_addL (z := 4) (by decide)) rfl rfl ?_
     refine go_ ?_
     refine ch_n fun hU => ?_
     refine rnd_ ?_
     refine sr_ 440 448 hU ?_
     refine go_ ?_
     refine ch_n fun hU => ?_
     refine awp_seq ?_
     refine awp_cond rfl (fun h => ?_) (fun h => ?_)
     ·refine awp_skip ?_
      repeat first | refine st_ ?_ | refine sn_ ?_
      refine awp_seq ?_
      refine awp_block ?_
      refine sr_ 448 464 hU ?_
      refine c0_ rfl rfl (.indexA (j := 4) und98 ty1 rfl rfl rfl) rfl rfl ?_
      refine go_ ?_
      refine ch_n fun hU => ?_
      refine awp_region (sys _ _ []) 464 480 hU rfl rfl ?_
      refine go_ ?_
      obtain ⟨y_10, hy_10, hg⟩ := bind_some hg
      refine ch_callC (rd := [104, 24, 72]) (ps := [104, 72, 24]) (gs := []) false rfl rfl (w_certificate_Parse_c5 _ _ _ hy_10) rfl rfl (.cons (.ptr rfl) (.cons (.ptr rfl) .nil)) ⟨_, _, _, rfl, .head _, ⟨_, rfl, (by repeat' (first | exact AgL.nil | apply AgL.cons | exact Ag.val | exact Ag.sl | exact Ag.nils | exact Ag.ptr rfl))⟩, ⟨_, _, _, rfl, .tail _ (.tail _ (.head _)), ⟨_, rfl, (by repeat' (first | exact AgL.nil | apply AgL.cons | exact Ag.val | exact Ag.sl | exact Ag.nils | exact Ag.ptr rfl))⟩, ⟨_, _, _, rfl, .tail _ (.head _), ⟨_, rfl, (by repeat' (first | exact AgL.nil | apply AgL.cons | exact Ag.val | exact Ag.sl | exact Ag.nils | exact Ag.ptr rfl))⟩, rfl⟩⟩⟩ rfl (by intro h; cases h) rfl (by intro h; first | (cases h; done) | exact ⟨_, _, ⟨rfl, rfl⟩, by simp, by simp⟩) ?_
      rintro _ _ ⟨rfl, rfl⟩
      refine ch_n fun hU => ?_
      refine awp_region (sys _ _ []) 480 496 hU rfl rfl ?_
      refine c0_ rfl rfl (r_addL (z := 5) (by decide)) rfl rfl ?_
      refine go_ ?_
      refine ch_n fun hU => ?_
      refine rnd_ ?_
      refine sr_ 496 504 hU ?_
      refine go_ ?_
      refine ch_n fun hU => ?_
      refine awp_seq ?_
      refine awp_cond rfl (fun h => ?_) (fun h => ?_)
      ·refine awp_skip ?_
       repeat first | refine st_ ?_ | refine sn_ ?_
       refine awp_seq ?_
       refine awp_block ?_
       refine sr_ 504 520 hU ?_
       refine c0_ rfl rfl (.indexA (j := 5) und98 ty1 rfl rfl rfl) rfl rfl ?_
       refine go_ ?_
       refine ch_n fun hU => ?_
       refine awp_region (sys _ _ []) 520 536 hU rfl rfl ?_
       refine go_ ?_
       obtain ⟨y_11, hy_11, hg⟩ := bind_some hg
       refine ch_callC (rd := [104, 24, 72]) (ps := [104, 72, 24]) (gs := []) false rfl rfl (w_certificate_Parse_c6 _ _ _ hy_11) rfl rfl (.cons (.ptr rfl) (.cons (.ptr rfl) .nil)) ⟨_, _, _, rfl, .head _, ⟨_, rfl, (by repeat' (first | exact AgL.nil | apply AgL.cons | exact Ag.val | exact Ag.sl | exact Ag.nils | exact Ag.ptr rfl))⟩, ⟨_, _, _, rfl, .tail _ (.tail _ (.head _)), ⟨_, rfl, (by repeat' (first | exact AgL.nil | apply AgL.cons | exact Ag.val | exact Ag.sl | exact Ag.nils | exact Ag.ptr rfl))⟩, ⟨_, _, _, rfl, .tail _ (.head _), ⟨_, rfl, (by repeat' (first | exact AgL.nil | apply AgL.cons | exact Ag.val | exact Ag.sl | exact Ag.nils | exact Ag.ptr rfl))⟩, rfl⟩⟩⟩ rfl (by intro h; cases h) rfl (by intro h; first | (cases h; done) | exact ⟨_, _, ⟨rfl, rfl⟩, by simp, by simp⟩) ?_
       rintro _ _ ⟨rfl, rfl⟩
       refine ch_n fun hU => ?_
       refine awp_region (sys _ _ []) 536 552 hU rfl rfl ?_
       refine c0_ rfl rfl (r_addL (z := 6) (by decide)) rfl rfl ?_
       refine go_ ?_
       refine ch_n fun hU => ?_
       refine rnd_ ?_
       refine sr_ 552 560 hU ?_
       refine go_ ?_
       refine ch_n fun hU => ?_
       refine awp_seq ?_
       refine awp_cond rfl (fun h => ?_) (fun h => ?_)
       ·refine awp_skip ?_
        repeat first | refine st_ ?_ | refine sn_ ?_
        refine awp_seq ?_
        refine awp_block ?_
        refine sr_ 560 576 hU ?_
        refine c0_ rfl rfl (.indexA (j := 6) und98 ty1 rfl rfl rfl) rfl rfl ?_
        refine go_ ?_
        refine ch_n fun hU => ?_
        refine awp_region (sys _ _ []) 576 592 hU rfl rfl ?_
        refine go_ ?_
        obtain ⟨y_12, hy_12, hg⟩ := bind_some hg
        refine ch_callC (rd := [104, 24, 72]) (ps := [104, 72, 24]) (gs := []) false rfl rfl (w_certificate_Parse_c7 _ _ _ hy_12) rfl rfl (.cons (.ptr rfl) (.cons (.ptr rfl) .nil)) ⟨_, _, _, rfl, .head _, ⟨_, rfl, (by repeat' (first | exact AgL.nil | apply AgL.cons | exact Ag.val | exact Ag.sl | exact Ag.nils | exact Ag.ptr rfl))⟩, ⟨_, _, _, rfl, .tail _ (.tail _ (.head _)), ⟨_, rfl, (by repeat' (first | exact AgL.nil | apply AgL.cons | exact Ag.val | exact Ag.sl | exact Ag.nils | exact Ag.ptr rfl))⟩, ⟨_, _, _, rfl, .tail _ (.head _), ⟨_, rfl, (by repeat' (first | exact AgL.nil | apply AgL.cons | exact Ag.val | exact Ag.sl | exact Ag.nils | exact Ag.ptr rfl))⟩, rfl⟩⟩⟩ rfl (by intro h; cases h) rfl (by intro h; first | (cases h; done) | exact ⟨_, _, ⟨rfl, rfl⟩, by simp, by simp⟩) ?_
        rintro _ _ ⟨rfl, rfl⟩
        refine ch_n fun hU => ?_
        refine awp_region (sys _ _ []) 592 608 hU rfl rfl ?_
        refine c0_ rfl rfl (r_addL (z := 7) (by decide)) rfl rfl ?_
        refine go_ ?_
        refine ch_n fun hU => ?_
        refine rnd_ ?_
        refine sr_ 608 616 hU ?_
        refine go_ ?_
        refine ch_n fun hU => ?_
        refine awp_seq ?_
        refine awp_cond rfl (fun h => ?_) (fun h => ?_)
        ·refine awp_skip ?_
         repeat first | refine st_ ?_ | refine sn_ ?_
         refine awp_seq ?_
         refine awp_block ?_
         refine sr_ 616 632 hU ?_
         refine c0_ rfl rfl (.indexA (j := 7) und98 ty1 rfl rfl rfl) rfl rfl ?_
         refine go_ ?_
         refine ch_n fun hU => ?_
         refine awp_region (sys _ _ []) 632 648 hU rfl rfl ?_
         refine go_ ?_
         obtain ⟨y_13, hy_13, hg⟩ := bind_some hg
         refine ch_callC (rd := [112, 24, 96]) (ps := [112, 96, 24]) (gs := []) false rfl rfl (w_certificate_Parse_c8 _ _ _ hy_13) rfl rfl (.cons (.ptr rfl) (.cons (.ptr rfl) .nil)) ⟨_, _, _, rfl, .head _, ⟨_, rfl, (by repeat' (first | exact AgL.nil | apply AgL.cons | exact Ag.val | exact Ag.sl | exact Ag.nils | exact Ag.ptr rfl))⟩, ⟨_, _, _, rfl, .tail _ (.tail _ (.head _)), ⟨_, rfl, (by repeat' (first | exact AgL.nil | apply AgL.cons | exact Ag.val | exact Ag.sl | exact Ag.nils | exact Ag.ptr rfl))⟩, ⟨_, _, _, rfl, .tail _ (.head _), ⟨_, rfl, (by repeat' (first | exact AgL.nil | apply AgL.cons | exact Ag.val | exact Ag.sl | exact Ag.nils | exact Ag.ptr rfl))⟩, rfl⟩⟩⟩ rfl (by intro h; cases h) rfl (by intro h; first | (cases h; done) | exact ⟨_, _, ⟨rfl, rfl⟩, by simp, by simp⟩) ?_
         rintro _ _ ⟨rfl, rfl⟩
         refine ch_n fun hU => ?_
         refine awp_region (sys _ _ []) 648 664 hU rfl rfl ?_
         refine c0_ rfl rfl (r_addL (z := 8) (by decide)) rfl rfl ?_
         refine go_ ?_
         refine ch_n fun hU => ?_
         refine rnd_ ?_
         refine sr_ 664 672 hU ?_
         refine go_ ?_
         refine ch_n fun hU => ?_
         refine awp_seq ?_
         refine awp_cond rfl (fun h => ?_) (fun h => ?_)
         ·exact absurd h (by decide)
         ·refine awp_exit ?_
          repeat first | refine st_ ?_ | refine sn_ ?_
          refine awp_seq ?_
          refine awp_cut (ι := Bool) (fun (x48_1 : Bool) => mk [(2, .ptr 0 0), (4, .ptr 1 0), (48, .val (.bool x48_1))] [(0, .box [.val (.int .i64 0), .val (.string (⟨#[]⟩ : ByteArray)), .val (.string (⟨#[]⟩ : ByteArray)), .val (.int .i64 0), .val (.int .i64 0), .val (.int .i64 0), .val (.int .i64 0), .val (.int .i64 0), .val (.int .i64 0), .val (.int .i64 0), .val (.bool false), .val (.int .i64 0), .val (.slice none 0 0), .val (.int .i64 0), .val (.int .i64 0)] 33), (1, .box (api_Certificate.dv y_13.2) 33)] 2) (fun (x48_1 : Bool) => g_certificate_Parse.j1 y_13 x48_1 = some r) ?_ ?_
          ·refine awp_region (sys _ _ []) 672 800 hU rfl rfl ?_
           refine go_ ?_
           rcases bc_ hg with ⟨h39, hg⟩ | ⟨h39, hg⟩
           ·refine go_ ?_
            refine ch_n fun hU => ?_
            exact ⟨true, hg, sub_ [(0, 8), (1, 24)]⟩
           ·refine go_ ?_
            rcases bc_ hg with ⟨h41, hg⟩ | ⟨h41, hg⟩
            ·refine go_ ?_
             refine ch_n fun hU => ?_
             exact ⟨true, hg, sub_ [(0, 8), (1, 24)]⟩
            ·refine go_ ?_
             refine ch_n fun hU => ?_
             exact ⟨y_13.1.Failed, hg, sub_ [(0, 8), (1, 24)]⟩
          ·rintro x48_1 hg
           replace hg : g_certificate_Parse.j1 y_13 x48_1 = some r := hg
           show awp _ _ _ _ (mk _ _ _)
           unfold g_certificate_Parse.j1 at hg
           refine cg_ rfl hg (fun h44 hg => ?_) fun h44 hg => ?_
           ·refine awp_seq ?_
            refine awp_region (sys _ _ []) 2 26 mk_U rfl rfl ?_
            refine c0_ rfl rfl (.build (r := [.val (.int .i64 0), .val (.string (⟨#[]⟩ : ByteArray)), .val (.string (⟨#[]⟩ : ByteArray)), .val (.int .i64 0), .val (.int .i64 0), .val (.int .i64 0), .val (.int .i64 0), .val (.int .i64 0), .val (.int .i64 0), .val (.int .i64 0), .val (.bool false), .val (.int .i64 0), .val (.slice none 0 0), .val (.int .i64 0), .val (.int .i64 0)]) und33 pl33 z33 (by kernel_rfl) rfl) rfl rfl ?_
            refine go_ ?_
            refine ch_n fun hU => ?_
            refine aw_r ?_
            obtain rfl := Option.some.inj hg
            exact fin_ [] ⟨rfl, rfl⟩
           ·refine awp_skip ?_
            repeat first | refine st_ ?_ | refine sn_ ?_
            refine sr_ 2 26 mk_U ?_
            refine go_ ?_
            refine ch_n fun hU => ?_
            refine aw_r ?_
            obtain rfl := Option.some.inj hg
            exact fin_ [] ⟨rfl, rfl⟩
        ·exact absurd h (by decide)
       ·exact absurd h (by decide)
      ·exact absurd h (by decide)
     ·exact absurd h (by decide)
    ·exact absurd h (by decide)
   ·exact absurd h (by decide)
  ·exact absurd h (by decide)
 ·exact absurd h (by decide)
theorem w_certificate_Decode (b : (List UInt8)) (r : api_Certificate × Int) (hg : g_certificate_Decode b = some r) : Fn Tryz.prog 15 0 [.sl 1 (encL e8 b)] [] (fun d b => d = .tup [.agg (api_Certificate.dv r.1), .val (.int .i64 r.2)] ∧ b = []) := by
 unfold g_certificate_Decode at hg
 refine Fn.of Tryz.func15 rfl rfl rfl fun w0 I ρ0 => ?_
 show awp _ ⟨w0, I, ρ0, 0, 0, 32⟩ _ _ _
 refine sr_ 0 16 mk_U ?_
 refine go_ ?_
 refine ch_n fun hU => ?_
 refine sr_ 16 80 hU ?_
 refine go_ ?_
 obtain ⟨y, hy, hg⟩ := bind_some hg
 refine ca_ (w_der_Decode _ _ hy) ?_
 refine go_ ?_
 refine ch_n fun hU => ?_
 refine awp_seq ?_
 refine sr_ 80 96 hU ?_
 refine go_ ?_
 refine ch_n fun hU => ?_
 refine cg_ rfl hg (fun h4 hg => ?_) fun h4 hg => ?_
 ·refine awp_seq ?_
  refine awp_region (sys _ _ []) 96 128 hU rfl rfl ?_
  refine c0_ rfl rfl (.build (r := [.val (.int .i64 0), .val (.string (⟨#[]⟩ : ByteArray)), .val (.string (⟨#[]⟩ : ByteArray)), .val (.int .i64 0), .val (.int .i64 0), .val (.int .i64 0), .val (.int .i64 0), .val (.int .i64 0), .val (.int .i64 0), .val (.int .i64 0), .val (.bool false), .val (.int .i64 0), .val (.slice none 0 0), .val (.int .i64 0), .val (.int .i64 0)]) und33 pl33 z33 (by kernel_rfl) rfl) rfl rfl ?_
  refine go_ ?_
  refine ch_n fun hU => ?_
  refine aw_r ?_
  obtain rfl := Option.some.inj hg
  exact fin_ [] ⟨rfl, rfl⟩
 ·refine awp_skip ?_
  repeat first | refine st_ ?_ | refine sn_ ?_
  refine sr_ 96 160 hU ?_
  refine go_ ?_
  obtain ⟨y_2, hy_2, hg⟩ := bind_some hg
  refine ca_ (w_certificate_Parse _ _ hy_2) ?_
  refine go_ ?_
  refine ch_n fun hU => ?_
  refine awp_seq ?_
  refine awp_block ?_
  refine sr_ 160 184 hU ?_
  refine go_ ?_
  refine ch_n fun hU => ?_
  refine cg_ rfl hg (fun h8 hg => ?_) fun h8 hg => ?_
  ·refine awp_seq ?_
   refine awp_region (sys _ _ []) 184 208 hU rfl rfl ?_
   refine c0_ rfl rfl (.build (r := [.val (.int .i64 0), .val (.string (⟨#[]⟩ : ByteArray)), .val (.string (⟨#[]⟩ : ByteArray)), .val (.int .i64 0), .val (.int .i64 0), .val (.int .i64 0), .val (.int .i64 0), .val (.int .i64 0), .val (.int .i64 0), .val (.int .i64 0), .val (.bool false), .val (.int .i64 0), .val (.slice none 0 0), .val (.int .i64 0), .val (.int .i64 0)]) und33 pl33 z33 (by kernel_rfl) rfl) rfl rfl ?_
   refine go_ ?_
   refine ch_n fun hU => ?_
   refine aw_r ?_
   obtain rfl := Option.some.inj hg
   exact fin_ [] ⟨rfl, rfl⟩
  ·refine awp_seq ?_
   refine awp_region (sys _ _ []) 184 216 hU rfl rfl ?_
   refine go_ ?_
   obtain ⟨y_3, hy_3, hg⟩ := bind_some hg
   refine ca_ (w_certificate_valid _ _ hy_3) ?_
   refine go_ ?_
   refine ch_n fun hU => ?_
   refine cg_ rfl hg (fun h11 hg => ?_) fun h11 hg => ?_
   ·refine awp_seq ?_
    refine awp_region (sys _ _ []) 216 240 hU rfl rfl ?_
    refine c0_ rfl rfl (.build (r := [.val (.int .i64 0), .val (.string (⟨#[]⟩ : ByteArray)), .val (.string (⟨#[]⟩ : ByteArray)), .val (.int .i64 0), .val (.int .i64 0), .val (.int .i64 0), .val (.int .i64 0), .val (.int .i64 0), .val (.int .i64 0), .val (.int .i64 0), .val (.bool false), .val (.int .i64 0), .val (.slice none 0 0), .val (.int .i64 0), .val (.int .i64 0)]) und33 pl33 z33 (by kernel_rfl) rfl) rfl rfl ?_
    refine go_ ?_
    refine ch_n fun hU => ?_
    refine aw_r ?_
    obtain rfl := Option.some.inj hg
    exact fin_ [] ⟨rfl, rfl⟩
   ·refine awp_skip ?_
    repeat first | refine st_ ?_ | refine sn_ ?_
    refine sr_ 216 240 hU ?_
    refine go_ ?_
    refine ch_n fun hU => ?_
    refine aw_r ?_
    obtain rfl := Option.some.inj hg
    exact fin_ [] ⟨rfl, rfl⟩
theorem w_certificate_Sealed (c : api_Certificate) (key : Int) (r : Bool) (hg : g_certificate_Sealed c key = some r) : Fn Tryz.prog 31 0 [.agg (api_Certificate.dv c), .val (.int .i64 key)] [] (fun d b => d = .val (.bool r) ∧ b = []) := by
 unfold g_certificate_Sealed at hg
 refine Fn.of Tryz.func31 rfl rfl rfl fun w0 I ρ0 => ?_
 show awp _ ⟨w0, I, ρ0, 0, 0, 23⟩ _ _ _
 refine sr_ 0 16 mk_U ?_
 refine go_ ?_
 refine ch_n fun hU => ?_
 refine sr_ 16 72 hU ?_
 refine go_ ?_
 obtain ⟨y, hy, hg⟩ := bind_some hg
 refine ca_ (w_certificate_Bytes _ _ hy) ?_
 refine go_ ?_
 refine ch_n fun hU => ?_
 refine awp_seq ?_
 refine awp_draw (sys _ _ []) (by kernel_rfl) [0, 1, 3, 7, 15, 7, 7, 71, 231, 511, 1023, 2047] 72 168 hU rfl rfl (by kernel_rfl) ?_
 refine go_ ?_
 rcases bc_ hg with ⟨h3, hg⟩ | ⟨h3, hg⟩
 ·refine go_ ?_
  obtain ⟨y_2, hy_2, hg⟩ := bind_some hg
  refine ca_ (w_certificate_Sum _ _ hy_2) ?_
  refine c0_ (gdv_t rfl rfl h3) rfl (.build (r := [.val (.int .i64 key), .val (.int .i64 y_2)]) und31 pl31 z31 (by kernel_rfl) rfl) rfl rfl ?_
  refine c0_ (gdv_t rfl rfl h3) rfl (steq31_eql c.Seal (api_Seal.mk key y_2)) rfl rfl ?_
  refine go_ ?_
  refine ch_n fun hU => ?_
  refine aw_r ?_
  obtain rfl := Option.some.inj hg
  exact fin_ [] ⟨rfl, rfl⟩
 ·refine go_ ?_
  refine ch_n fun hU => ?_
  refine aw_r ?_
  obtain rfl := Option.some.inj hg
  exact fin_ [] ⟨rfl, rfl⟩
theorem w_slices_Equal_string (s1 : (List ByteArray)) (s2 : (List ByteArray)) (r : Bool) (hg : g_slices_Equal_string s1 s2 = some r) : Fn Tryz.prog 51 0 [.sl 1 (encL eS s1), .sl 1 (encL eS s2)] [] (fun d b => d = .val (.bool r) ∧ b = []) := by
 unfold g_slices_Equal_string at hg
 refine Fn.of Tryz.func51 rfl rfl rfl fun w0 I ρ0 => ?_
 show awp _ ⟨w0, I, ρ0, 0, 0, 26⟩ _ _ _
 refine sr_ 0 8 mk_U ?_
 refine go_ ?_
 refine ch_n fun hU => ?_
 refine awp_seq ?_
 refine sr_ 8 48 hU ?_
 refine go_ ?_
 refine ch_n fun hU => ?_
 refine cg_ rfl hg (fun h3 hg => ?_) fun h3 hg => ?_
 ·refine awp_seq ?_
  refine awp_region (sys _ _ []) 48 56 hU rfl rfl ?_
  refine go_ ?_
  refine ch_n fun hU => ?_
  refine aw_r ?_
  obtain rfl := Option.some.inj hg
  exact fin_ [] ⟨rfl, rfl⟩
 ·refine awp_skip ?_
  repeat first | refine st_ ?_ | refine sn_ ?_
  refine awp_seq ?_
  refine sr_ 48 72 hU ?_
  refine go_ ?_
  refine ch_n fun hU => ?_
  refine awp_block ?_
  refine lp_ (fun (x13_1 : Int) => mk [(0, .sl 1 (encL eS s1)), (1, .sl 1 (encL eS s2)), (12, .val (.int .i64 (s1.length : Int))), (13, .val (.int .i64 x13_1))] [] 0) hg (sub_ []) ?_
  rintro x13_1 m1 o1 hg hn1
  replace hg : g_slices_Equal_string.l1 s1 s2 x13_1 = some o1 := hg
  show awp _ _ _ _ (mk _ _ _)
  unfold g_slices_Equal_string.l1 at hg
  refine sr_ 0 8 mk_U ?_
  refine go_ ?_
  refine ch_n fun hU => ?_
  refine awp_seq ?_
  refine cg_ rfl hg (fun h7 hg => ?_) fun h7 hg => ?_
  ·refine awp_skip ?_
   repeat first | refine st_ ?_ | refine sn_ ?_
   refine awp_seq ?_
   refine awp_block ?_
   refine sr_ 8 24 hU ?_
   refine go_ ?_
   refine ch_n fun hU => ?_
   refine awp_seq ?_
   refine awp_draw (sys _ _ []) (by kernel_rfl) [0, 0, 3, 7, 0, 0, 48, 112, 255] 24 96 hU rfl rfl (by kernel_rfl) ?_
   refine go_ ?_
   obtain ⟨e, he, hg⟩ := bind_some hg
   refine go_ ?_
   refine c0_ rfl rfl (r_loadE1 ty9 (enc_cell eS_len (getI_at he) (o := 0) (c := .str e) rfl rfl)) rfl rfl ?_
   refine go_ ?_
   obtain ⟨e_2, he_2, hg⟩ := bind_some hg
   refine go_ ?_
   refine c0_ rfl rfl (r_loadE1 ty9 (enc_cell eS_len (getI_at he_2) (o := 0) (c := .str e_2) rfl rfl)) rfl rfl ?_
   refine go_ ?_
   refine ch_n fun hU => ?_
   refine cg_ rfl hg (fun h10 hg => ?_) fun h10 hg => ?_
   ·refine awp_seq ?_
    refine awp_region (sys _ _ []) 96 104 hU rfl rfl ?_
    refine go_ ?_
    refine ch_n fun hU => ?_
    refine aw_r ?_
    replace hg := leave hg hn1
    obtain rfl := Option.some.inj hg
    exact fin_ [] ⟨rfl, rfl⟩
   ·refine awp_skip ?_
    repeat first | refine st_ ?_ | refine sn_ ?_
    refine awp_region (sys _ _ []) 96 112 hU rfl rfl ?_
    refine go_ ?_
    refine ch_n fun hU => ?_
    obtain rfl := Option.some.inj hg
    exact ⟨(W (x13_1 + 1), m1), Nat.lt_succ_self _, hn1, sub_ []⟩
  ·refine awp_exit ?_
   repeat first | refine st_ ?_ | refine sn_ ?_
   replace hg := leave hg hn1
   refine sr_ 8 16 hU ?_
   refine go_ ?_
   refine ch_n fun hU => ?_
   refine aw_r ?_
   obtain rfl := Option.some.inj hg
   exact fin_ [] ⟨rfl, rfl⟩
theorem w_certificate_Same (a : api_Certificate) (b : api_Certificate) (r : Bool) (hg : g_certificate_Same a b = some r) : Fn Tryz.prog 25 0 [.agg (api_Certificate.dv a), .agg (api_Certificate.dv b)] [] (fun d b => d = .val (.bool r) ∧ b = []) := by
 unfold g_certificate_Same at hg
 refine Fn.of Tryz.func25 rfl rfl rfl fun w0 I ρ0 => ?_
 show awp _ ⟨w0, I, ρ0, 0, 0, 91⟩ _ _ _
 refine sr_ 0 24 mk_U ?_
 refine go_ ?_
 refine ch_n fun hU => ?_
 refine awp_cut (ι := Bool) (fun (named_1 : Bool) => mk [(2, .ptr 0 0), (3, .ptr 1 0), (5, .val (.bool named_1))] [(0, .box (api_Certificate.dv a) 33), (1, .box (api_Certificate.dv b) 33)] 2) (fun (named_1 : Bool) => g_certificate_Same.j1 a b named_1 = some r) ?_ ?_
 ·refine awp_region (sys _ _ []) 24 240 hU rfl rfl ?_
  refine go_ ?_
  rcases bc_ hg with ⟨h2, hg⟩ | ⟨h2, hg⟩
  ·refine go_ ?_
   rcases bc_ hg with ⟨h3, hg⟩ | ⟨h3, hg⟩
   ·refine go_ ?_
    rcases bc_ hg with ⟨h4, hg⟩ | ⟨h4, hg⟩
    ·refine go_ ?_
     obtain ⟨y, hy, hg⟩ := bind_some hg
     refine ca_ (w_slices_Equal_string _ _ _ hy) ?_
     refine go_ ?_
     refine ch_n fun hU => ?_
     exact ⟨y, hg, sub_ [(0, 0), (1, 8)]⟩
    ·refine go_ ?_
     refine ch_n fun hU => ?_
     exact ⟨false, hg, sub_ [(0, 0), (1, 8)]⟩
   ·refine go_ ?_
    refine ch_n fun hU => ?_
    exact ⟨false, hg, sub_ [(0, 0), (1, 8)]⟩
  ·refine go_ ?_
   refine ch_n fun hU => ?_
   exact ⟨false, hg, sub_ [(0, 0), (1, 8)]⟩
 ·rintro named_1 hg
  replace hg : g_certificate_Same.j1 a b named_1 = some r := hg
  show awp _ _ _ _ (mk _ _ _)
  unfold g_certificate_Same.j1 at hg
  refine awp_cut (ι := Bool) (fun (keys_2 : Bool) => mk [(2, .ptr 0 0), (3, .ptr 1 0), (5, .val (.bool named_1)), (6, .val (.bool keys_2))] [(0, .box (api_Certificate.dv a) 33), (1, .box (api_Certificate.dv b) 33)] 2) (fun (keys_2 : Bool) => g_certificate_Same.j2 a b named_1 keys_2 = some r) ?_ ?_
  ·refine awp_region (sys _ _ []) 2 218 mk_U rfl rfl ?_
   refine go_ ?_
   refine c0_ rfl rfl (steq28_eql a.Key b.Key) rfl rfl ?_
   refine go_ ?_
   rcases bc_ hg with ⟨h9, hg⟩ | ⟨h9, hg⟩
   ·refine go_ ?_
    rcases bc_ hg with ⟨h10, hg⟩ | ⟨h10, hg⟩
    ·refine go_ ?_
     refine c0_ (gdv_t rfl rfl h10) rfl (steq28_eql a.Hash b.Hash) rfl rfl ?_
     refine go_ ?_
     rcases bc_ hg with ⟨h11, hg⟩ | ⟨h11, hg⟩
     ·refine go_ ?_
      refine c0_ (gdv_t rfl rfl h11) rfl (steq31_eql a.Seal b.Seal) rfl rfl ?_
      refine go_ ?_
      refine ch_n fun hU => ?_
      exact ⟨decide (a.Seal = b.Seal), hg, sub_ [(0, 0), (1, 1)]⟩
     ·refine go_ ?_
      refine ch_n fun hU => ?_
      exact ⟨false, hg, sub_ [(0, 0), (1, 1)]⟩
    ·refine go_ ?_
     refine ch_n fun hU => ?_
     exact ⟨false, hg, sub_ [(0, 0), (1, 1)]⟩
   ·refine go_ ?_
    refine ch_n fun hU => ?_
    exact ⟨false, hg, sub_ [(0, 0), (1, 1)]⟩
  ·rintro keys_2 hg
   replace hg : g_certificate_Same.j2 a b named_1 keys_2 = some r := hg
   show awp _ _ _ _ (mk _ _ _)
   unfold g_certificate_Same.j2 at hg
   refine sr_ 2 266 mk_U ?_
   refine go_ ?_
   rcases bc_ hg with ⟨h16, hg⟩ | ⟨h16, hg⟩
   ·refine go_ ?_
    rcases bc_ hg with ⟨h17, hg⟩ | ⟨h17, hg⟩
    ·refine go_ ?_
     rcases bc_ hg with ⟨h18, hg⟩ | ⟨h18, hg⟩
     ·refine go_ ?_
      rcases bc_ hg with ⟨h19, hg⟩ | ⟨h19, hg⟩
      ·refine go_ ?_
       refine c0_ (gdv_t rfl rfl h19) rfl (r_beql und4) rfl rfl ?_
       refine go_ ?_
       rcases bc_ hg with ⟨h20, hg⟩ | ⟨h20, hg⟩
       ·refine go_ ?_
        refine ch_n fun hU => ?_
        refine aw_r ?_
        obtain rfl := Option.some.inj hg
        exact fin_ [] ⟨rfl, rfl⟩
       ·refine go_ ?_
        refine ch_n fun hU => ?_
        refine aw_r ?_
        obtain rfl := Option.some.inj hg
        exact fin_ [] ⟨rfl, rfl⟩
      ·refine go_ ?_
       refine ch_n fun hU => ?_
       refine aw_r ?_
       obtain rfl := Option.some.inj hg
       exact fin_ [] ⟨rfl, rfl⟩
     ·refine go_ ?_
      refine ch_n fun hU => ?_
      refine aw_r ?_
      obtain rfl := Option.some.inj hg
      exact fin_ [] ⟨rfl, rfl⟩
    ·refine go_ ?_
     refine ch_n fun hU => ?_
     refine aw_r ?_
     obtain rfl := Option.some.inj hg
     exact fin_ [] ⟨rfl, rfl⟩
   ·refine go_ ?_
    refine ch_n fun hU => ?_
    refine aw_r ?_
    obtain rfl := Option.some.inj hg
    exact fin_ [] ⟨rfl, rfl⟩
theorem w_law03_awake  (r : Bool) (hg : g_law03_awake = some r) : Fn Tryz.prog 8 0 [] [] (fun d b => d = .val (.bool r) ∧ b = []) := by
 unfold g_law03_awake at hg
 refine Fn.of Tryz.func8 rfl rfl rfl fun w0 I ρ0 => ?_
 show awp _ ⟨w0, I, ρ0, 0, 0, 56⟩ _ _ _
 refine sr_ 0 8 mk_U ?_
 refine go_ ?_
 refine ch_n fun hU => ?_
 refine sr_ 8 56 hU ?_
 refine c0_ rfl rfl (.build (r := [.val (.int .i64 5), .val (.int .i64 2048)]) und28 pl28 z28 (by kernel_rfl) rfl) rfl rfl ?_
 refine c0_ rfl rfl (.build (r := [.val (.int .i64 3), .val (.int .i64 0)]) und28 pl28 z28 (by kernel_rfl) rfl) rfl rfl ?_
 refine c0_ rfl rfl (r_buildFull sl29 z9 (by decide) rfl rfl rfl rfl ck9 (cs := [.str (⟨#[119, 101, 98]⟩ : ByteArray)]) (.cons .str .nil) rfl (l := ([(⟨#[119, 101, 98]⟩ : ByteArray)] : List ByteArray)) (f := eS) rfl) rfl rfl ?_
 refine c0_ rfl rfl (.build (r := [.val (.int .i64 0), .val (.string (⟨#[99, 97]⟩ : ByteArray)), .val (.string (⟨#[119, 101, 98]⟩ : ByteArray)), .val (.int .i64 5), .val (.int .i64 2048), .val (.int .i64 7), .val (.int .i64 3), .val (.int .i64 0), .val (.int .i64 0), .val (.int .i64 9), .val (.bool false), .val (.int .i64 0), .row 24, .val (.int .i64 0), .val (.int .i64 0)]) und33 pl33 z33 (by kernel_rfl) rfl) rfl rfl ?_
 refine go_ ?_
 refine ch_n fun hU => ?_
 refine awp_seq ?_
 refine awp_sub (σ' := mk [(1, .ptr 0 0)] [(0, .box [.val (.int .i64 0), .val (.string (⟨#[99, 97]⟩ : ByteArray)), .val (.string (⟨#[119, 101, 98]⟩ : ByteArray)), .val (.int .i64 5), .val (.int .i64 2048), .val (.int .i64 7), .val (.int .i64 3), .val (.int .i64 0), .val (.int .i64 0), .val (.int .i64 9), .val (.bool false), .val (.int .i64 0), .sl 1 (encL eS ([(⟨#[119, 101, 98]⟩ : ByteArray)] : List ByteArray)), .val (.int .i64 0), .val (.int .i64 0)] 33)] 1) (sub_ [(0, 40)]) ?_
 refine awp_region (sys _ _ []) 1 65 mk_U rfl rfl ?_
 refine go_ ?_
 obtain ⟨y, hy, hg⟩ := bind_some hg
 refine ca_ (w_certificate_Sign _ _ _ hy) ?_
 refine go_ ?_
 refine ch_n fun hU => ?_
 refine sr_ 65 121 hU ?_
 refine go_ ?_
 obtain ⟨y_2, hy_2, hg⟩ := bind_some hg
 refine ca_ (w_certificate_Encode _ _ hy_2) ?_
 refine go_ ?_
 refine ch_n fun hU => ?_
 refine sr_ 121 185 hU ?_
 refine go_ ?_
 obtain ⟨y_3, hy_3, hg⟩ := bind_some hg
 refine ca_ (w_certificate_Decode _ _ hy_3) ?_
 refine go_ ?_
 refine ch_n fun hU => ?_
 refine sr_ 185 425 hU ?_
 refine go_ ?_
 rcases bc_ hg with ⟨h6, hg⟩ | ⟨h6, hg⟩
 ·refine go_ ?_
  rcases bc_ hg with ⟨h7, hg⟩ | ⟨h7, hg⟩
  ·refine go_ ?_
   rcases bc_ hg with ⟨h8, hg⟩ | ⟨h8, hg⟩
   ·refine go_ ?_
    obtain ⟨y_4, hy_4, hg⟩ := bind_some hg
    refine ca_ (w_certificate_Sealed _ _ _ hy_4) ?_
    refine go_ ?_
    rcases bc_ hg with ⟨h9, hg⟩ | ⟨h9, hg⟩
    ·refine go_ ?_
     obtain ⟨y_5, hy_5, hg⟩ := bind_some hg
     refine ca_ (w_certificate_Sealed _ _ _ hy_5) ?_
     refine go_ ?_
     rcases bc_ hg with ⟨h10, hg⟩ | ⟨h10, hg⟩
     ·refine go_ ?_
      obtain ⟨y_6, hy_6, hg⟩ := bind_some hg
      refine ca_ (w_certificate_Same _ _ _ hy_6) ?_
      refine go_ ?_
      rcases bc_ hg with ⟨h11, hg⟩ | ⟨h11, hg⟩
      ·refine c0_ (gdv_t rfl rfl h11) rfl (r_buildFull sl35 z5 (by decide) rfl rfl rfl rfl ck5 (cs := [.int .u8 97]) (.cons .int .nil) rfl (l := ([(97 : UInt8)] : List UInt8)) (f := e8) rfl) rfl rfl ?_
       obtain ⟨y_7, hy_7, hg⟩ := bind_some hg
       refine cb_ [385] [] [] true (w_certificate_Sum _ _ hy_7) ?_
       refine go_ ?_
       refine ch_n fun hU => ?_
       refine aw_r ?_
       obtain rfl := Option.some.inj hg
       exact fin_ [] ⟨rfl, rfl⟩
      ·refine go_ ?_
       refine ch_n fun hU => ?_
       refine aw_r ?_
       obtain rfl := Option.some.inj hg
       exact fin_ [] ⟨rfl, rfl⟩
     ·refine go_ ?_
      refine ch_n fun hU => ?_
      refine aw_r ?_
      obtain rfl := Option.some.inj hg
      exact fin_ [] ⟨rfl, rfl⟩
    ·refine go_ ?_
     refine ch_n fun hU => ?_
     refine aw_r ?_
     obtain rfl := Option.some.inj hg
     exact fin_ [] ⟨rfl, rfl⟩
   ·refine go_ ?_
    refine ch_n fun hU => ?_
    refine aw_r ?_
    obtain rfl := Option.some.inj hg
    exact fin_ [] ⟨rfl, rfl⟩
  ·refine go_ ?_
   refine ch_n fun hU => ?_
   refine aw_r ?_
   obtain rfl := Option.some.inj hg
   exact fin_ [] ⟨rfl, rfl⟩
 ·refine go_ ?_
  refine ch_n fun hU => ?_
  refine aw_r ?_
  obtain rfl := Option.some.inj hg
  exact fin_ [] ⟨rfl, rfl⟩
theorem w_make_Roll (l : (List Int)) (r : cipherplanmake_Dice) (hg : g_make_Roll l = some r) : Fn Tryz.prog 9 0 [.sl 1 (encL eI l)] [] (fun d b => d = .ptr 0 0 ∧ b = [.box [.sl 1 (encL eI r.L), .val (.int .i64 r.At)] 68]) := by
 unfold g_make_Roll at hg
 refine Fn.of Tryz.func9 rfl rfl rfl fun w0 I ρ0 => ?_
 show awp _ ⟨w0, I, ρ0, 0, 0, 6⟩ _ _ _
 refine sr_ 0 8 mk_U ?_
 refine go_ ?_
 refine ch_n fun hU => ?_
 refine sr_ 8 40 hU ?_
 refine go_ ?_
 refine c0_ rfl rfl (.build (r := [.sl 1 (encL eI l), .val (.int .i64 0)]) und68 pl68 z68 (by kernel_rfl) rfl) rfl rfl ?_
 refine go_ ?_
 refine ch_n fun hU => ?_
 refine aw_r ?_
 obtain rfl := Option.some.inj hg
 exact fin_ [(0, 24)] ⟨rfl, rfl⟩
theorem w_make_Mod (n : Int) (k : Int) (r : Int) (hg : g_make_Mod n k = some r) : Fn Tryz.prog 14 0 [.val (.int .i64 n), .val (.int .i64 k)] [] (fun d b => d = .val (.int .i64 r) ∧ b = []) := by
 unfold g_make_Mod at hg
 refine Fn.of Tryz.func14 rfl rfl rfl fun w0 I ρ0 => ?_
 show awp _ ⟨w0, I, ρ0, 0, 0, 14⟩ _ _ _
 refine sr_ 0 8 mk_U ?_
 refine go_ ?_
 refine ch_n fun hU => ?_
 refine awp_seq ?_
 refine sr_ 8 24 hU ?_
 refine go_ ?_
 refine ch_n fun hU => ?_
 refine cg_ rfl hg (fun h3 hg => ?_) fun h3 hg => ?_
 ·refine awp_seq ?_
  refine awp_region (sys _ _ []) 24 32 hU rfl rfl ?_
  refine go_ ?_
  refine ch_n fun hU => ?_
  refine aw_r ?_
  obtain rfl := Option.some.inj hg
  exact fin_ [] ⟨rfl, rfl⟩
 ·refine awp_skip ?_
  repeat first | refine st_ ?_ | refine sn_ ?_
  refine sr_ 24 88 hU ?_
  refine go_ ?_
  obtain ⟨q, hq, hg⟩ := bind_some hg
  refine c0_ rfl rfl (r_rem hq) rfl rfl ?_
  refine go_ ?_
  obtain ⟨q_2, hq_2, hg⟩ := bind_some hg
  refine c0_ rfl rfl (r_rem hq_2) rfl rfl ?_
  refine go_ ?_
  refine ch_n fun hU => ?_
  refine aw_r ?_
  obtain rfl := Option.some.inj hg
  exact fin_ [] ⟨rfl, rfl⟩
theorem w_make_Dice_Next (d : cipherplanmake_Dice) (n : Int) (r : Int × cipherplanmake_Dice) (hg : g_make_Dice_Next d n = some r) : Fn Tryz.prog 18 1 [.ptr 0 0, .val (.int .i64 n)] [.box [.sl 1 (encL eI d.L), .val (.int .i64 d.At)] 68] (fun d b => d = .val (.int .i64 r.1) ∧ b = [.box [.sl 1 (encL eI r.2.L), .val (.int .i64 r.2.At)] 68]) := by
 unfold g_make_Dice_Next at hg
 refine Fn.of Tryz.func18 rfl rfl rfl fun w0 I ρ0 => ?_
 show awp _ ⟨w0, I, ρ0, 1, 1, 35⟩ _ _ _
 refine sr_ 1 9 mk_U ?_
 refine go_ ?_
 refine ch_n fun hU => ?_
 refine awp_seq ?_
 refine awp_seq ?_
 refine awp_draw (sys _ _ []) (by kernel_rfl) [0, 1, 3, 7, 0, 16, 48, 112, 240, 511] 9 89 hU rfl rfl (by kernel_rfl) ?_
 refine go_ ?_
 refine ch_n fun hU => ?_
 refine cg_ rfl hg (fun h3 hg => ?_) fun h3 hg => ?_
 ·refine awp_seq ?_
  refine awp_region (sys _ _ []) 89 97 hU rfl rfl ?_
  refine go_ ?_
  refine ch_n fun hU => ?_
  refine aw_r ?_
  obtain rfl := Option.some.inj hg
  exact fin_ [(0, 0)] ⟨rfl, rfl⟩
 ·refine awp_skip ?_
  repeat first | refine st_ ?_ | refine sn_ ?_
  refine sr_ 89 153 hU ?_
  refine go_ ?_
  refine ch_n fun hU => ?_
  refine awp_seq ?_
  refine awp_draw (sys _ _ []) (by kernel_rfl) [0, 1, 3, 7, 0, 16, 48, 112, 240, 511, 1023, 0, 4095, 8191] 153 265 hU rfl rfl (by kernel_rfl) ?_
  refine go_ ?_
  obtain ⟨e, he, hg⟩ := bind_some hg
  refine go_ ?_
  refine c0_ rfl rfl (r_loadE1 ty3 (enc_cell eI_len (getI_at he) (o := 0) (c := .int .i64 e) rfl rfl)) rfl rfl ?_
  refine go_ ?_
  obtain ⟨y, hy, hg⟩ := bind_some hg
  refine ca_ (w_make_Mod _ _ _ hy) ?_
  refine go_ ?_
  refine ch_n fun hU => ?_
  refine aw_r ?_
  obtain rfl := Option.some.inj hg
  exact fin_ [(0, 0)] ⟨rfl, rfl⟩
theorem w_make_Dice_Word (d : cipherplanmake_Dice) (l : (List ByteArray)) (r : ByteArray × cipherplanmake_Dice) (hg : g_make_Dice_Word d l = some r) : Fn Tryz.prog 21 1 [.ptr 0 0, .sl 1 (encL eS l)] [.box [.sl 1 (encL eI d.L), .val (.int .i64 d.At)] 68] (fun d b => d = .val (.string r.1) ∧ b = [.box [.sl 1 (encL eI r.2.L), .val (.int .i64 r.2.At)] 68]) := by
 unfold g_make_Dice_Word at hg
 refine Fn.of Tryz.func21 rfl rfl rfl fun w0 I ρ0 => ?_
 show awp _ ⟨w0, I, ρ0, 1, 1, 12⟩ _ _ _
 refine sr_ 1 9 mk_U ?_
 refine go_ ?_
 refine ch_n fun hU => ?_
 refine sr_ 9 73 hU ?_
 refine go_ ?_
 obtain ⟨y, hy, hg⟩ := bind_some hg
 refine cb_ [0] [0] [] false (w_make_Dice_Next _ _ _ hy) ?_
 obtain ⟨e, he, hg⟩ := bind_some hg
 refine go_ ?_
 refine c0_ rfl rfl (r_loadE1 ty9 (enc_cell eS_len (getI_at he) (o := 0) (c := .str e) rfl rfl)) rfl rfl ?_
 refine go_ ?_
 refine ch_n fun hU => ?_
 refine aw_r ?_
 obtain rfl := Option.some.inj hg
 exact fin_ [(0, 0)] ⟨rfl, rfl⟩
theorem w_make_Dice_Of (d : cipherplanmake_Dice) (l : (List Int)) (r : Int × cipherplanmake_Dice) (hg : g_make_Dice_Of d l = some r) : Fn Tryz.prog 22 1 [.ptr 0 0, .sl 1 (encL eI l)] [.box [.sl 1 (encL eI d.L), .val (.int .i64 d.At)] 68] (fun d b => d = .val (.int .i64 r.1) ∧ b = [.box [.sl 1 (encL eI r.2.L), .val (.int .i64 r.2.At)] 68]) := by
 unfold g_make_Dice_Of at hg
 refine Fn.of Tryz.func22 rfl rfl rfl fun w0 I ρ0 => ?_
 show awp _ ⟨w0, I, ρ0, 1, 1, 12⟩ _ _ _
 refine sr_ 1 9 mk_U ?_
 refine go_ ?_
 refine ch_n fun hU => ?_
 refine sr_ 9 73 hU ?_
 refine go_ ?_
 obtain ⟨y, hy, hg⟩ := bind_some hg
 refine cb_ [0] [0] [] false (w_make_Dice_Next _ _ _ hy) ?_
 obtain ⟨e, he, hg⟩ := bind_some hg
 refine go_ ?_
 refine c0_ rfl rfl (r_loadE1 ty3 (enc_cell eI_len (getI_at he) (o := 0) (c := .int .i64 e) rfl rfl)) rfl rfl ?_
 refine go_ ?_
 refine ch_n fun hU => ?_
 refine aw_r ?_
 obtain rfl := Option.some.inj hg
 exact fin_ [(0, 0)] ⟨rfl, rfl⟩
theorem w_make_size (d : cipherplanmake_Dice) (a : Int) (r : Int × cipherplanmake_Dice) (hg : g_make_size d a = some r) : Fn Tryz.prog 52 1 [.ptr 0 0, .val (.int .i64 a)] [.box [.sl 1 (encL eI d.L), .val (.int .i64 d.At)] 68] (fun d b => d = .val (.int .i64 r.1) ∧ b = [.box [.sl 1 (encL eI r.2.L), .val (.int .i64 r.2.At)] 68]) := by
 unfold g_make_size at hg
 refine Fn.of Tryz.func52 rfl rfl rfl fun w0 I ρ0 => ?_
 show awp _ ⟨w0, I, ρ0, 1, 1, 46⟩ _ _ _
 refine sr_ 1 9 mk_U ?_
 refine go_ ?_
 refine ch_n fun hU => ?_
 refine awp_seq ?_
 refine sr_ 9 17 hU ?_
 refine go_ ?_
 refine ch_n fun hU => ?_
 refine awp_block ?_
 refine awp_cut (ι := Bool) (fun (x6_1 : Bool) => mk [(0, .ptr 0 0), (5, .val (.int .i64 a)), (6, .val (.bool x6_1))] [(0, .box [.sl 1 (encL eI d.L), .val (.int .i64 d.At)] 68)] 1) (fun (x6_1 : Bool) => g_make_size.j1 d a x6_1 = some r) ?_ ?_
 ·refine awp_seq ?_
  refine awp_region (sys _ _ []) 17 33 hU rfl rfl ?_
  refine go_ ?_
  refine ch_n fun hU => ?_
  refine cg_ rfl hg (fun h4 hg => ?_) fun h4 hg => ?_
  ·refine awp_skip ?_
   repeat first | refine st_ ?_ | refine sn_ ?_
   exact ⟨decide (a = 5), hg, sub_ [(0, 0)]⟩
  ·refine awp_seq ?_
   refine awp_region (sys _ _ []) 33 49 hU rfl rfl ?_
   refine go_ ?_
   refine ch_n fun hU => ?_
   refine cg_ rfl hg (fun h6 hg => ?_) fun h6 hg => ?_
   ·refine awp_skip ?_
    repeat first | refine st_ ?_ | refine sn_ ?_
    exact ⟨decide (a = 6), hg, sub_ [(0, 0)]⟩
   ·refine awp_seq ?_
    refine awp_region (sys _ _ []) 49 65 hU rfl rfl ?_
    refine go_ ?_
    refine ch_n fun hU => ?_
    refine cg_ rfl hg (fun h8 hg => ?_) fun h8 hg => ?_
    ·refine awp_skip ?_
     repeat first | refine st_ ?_ | refine sn_ ?_
     exact ⟨decide (a = 10), hg, sub_ [(0, 0)]⟩
    ·refine awp_region (sys _ _ []) 65 81 hU rfl rfl ?_
     refine go_ ?_
     refine ch_n fun hU => ?_
     exact ⟨decide (a = 11), hg, sub_ [(0, 0)]⟩
 ·rintro x6_1 hg
  replace hg : g_make_size.j1 d a x6_1 = some r := hg
  show awp _ _ _ _ (mk _ _ _)
  unfold g_make_size.j1 at hg
  refine cg_ rfl hg (fun h10 hg => ?_) fun h10 hg => ?_
  ·refine awp_seq ?_
   refine awp_region (sys _ _ [9]) 1 33 mk_U rfl rfl ?_
   refine go_ ?_
   refine ch_z (rd := []) rfl rfl (r_buildFull sl22 z3 (by decide) rfl rfl rfl rfl ck3 (cs := [.int .i64 2048, .int .i64 1024, .int .i64 512, .int .i64 3072, .int .i64 1023, .int .i64 4096, .int .i64 16384]) (.cons .int (.cons .int (.cons .int (.cons .int (.cons .int (.cons .int (.cons .int .nil))))))) rfl (l := ([2048, 1024, 512, 3072, 1023, 4096, 16384] : List Int)) (f := eI) rfl) rfl rfl rfl ?_
   obtain ⟨y, hy, hg⟩ := bind_some hg
   refine cb_ [0] [0] [] false (w_make_Dice_Of _ _ _ hy) ?_
   refine go_ ?_
   refine ch_n fun hU => ?_
   refine aw_r ?_
   obtain rfl := Option.some.inj hg
   exact fin_ [(0, 0)] ⟨rfl, rfl⟩
  ·refine awp_cut (ι := Bool) (fun (x14_2 : Bool) => mk [(0, .ptr 0 0), (5, .val (.int .i64 a)), (14, .val (.bool x14_2))] [(0, .box [.sl 1 (encL eI d.L), .val (.int .i64 d.At)] 68)] 1) (fun (x14_2 : Bool) => g_make_size.j2 d a x14_2 = some r) ?_ ?_
   ·refine awp_seq ?_
    refine awp_region (sys _ _ []) 1 17 mk_U rfl rfl ?_
    refine go_ ?_
    refine ch_n fun hU => ?_
    refine cg_ rfl hg (fun h13 hg => ?_) fun h13 hg => ?_
    ·refine awp_skip ?_
     repeat first | refine st_ ?_ | refine sn_ ?_
     exact ⟨decide (a = 7), hg, sub_ [(0, 0)]⟩
    ·refine awp_region (sys _ _ []) 17 33 hU rfl rfl ?_
     refine go_ ?_
     refine ch_n fun hU => ?_
     exact ⟨decide (a = 12), hg, sub_ [(0, 0)]⟩
   ·rintro x14_2 hg
    replace hg : g_make_size.j2 d a x14_2 = some r := hg
    show awp _ _ _ _ (mk _ _ _)
    unfold g_make_size.j2 at hg
    refine cg_ rfl hg (fun h15 hg => ?_) fun h15 hg => ?_
    ·refine awp_seq ?_
     refine awp_region (sys _ _ [9]) 1 33 mk_U rfl rfl ?_
     refine go_ ?_
     refine ch_z (rd := []) rfl rfl (r_buildFull sl22 z3 (by decide) rfl rfl rfl rfl ck3 (cs := [.int .i64 256, .int .i64 160, .int .i64 224, .int .i64 384, .int .i64 521]) (.cons .int (.cons .int (.cons .int (.cons .int (.cons .int .nil))))) rfl (l := ([256, 160, 224, 384, 521] : List Int)) (f := eI) rfl) rfl rfl rfl ?_
     obtain ⟨y_2, hy_2, hg⟩ := bind_some hg
     refine cb_ [0] [0] [] false (w_make_Dice_Of _ _ _ hy_2) ?_
     refine go_ ?_
     refine ch_n fun hU => ?_
     refine aw_r ?_
     obtain rfl := Option.some.inj hg
     exact fin_ [(0, 0)] ⟨rfl, rfl⟩
    ·refine awp_seq ?_
     refine awp_region (sys _ _ []) 1 17 mk_U rfl rfl ?_
     refine go_ ?_
     refine ch_n fun hU => ?_
     refine cg_ rfl hg (fun h18 hg => ?_) fun h18 hg => ?_
     ·refine awp_seq ?_
      refine awp_region (sys _ _ [25]) 17 49 hU rfl rfl ?_
      refine go_ ?_
      refine ch_z (rd := []) rfl rfl (r_buildFull sl22 z3 (by decide) rfl rfl rfl rfl ck3 (cs := [.int .i64 65, .int .i64 44, .int .i64 87]) (.cons .int (.cons .int (.cons .int .nil))) rfl (l := ([65, 44, 87] : List Int)) (f := eI) rfl) rfl rfl rfl ?_
      obtain ⟨y_3, hy_3, hg⟩ := bind_some hg
      refine cb_ [0] [0] [] false (w_make_Dice_Of _ _ _ hy_3) ?_
      refine go_ ?_
      refine ch_n fun hU => ?_
      refine aw_r ?_
      obtain rfl := Option.some.inj hg
      exact fin_ [(0, 0)] ⟨rfl, rfl⟩
     ·refine awp_seq ?_
      refine awp_region (sys _ _ []) 17 33 hU rfl rfl ?_
      refine go_ ?_
      refine ch_n fun hU => ?_
      refine cg_ rfl hg (fun h21 hg => ?_) fun h21 hg => ?_
      ·refine awp_seq ?_
       refine awp_region (sys _ _ [41]) 33 65 hU rfl rfl ?_
       refine go_ ?_
       refine ch_z (rd := []) rfl rfl (r_buildFull sl22 z3 (by decide) rfl rfl rfl rfl ck3 (cs := [.int .i64 768, .int .i64 512, .int .i64 1024]) (.cons .int (.cons .int (.cons .int .nil))) rfl (l := ([768, 512, 1024] : List Int)) (f := eI) rfl) rfl rfl rfl ?_
       obtain ⟨y_4, hy_4, hg⟩ := bind_some hg
       refine cb_ [0] [0] [] false (w_make_Dice_Of _ _ _ hy_4) ?_
       refine go_ ?_
       refine ch_n fun hU => ?_
       refine aw_r ?_
       obtain rfl := Option.some.inj hg
       exact fin_ [(0, 0)] ⟨rfl, rfl⟩
      ·refine awp_seq ?_
       refine awp_region (sys _ _ []) 33 49 hU rfl rfl ?_
       refine go_ ?_
       refine ch_n fun hU => ?_
       refine cg_ rfl hg (fun h24 hg => ?_) fun h24 hg => ?_
       ·refine awp_seq ?_
        refine awp_region (sys _ _ [57]) 49 81 hU rfl rfl ?_
        refine go_ ?_
        refine ch_z (rd := []) rfl rfl (r_buildFull sl22 z3 (by decide) rfl rfl rfl rfl ck3 (cs := [.int .i64 128, .int .i64 40]) (.cons .int (.cons .int .nil)) rfl (l := ([128, 40] : List Int)) (f := eI) rfl) rfl rfl rfl ?_
        obtain ⟨y_5, hy_5, hg⟩ := bind_some hg
        refine cb_ [0] [0] [] false (w_make_Dice_Of _ _ _ hy_5) ?_
        refine go_ ?_
        refine ch_n fun hU => ?_
        refine aw_r ?_
        obtain rfl := Option.some.inj hg
        exact fin_ [(0, 0)] ⟨rfl, rfl⟩
       ·refine awp_seq ?_
        refine awp_region (sys _ _ []) 49 65 hU rfl rfl ?_
        refine go_ ?_
        refine ch_n fun hU => ?_
        refine cg_ rfl hg (fun h27 hg => ?_) fun h27 hg => ?_
        ·refine awp_seq ?_
         refine awp_region (sys _ _ [73]) 65 97 hU rfl rfl ?_
         refine go_ ?_
         refine ch_z (rd := []) rfl rfl (r_buildFull sl22 z3 (by decide) rfl rfl rfl rfl ck3 (cs := [.int .i64 168, .int .i64 112]) (.cons .int (.cons .int .nil)) rfl (l := ([168, 112] : List Int)) (f := eI) rfl) rfl rfl rfl ?_
         obtain ⟨y_6, hy_6, hg⟩ := bind_some hg
         refine cb_ [0] [0] [] false (w_make_Dice_Of _ _ _ hy_6) ?_
         refine go_ ?_
         refine ch_n fun hU => ?_
         refine aw_r ?_
         obtain rfl := Option.some.inj hg
         exact fin_ [(0, 0)] ⟨rfl, rfl⟩
        ·refine awp_cut (ι := Bool) (fun (x40_3 : Bool) => mk [(0, .ptr 0 0), (40, .val (.bool x40_3))] [(0, .box [.sl 1 (encL eI d.L), .val (.int .i64 d.At)] 68)] 1) (fun (x40_3 : Bool) => g_make_size.j3 d x40_3 = some r) ?_ ?_
         ·refine awp_seq ?_
          refine awp_region (sys _ _ []) 65 81 hU rfl rfl ?_
          refine go_ ?_
          refine ch_n fun hU => ?_
          refine cg_ rfl hg (fun h30 hg => ?_) fun h30 hg => ?_
          ·refine awp_skip ?_
           repeat first | refine st_ ?_ | refine sn_ ?_
           exact ⟨decide (a = 16), hg, sub_ [(0, 0)]⟩
          ·refine awp_region (sys _ _ []) 81 97 hU rfl rfl ?_
           refine go_ ?_
           refine ch_n fun hU => ?_
           exact ⟨decide (a = 17), hg, sub_ [(0, 0)]⟩
         ·rintro x40_3 hg
          replace hg : g_make_size.j3 d x40_3 = some r := hg
          show awp _ _ _ _ (mk _ _ _)
          unfold g_make_size.j3 at hg
          refine cg_ rfl hg (fun h32 hg => ?_) fun h32 hg => ?_
          ·refine awp_seq ?_
           refine awp_region (sys _ _ [9]) 1 33 mk_U rfl rfl ?_
           refine go_ ?_
           refine ch_z (rd := []) rfl rfl (r_buildFull sl22 z3 (by decide) rfl rfl rfl rfl ck3 (cs := [.int .i64 128, .int .i64 256]) (.cons .int (.cons .int .nil)) rfl (l := ([128, 256] : List Int)) (f := eI) rfl) rfl rfl rfl ?_
           obtain ⟨y_7, hy_7, hg⟩ := bind_some hg
           refine cb_ [0] [0] [] false (w_make_Dice_Of _ _ _ hy_7) ?_
           refine go_ ?_
           refine ch_n fun hU => ?_
           refine aw_r ?_
           obtain rfl := Option.some.inj hg
           exact fin_ [(0, 0)] ⟨rfl, rfl⟩
          ·refine awp_skip ?_
           repeat first | refine st_ ?_ | refine sn_ ?_
           refine sr_ 1 9 mk_U ?_
           refine go_ ?_
           refine ch_n fun hU => ?_
           refine aw_r ?_
           obtain rfl := Option.some.inj hg
           exact fin_ [(0, 0)] ⟨rfl, rfl⟩
end Go.Proofs.YtlcfdnjokgbccaaGreat
