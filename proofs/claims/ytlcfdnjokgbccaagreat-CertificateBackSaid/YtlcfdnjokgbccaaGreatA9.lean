/- The program computes the plain functions. -/
import Derived.Test.YtlcfdnjokgbccaaGreatT1
import Derived.Test.YtlcfdnjokgbccaaGreatEG
import Derived.Test.YtlcfdnjokgbccaaGreatA1
import Derived.Test.YtlcfdnjokgbccaaGreatA2
import Derived.Test.YtlcfdnjokgbccaaGreatA4
import Derived.Test.YtlcfdnjokgbccaaGreatA5
import Derived.Test.YtlcfdnjokgbccaaGreatA6
import Derived.Test.YtlcfdnjokgbccaaGreatA7
import Derived.Test.YtlcfdnjokgbccaaGreatA8
set_option linter.unusedVariables false
set_option linter.unusedSimpArgs false
set_option maxRecDepth 100000
set_option maxHeartbeats 1600000
namespace Go.Proofs.YtlcfdnjokgbccaaGreat
open Go.RowKit
theorem w_ref03_Reader_Use (r' : cipherplanref03_Reader) (r : api_Use × cipherplanref03_Reader) (hg : g_ref03_Reader_Use r' = some r) : Fn Tryz.prog 91 1 [.ptr 0 0] [.box (cipherplanref03_Reader.dv r') 109] (fun d b => d = .agg [.val (.int .i64 r.1.Alg), .val (.int .i64 r.1.Bits)] ∧ b = [.box (cipherplanref03_Reader.dv r.2) 109]) := by
 unfold g_ref03_Reader_Use at hg
 refine Fn.of Tryz.func91 rfl rfl rfl fun w0 I ρ0 => ?_
 show awp _ ⟨w0, I, ρ0, 1, 1, 24⟩ _ _ _
 refine sr_ 1 9 mk_U ?_
 refine go2_ ?_
 refine ch_n fun hU => ?_
 refine sr_ 9 33 hU ?_
 refine go2_ ?_
 obtain ⟨y, hy, hg⟩ := bind_some hg
 refine ch_call (rd := [0]) (ps := [0]) (gs := []) false rfl (w_ref03_Reader_List _ _ hy) rfl rfl (.cons (.ptr rfl) .nil) ⟨_, _, _, rfl, .head _, ⟨_, rfl, (by repeat' (first | exact AgL.nil | apply AgL.cons | exact Ag.val | exact Ag.sl | exact Ag.nils | exact Ag.ptr rfl))⟩, rfl⟩ rfl (by intro h; cases h) rfl (by intro h; first | (cases h; done) | exact ⟨_, _, ⟨rfl, rfl⟩, by simp, by simp⟩) ?_
 rintro _ _ ⟨rfl, rfl⟩
 refine go2_ ?_
 refine ch_n fun hU => ?_
 refine sr_ 33 89 hU ?_
 refine go2_ ?_
 obtain ⟨y_2, hy_2, hg⟩ := bind_some hg
 refine cb2_ [17] [17] [] false (w_ref03_Reader_Int _ _ hy_2) ?_
 refine go2_ ?_
 obtain ⟨y_3, hy_3, hg⟩ := bind_some hg
 refine cb2_ [17] [17] [] false (w_ref03_Reader_Int _ _ hy_3) ?_
 refine c0_ rfl rfl (.build (r := [.val (.int .i64 y_2.1), .val (.int .i64 y_3.1)]) und28 pl28 z28 (by kernel_rfl) rfl) rfl rfl ?_
 refine go2_ ?_
 refine ch_n fun hU => ?_
 refine awp_cut (ι := Bool) (fun (b_1 : Bool) => mk [(2, .ptr 1 0), (4, .ptr 2 0)] [(0, .box [.sl 4 (encL api_Value.enc y.2.L), .val (.int .i64 y.2.At), .val (.bool b_1)] 109), (1, .box [.val (.int .i64 0), .val (.int .i64 0)] 28), (2, .box [.val (.int .i64 y_2.1), .val (.int .i64 y_3.1)] 28)] 3) (fun (b_1 : Bool) => g_ref03_Reader_Use.j1 y y_2 y_3 b_1 = some r) ?_ ?_
 ·refine awp_region (sys _ _ []) 89 185 hU rfl rfl ?_
  refine go2_ ?_
  rcases bc_ hg with ⟨h4, hg⟩ | ⟨h4, hg⟩
  ·refine go2_ ?_
   obtain ⟨y_4, hy_4, hg⟩ := bind_some hg
   refine cb2_ [17] [17] [] false (w_ref03_Reader_End _ _ hy_4) ?_
   refine go2_ ?_
   refine ch_n fun hU => ?_
   exact ⟨y_4.1, hg, sub_ [(0, 0), (1, 1), (2, 73)]⟩
  ·refine go2_ ?_
   refine ch_n fun hU => ?_
   exact ⟨false, hg, sub_ [(0, 0), (1, 1), (2, 73)]⟩
 ·rintro b_1 hg
  replace hg : g_ref03_Reader_Use.j1 y y_2 y_3 b_1 = some r := hg
  show awp _ _ _ _ (mk _ _ _)
  unfold g_ref03_Reader_Use.j1 at hg
  refine sr_ 3 19 mk_U ?_
  refine go2_ ?_
  refine ch_n fun hU => ?_
  refine aw_r ?_
  obtain rfl := Option.some.inj hg
  exact fin_ [(0, 0)] ⟨rfl, rfl⟩
theorem w_ref01_AsBool (v : api_Value) (r : Bool × Int) (hg : g_ref01_AsBool v = some r) : Fn Tryz.prog 121 0 [.agg (api_Value.dv v)] [] (fun d b => d = .tup [.val (.bool r.1), .val (.int .i64 r.2)] ∧ b = []) := by
 unfold g_ref01_AsBool at hg
 refine Fn.of Tryz.func121 rfl rfl rfl fun w0 I ρ0 => ?_
 show awp _ ⟨w0, I, ρ0, 0, 0, 42⟩ _ _ _
 refine sr_ 0 24 mk_U ?_
 refine go2_ ?_
 refine ch_n fun hU => ?_
 refine awp_seq ?_
 refine awp_cut (ι := Bool) (fun (x36_1 : Bool) => mk [(1, .ptr 0 0), (36, .val (.bool x36_1))] [(0, .box (api_Value.dv v) 41)] 1) (fun (x36_1 : Bool) => g_ref01_AsBool.j1 v x36_1 = some r) ?_ ?_
 ·refine awp_region (sys _ _ []) 24 288 hU rfl rfl ?_
  refine go2_ ?_
  rcases bc_ hg with ⟨h2, hg⟩ | ⟨h2, hg⟩
  ·refine go2_ ?_
   refine ch_n fun hU => ?_
   exact ⟨true, hg, sub_ [(0, 0)]⟩
  ·refine go2_ ?_
   rcases bc_ hg with ⟨h4, hg⟩ | ⟨h4, hg⟩
   ·refine go2_ ?_
    refine ch_n fun hU => ?_
    exact ⟨true, hg, sub_ [(0, 0)]⟩
   ·refine go2_ ?_
    rcases bc_ hg with ⟨h6, hg⟩ | ⟨h6, hg⟩
    ·refine go2_ ?_
     refine ch_n fun hU => ?_
     exact ⟨true, hg, sub_ [(0, 0)]⟩
    ·refine go2_ ?_
     rcases bc_ hg with ⟨h8, hg⟩ | ⟨h8, hg⟩
     ·refine go2_ ?_
      refine ch_n fun hU => ?_
      exact ⟨true, hg, sub_ [(0, 0)]⟩
     ·refine go2_ ?_
      obtain ⟨e, he, hg⟩ := bind_some hg
      refine go2_ ?_
      refine c0_ (gdv_t rfl rfl h8) rfl (r_loadE1 ty5 (enc_cell e8_len (getI_at he) (o := 0) (c := .int .u8 (e.toNat : Int)) rfl rfl)) rfl rfl ?_
      refine go2_ ?_
      rcases bc_ hg with ⟨h10, hg⟩ | ⟨h10, hg⟩
      ·refine go2_ ?_
       refine c0_ (gdv_t rfl rfl h10) rfl (r_loadE1 ty5 (enc_cell e8_len (getI_at he) (o := 0) (c := .int .u8 (e.toNat : Int)) rfl rfl)) rfl rfl ?_
       refine go2_ ?_
       refine ch_n fun hU => ?_
       exact ⟨!decide ((e.toNat : Int) = 255), hg, sub_ [(0, 0)]⟩
      ·refine go2_ ?_
       refine ch_n fun hU => ?_
       exact ⟨false, hg, sub_ [(0, 0)]⟩
 ·rintro x36_1 hg
  replace hg : g_ref01_AsBool.j1 v x36_1 = some r := hg
  show awp _ _ _ _ (mk _ _ _)
  unfold g_ref01_AsBool.j1 at hg
  refine cg_ rfl hg (fun h13 hg => ?_) fun h13 hg => ?_
  ·refine awp_seq ?_
   refine awp_region (sys _ _ []) 1 17 mk_U rfl rfl ?_
   refine go2_ ?_
   refine ch_n fun hU => ?_
   refine aw_r ?_
   obtain rfl := Option.some.inj hg
   exact fin_ [] ⟨rfl, rfl⟩
  ·refine awp_skip ?_
   repeat first | refine st_ ?_ | refine sn_ ?_
   refine sr_ 1 57 mk_U ?_
   refine go2_ ?_
   obtain ⟨e_2, he_2, hg⟩ := bind_some hg
   refine go2_ ?_
   refine c0_ rfl rfl (r_loadE1 ty5 (enc_cell e8_len (getI_at he_2) (o := 0) (c := .int .u8 (e_2.toNat : Int)) rfl rfl)) rfl rfl ?_
   refine go2_ ?_
   refine ch_n fun hU => ?_
   refine aw_r ?_
   obtain rfl := Option.some.inj hg
   exact fin_ [] ⟨rfl, rfl⟩
theorem w_ref03_Reader_Bool (r' : cipherplanref03_Reader) (r : Bool × cipherplanref03_Reader) (hg : g_ref03_Reader_Bool r' = some r) : Fn Tryz.prog 92 1 [.ptr 0 0] [.box (cipherplanref03_Reader.dv r') 109] (fun d b => d = .val (.bool r.1) ∧ b = [.box (cipherplanref03_Reader.dv r.2) 109]) := by
 unfold g_ref03_Reader_Bool at hg
 refine Fn.of Tryz.func92 rfl rfl rfl fun w0 I ρ0 => ?_
 show awp _ ⟨w0, I, ρ0, 1, 1, 23⟩ _ _ _
 refine sr_ 1 9 mk_U ?_
 refine go2_ ?_
 refine ch_n fun hU => ?_
 refine sr_ 9 73 hU ?_
 refine go2_ ?_
 obtain ⟨y, hy, hg⟩ := bind_some hg
 refine cb2_ [0] [0] [] false (w_ref03_Reader_Next _ _ hy) ?_
 obtain ⟨y_2, hy_2, hg⟩ := bind_some hg
 refine ca2_ (w_ref01_AsBool _ _ hy_2) ?_
 refine go2_ ?_
 refine ch_n fun hU => ?_
 refine sr_ 73 169 hU ?_
 refine go2_ ?_
 rcases bc_ hg with ⟨h3, hg⟩ | ⟨h3, hg⟩
 ·refine go2_ ?_
  refine ch_n fun hU => ?_
  refine sr_ 169 185 hU ?_
  refine go2_ ?_
  refine ch_n fun hU => ?_
  refine aw_r ?_
  obtain rfl := Option.some.inj hg
  exact fin_ [(0, 0)] ⟨rfl, rfl⟩
 ·refine go2_ ?_
  refine ch_n fun hU => ?_
  refine sr_ 169 185 hU ?_
  refine go2_ ?_
  refine ch_n fun hU => ?_
  refine aw_r ?_
  obtain rfl := Option.some.inj hg
  exact fin_ [(0, 0)] ⟨rfl, rfl⟩
theorem w_ref03_From (v : api_Value) (r : api_Certificate × Bool) (hg : g_ref03_From v = some r) : Fn Tryz.prog 44 0 [.agg (api_Value.dv v)] [] (fun d b => d = .tup [.agg (api_Certificate.dv r.1), .val (.bool r.2)] ∧ b = []) := by
 unfold g_ref03_From at hg
 refine Fn.of Tryz.func44 rfl rfl rfl fun w0 I ρ0 => ?_
 show awp _ ⟨w0, I, ρ0, 0, 0, 82⟩ _ _ _
 refine sr_ 0 24 mk_U ?_
 refine go2_ ?_
 refine ch_n fun hU => ?_
 refine sr_ 24 48 hU ?_
 refine go2_ ?_
 obtain ⟨y, hy, hg⟩ := bind_some hg
 refine ch_call (rd := []) (ps := []) (gs := []) false rfl (w_ref03_Read _ _ hy) rfl rfl (.cons (.agg (.cons .val (.cons .sl (.cons .val (.cons .sl .nil))))) .nil) rfl rfl (by intro h; cases h) rfl (by intro h; first | (cases h; done) | exact ⟨_, _, ⟨rfl, rfl⟩, by simp, by simp⟩) ?_
 rintro _ _ ⟨rfl, rfl⟩
 refine go2_ ?_
 refine ch_n fun hU => ?_
 refine sr_ 48 72 hU ?_
 refine go2_ ?_
 obtain ⟨y_2, hy_2, hg⟩ := bind_some hg
 refine ch_call (rd := [32]) (ps := [32]) (gs := []) false rfl (w_ref03_Reader_List _ _ hy_2) rfl rfl (.cons (.ptr rfl) .nil) ⟨_, _, _, rfl, .head _, ⟨_, rfl, (by repeat' (first | exact AgL.nil | apply AgL.cons | exact Ag.val | exact Ag.sl | exact Ag.nils | exact Ag.ptr rfl))⟩, rfl⟩ rfl (by intro h; cases h) rfl (by intro h; first | (cases h; done) | exact ⟨_, _, ⟨rfl, rfl⟩, by simp, by simp⟩) ?_
 rintro _ _ ⟨rfl, rfl⟩
 refine go2_ ?_
 refine ch_n fun hU => ?_
 refine sr_ 72 256 hU ?_
 refine go2_ ?_
 obtain ⟨y_3, hy_3, hg⟩ := bind_some hg
 refine cb2_ [56] [56] [] false (w_ref03_Reader_Int _ _ hy_3) ?_
 refine go2_ ?_
 obtain ⟨y_4, hy_4, hg⟩ := bind_some hg
 refine cb2_ [56] [56] [] false (w_ref03_Reader_Text _ _ hy_4) ?_
 refine go2_ ?_
 obtain ⟨y_5, hy_5, hg⟩ := bind_some hg
 refine cb2_ [56] [56] [] false (w_ref03_Reader_Text _ _ hy_5) ?_
 refine go2_ ?_
 obtain ⟨y_6, hy_6, hg⟩ := bind_some hg
 refine cb2_ [56] [56] [] false (w_ref03_Reader_Use _ _ hy_6) ?_
 refine go2_ ?_
 obtain ⟨y_7, hy_7, hg⟩ := bind_some hg
 refine cb2_ [56] [56] [] false (w_ref03_Reader_Int _ _ hy_7) ?_
 refine go2_ ?_
 obtain ⟨y_8, hy_8, hg⟩ := bind_some hg
 refine cb2_ [56] [56] [] false (w_ref03_Reader_Use _ _ hy_8) ?_
 refine go2_ ?_
 obtain ⟨y_9, hy_9, hg⟩ := bind_some hg
 refine cb2_ [56] [56] [] false (w_ref03_Reader_Int _ _ hy_9) ?_
 refine go2_ ?_
 obtain ⟨y_10, hy_10, hg⟩ := bind_some hg
 refine cb2_ [56] [56] [] false (w_ref03_Reader_Int _ _ hy_10) ?_
 refine go2_ ?_
 obtain ⟨y_11, hy_11, hg⟩ := bind_some hg
 refine cb2_ [56] [56] [] false (w_ref03_Reader_Bool _ _ hy_11) ?_
 refine go2_ ?_
 obtain ⟨y_12, hy_12, hg⟩ := bind_some hg
 refine cb2_ [56] [56] [] false (w_ref03_Reader_Int _ _ hy_12) ?_
 refine c0_ rfl rfl (.build (r := [.val (.int .i64 y_3.1), .val (.string y_4.1), .val (.string y_5.1), .val (.int .i64 y_6.1.Alg), .val (.int .i64 y_6.1.Bits), .val (.int .i64 y_7.1), .val (.int .i64 y_8.1.Alg), .val (.int .i64 y_8.1.Bits), .val (.int .i64 y_9.1), .val (.int .i64 y_10.1), .val (.bool y_11.1), .val (.int .i64 y_12.1), .val (.slice none 0 0), .val (.int .i64 0), .val (.int .i64 0)]) und33 pl33 z33 (by kernel_rfl) rfl) rfl rfl ?_
 refine go2_ ?_
 refine ch_n fun hU => ?_
 refine sr_ 256 280 hU ?_
 refine go2_ ?_
 obtain ⟨y_13, hy_13, hg⟩ := bind_some hg
 refine ch_call (rd := [56]) (ps := [56]) (gs := []) false rfl (w_ref03_Reader_List _ _ hy_13) rfl rfl (.cons (.ptr rfl) .nil) ⟨_, _, _, rfl, .head _, ⟨_, rfl, (by repeat' (first | exact AgL.nil | apply AgL.cons | exact Ag.val | exact Ag.sl | exact Ag.nils | exact Ag.ptr rfl))⟩, rfl⟩ rfl (by intro h; cases h) rfl (by intro h; first | (cases h; done) | exact ⟨_, _, ⟨rfl, rfl⟩, by simp, by simp⟩) ?_
 rintro _ _ ⟨rfl, rfl⟩
 refine go2_ ?_
 refine ch_n fun hU => ?_
 refine awp_seq ?_
 refine awp_block ?_
 refine lp_ (fun ((n_1, l_1) : cipherplanref03_Reader × List ByteArray) => mk [(2, .ptr 0 0), (4, .ptr 1 0), (5, .ptr 2 0), (6, .ptr 3 0), (7, .ptr 4 0)] [(0, .box [.val (.int .i64 0), .val (.string (⟨#[]⟩ : ByteArray)), .val (.string (⟨#[]⟩ : ByteArray)), .val (.int .i64 0), .val (.int .i64 0), .val (.int .i64 0), .val (.int .i64 0), .val (.int .i64 0), .val (.int .i64 0), .val (.int .i64 0), .val (.bool false), .val (.int .i64 0), .val (.slice none 0 0), .val (.int .i64 0), .val (.int .i64 0)] 33), (1, .box (cipherplanref03_Reader.dv y_2.2) 109), (2, .box (cipherplanref03_Reader.dv y_13.2) 109), (3, .box [.val (.int .i64 y_3.1), .val (.string y_4.1), .val (.string y_5.1), .val (.int .i64 y_6.1.Alg), .val (.int .i64 y_6.1.Bits), .val (.int .i64 y_7.1), .val (.int .i64 y_8.1.Alg), .val (.int .i64 y_8.1.Bits), .val (.int .i64 y_9.1), .val (.int .i64 y_10.1), .val (.bool y_11.1), .val (.int .i64 y_12.1), .row 5, .val (.int .i64 0), .val (.int .i64 0)] 33), (4, .box (cipherplanref03_Reader.dv n_1) 109), (5, .row 9 1 (encL eS l_1))] 6) hg (sub_ [(0, 8), (1, 32), (2, 56), (3, 240), (4, 264)]) ?_
 rintro ⟨n_1, l_1⟩ m1 o1 hg hn1
 replace hg : g_ref03_From.l1 y_2 y_3 y_4 y_5 y_6 y_7 y_8 y_9 y_10 y_11 y_12 y_13 n_1 l_1 = some o1 := hg
 show awp _ _ _ _ (mk _ _ _)
 unfold g_ref03_From.l1 at hg
 refine awp_seq ?_
 refine awp_cut (ι := Bool) (fun (x51_2 : Bool) => mk [(2, .ptr 0 0), (4, .ptr 1 0), (5, .ptr 2 0), (6, .ptr 3 0), (7, .ptr 4 0), (51, .val (.bool x51_2))] [(0, .box [.val (.int .i64 0), .val (.string (⟨#[]⟩ : ByteArray)), .val (.string (⟨#[]⟩ : ByteArray)), .val (.int .i64 0), .val (.int .i64 0), .val (.int .i64 0), .val (.int .i64 0), .val (.int .i64 0), .val (.int .i64 0), .val (.int .i64 0), .val (.bool false), .val (.int .i64 0), .val (.slice none 0 0), .val (.int .i64 0), .val (.int .i64 0)] 33), (1, .box (cipherplanref03_Reader.dv y_2.2) 109), (2, .box (cipherplanref03_Reader.dv y_13.2) 109), (3, .box [.val (.int .i64 y_3.1), .val (.string y_4.1), .val (.string y_5.1), .val (.int .i64 y_6.1.Alg), .val (.int .i64 y_6.1.Bits), .val (.int .i64 y_7.1), .val (.int .i64 y_8.1.Alg), .val (.int .i64 y_8.1.Bits), .val (.int .i64 y_9.1), .val (.int .i64 y_10.1), .val (.bool y_11.1), .val (.int .i64 y_12.1), .row 5, .val (.int .i64 0), .val (.int .i64 0)] 33), (4, .box (cipherplanref03_Reader.dv n_1) 109), (5, .row 9 1 (encL eS l_1))] 6) (fun (x51_2 : Bool) => g_ref03_From.j2 y_2 y_3 y_4 y_5 y_6 y_7 y_8 y_9 y_10 y_11 y_12 y_13 n_1 l_1 x51_2 = some o1) ?_ ?_
 ·refine awp_draw (sys _ _ []) (by kernel_rfl) [0, 1, 3, 7, 15, 31, 63, 127, 255, 31, 543, 1567, 3615, 7711, 16383, 32767] 6 134 mk_U rfl rfl (by kernel_rfl) ?_
  refine go2_ ?_
  rcases bc_ hg with ⟨h6, hg⟩ | ⟨h6, hg⟩
  ·refine go2_ ?_
   refine ch_n fun hU => ?_
   exact ⟨decide (n_1.At < (n_1.L.length : Int)), hg, sub_ [(0, 0), (1, 1), (2, 2), (3, 3), (4, 4), (5, 5)]⟩
  ·refine go2_ ?_
   refine ch_n fun hU => ?_
   exact ⟨false, hg, sub_ [(0, 0), (1, 1), (2, 2), (3, 3), (4, 4), (5, 5)]⟩
 ·rintro x51_2 hg
  replace hg : g_ref03_From.j2 y_2 y_3 y_4 y_5 y_6 y_7 y_8 y_9 y_10 y_11 y_12 y_13 n_1 l_1 x51_2 = some o1 := hg
  show awp _ _ _ _ (mk _ _ _)
  unfold g_ref03_From.j2 at hg
  refine cg_ rfl hg (fun h9 hg => ?_) fun h9 hg => ?_
  ·refine awp_skip ?_
   repeat first | refine st_ ?_ | refine sn_ ?_
   refine awp_block ?_
   refine awp_draw (sys _ _ []) (by kernel_rfl) [0, 1, 0, 4, 12, 31, 63, 127] 6 70 mk_U rfl rfl (by kernel_rfl) ?_
   refine go2_ ?_
   obtain ⟨y_14, hy_14, hg⟩ := bind_some hg
   refine cb2_ [4] [4] [] false (w_ref03_Reader_Text _ _ hy_14) ?_
   refine c0_ rfl rfl (r_buildFull sl29 z9 (by decide) rfl rfl rfl rfl ck9 (cs := [.str y_14.1]) (.cons .str .nil) rfl (l := ([y_14.1] : List ByteArray)) (f := eS) rfl) rfl rfl ?_
   obtain ⟨l, hl, hg⟩ := bind_some hg
   refine ch_s (rd := [5, 38]) rfl rfl (r_append sl29 eS_len .row rfl .row rfl hl rfl) rfl rfl ?_
   refine go2_ ?_
   refine ch_n fun hU => ?_
   obtain rfl := Option.some.inj hg
   exact ⟨((y_14.2, l), m1), Nat.lt_succ_self _, hn1, sub_ [(0, 0), (1, 1), (2, 2), (3, 3), (4, 4), (5, 46)]⟩
  ·refine awp_exit ?_
   repeat first | refine st_ ?_ | refine sn_ ?_
   replace hg := leave hg hn1
   refine sr_ 6 30 mk_U ?_
   refine go2_ ?_
   obtain ⟨y_15, hy_15, hg⟩ := bind_some hg
   refine ch_call (rd := [1]) (ps := [1]) (gs := []) false rfl (w_ref03_Reader_List _ _ hy_15) rfl rfl (.cons (.ptr rfl) .nil) ⟨_, _, _, rfl, .head _, ⟨_, rfl, (by repeat' (first | exact AgL.nil | apply AgL.cons | exact Ag.val | exact Ag.sl | exact Ag.nils | exact Ag.ptr rfl))⟩, rfl⟩ rfl (by intro h; cases h) rfl (by intro h; first | (cases h; done) | exact ⟨_, _, ⟨rfl, rfl⟩, by simp, by simp⟩) ?_
   rintro _ _ ⟨rfl, rfl⟩
   refine go2_ ?_
   refine ch_n fun hU => ?_
   refine sr_ 30 86 hU ?_
   refine go2_ ?_
   obtain ⟨y_16, hy_16, hg⟩ := bind_some hg
   refine cb2_ [14] [14] [] false (w_ref03_Reader_Int _ _ hy_16) ?_
   refine go2_ ?_
   obtain ⟨y_17, hy_17, hg⟩ := bind_some hg
   refine cb2_ [14] [14] [] false (w_ref03_Reader_Int _ _ hy_17) ?_
   refine c0_ rfl rfl (.build (r := [.val (.int .i64 y_16.1), .val (.int .i64 y_17.1)]) und31 pl31 z31 (by kernel_rfl) rfl) rfl rfl ?_
   refine go2_ ?_
   refine ch_n fun hU => ?_
   refine awp_seq ?_
   refine awp_draw (sys _ _ []) (by kernel_rfl) [0, 0, 2, 6, 14, 30, 62, 126, 254, 510, 1022, 2046, 4094, 8190, 16382, 16383, 65535] 86 222 hU rfl rfl (by kernel_rfl) ?_
   refine go2_ ?_
   obtain ⟨y_18, hy_18, hg⟩ := bind_some hg
   refine cb2_ [1] [1] [] false (w_ref03_Reader_End _ _ hy_18) ?_
   refine go2_ ?_
   rcases bc_ hg with ⟨h13, hg⟩ | ⟨h13, hg⟩
   ·refine go2_ ?_
    obtain ⟨y_19, hy_19, hg⟩ := bind_some hg
    refine cb2_ [2] [2] [] false (w_ref03_Reader_End _ _ hy_19) ?_
    refine go2_ ?_
    rcases bc_ hg with ⟨h14, hg⟩ | ⟨h14, hg⟩
    ·refine go2_ ?_
     obtain ⟨y_20, hy_20, hg⟩ := bind_some hg
     refine cb2_ [4] [4] [] false (w_ref03_Reader_End _ _ hy_20) ?_
     refine go2_ ?_
     rcases bc_ hg with ⟨h15, hg⟩ | ⟨h15, hg⟩
     ·refine go2_ ?_
      obtain ⟨y_21, hy_21, hg⟩ := bind_some hg
      refine cb2_ [14] [14] [] false (w_ref03_Reader_End _ _ hy_21) ?_
      refine go2_ ?_
      refine ch_n fun hU => ?_
      refine aw_r ?_
      obtain rfl := Option.some.inj hg
      exact fin_ [] ⟨rfl, rfl⟩
     ·refine go2_ ?_
      refine ch_n fun hU => ?_
      refine aw_r ?_
      obtain rfl := Option.some.inj hg
      exact fin_ [] ⟨rfl, rfl⟩
    ·refine go2_ ?_
     refine ch_n fun hU => ?_
     refine aw_r ?_
     obtain rfl := Option.some.inj hg
     exact fin_ [] ⟨rfl, rfl⟩
   ·refine go2_ ?_
    refine ch_n fun hU => ?_
    refine aw_r ?_
    obtain rfl := Option.some.inj hg
    exact fin_ [] ⟨rfl, rfl⟩
theorem w_ref03_Decode (b : (List UInt8)) (r : api_Certificate × Int) (hg : g_ref03_Decode b = some r) : Fn Tryz.prog 16 0 [.sl 1 (encL e8 b)] [] (fun d b => d = .tup [.agg (api_Certificate.dv r.1), .val (.int .i64 r.2)] ∧ b = []) := by
 unfold g_ref03_Decode at hg
 refine Fn.of Tryz.func16 rfl rfl rfl fun w0 I ρ0 => ?_
 show awp _ ⟨w0, I, ρ0, 0, 0, 30⟩ _ _ _
 refine sr_ 0 16 mk_U ?_
 refine go2_ ?_
 refine ch_n fun hU => ?_
 refine sr_ 16 80 hU ?_
 refine go2_ ?_
 obtain ⟨y, hy, hg⟩ := bind_some hg
 refine ca2_ (w_ref01_Decode _ _ hy) ?_
 refine go2_ ?_
 refine ch_n fun hU => ?_
 refine awp_seq ?_
 refine sr_ 80 96 hU ?_
 refine go2_ ?_
 refine ch_n fun hU => ?_
 refine cg_ rfl hg (fun h4 hg => ?_) fun h4 hg => ?_
 ·refine awp_seq ?_
  refine awp_region (sys _ _ []) 96 128 hU rfl rfl ?_
  refine c0_ rfl rfl (.build (r := [.val (.int .i64 0), .val (.string (⟨#[]⟩ : ByteArray)), .val (.string (⟨#[]⟩ : ByteArray)), .val (.int .i64 0), .val (.int .i64 0), .val (.int .i64 0), .val (.int .i64 0), .val (.int .i64 0), .val (.int .i64 0), .val (.int .i64 0), .val (.bool false), .val (.int .i64 0), .val (.slice none 0 0), .val (.int .i64 0), .val (.int .i64 0)]) und33 pl33 z33 (by kernel_rfl) rfl) rfl rfl ?_
  refine go2_ ?_
  refine ch_n fun hU => ?_
  refine aw_r ?_
  obtain rfl := Option.some.inj hg
  exact fin_ [] ⟨rfl, rfl⟩
 ·refine awp_skip ?_
  repeat first | refine st_ ?_ | refine sn_ ?_
  refine sr_ 96 160 hU ?_
  refine go2_ ?_
  obtain ⟨y_2, hy_2, hg⟩ := bind_some hg
  refine ca2_ (w_ref03_From _ _ hy_2) ?_
  refine go2_ ?_
  refine ch_n fun hU => ?_
  refine awp_seq ?_
  refine sr_ 160 176 hU ?_
  refine go2_ ?_
  refine ch_n fun hU => ?_
  refine cg_ rfl hg (fun h8 hg => ?_) fun h8 hg => ?_
  ·refine awp_seq ?_
   refine awp_region (sys _ _ []) 176 200 hU rfl rfl ?_
   refine c0_ rfl rfl (.build (r := [.val (.int .i64 0), .val (.string (⟨#[]⟩ : ByteArray)), .val (.string (⟨#[]⟩ : ByteArray)), .val (.int .i64 0), .val (.int .i64 0), .val (.int .i64 0), .val (.int .i64 0), .val (.int .i64 0), .val (.int .i64 0), .val (.int .i64 0), .val (.bool false), .val (.int .i64 0), .val (.slice none 0 0), .val (.int .i64 0), .val (.int .i64 0)]) und33 pl33 z33 (by kernel_rfl) rfl) rfl rfl ?_
   refine go2_ ?_
   refine ch_n fun hU => ?_
   refine aw_r ?_
   obtain rfl := Option.some.inj hg
   exact fin_ [] ⟨rfl, rfl⟩
  ·refine awp_skip ?_
   repeat first | refine st_ ?_ | refine sn_ ?_
   refine awp_seq ?_
   refine sr_ 176 200 hU ?_
   refine go2_ ?_
   obtain ⟨y_3, hy_3, hg⟩ := bind_some hg
   refine ca2_ (w_ref03_Check _ _ hy_3) ?_
   refine go2_ ?_
   refine ch_n fun hU => ?_
   refine cg_ rfl hg (fun h11 hg => ?_) fun h11 hg => ?_
   ·refine awp_seq ?_
    refine awp_region (sys _ _ []) 200 224 hU rfl rfl ?_
    refine c0_ rfl rfl (.build (r := [.val (.int .i64 0), .val (.string (⟨#[]⟩ : ByteArray)), .val (.string (⟨#[]⟩ : ByteArray)), .val (.int .i64 0), .val (.int .i64 0), .val (.int .i64 0), .val (.int .i64 0), .val (.int .i64 0), .val (.int .i64 0), .val (.int .i64 0), .val (.bool false), .val (.int .i64 0), .val (.slice none 0 0), .val (.int .i64 0), .val (.int .i64 0)]) und33 pl33 z33 (by kernel_rfl) rfl) rfl rfl ?_
    refine go2_ ?_
    refine ch_n fun hU => ?_
    refine aw_r ?_
    obtain rfl := Option.some.inj hg
    exact fin_ [] ⟨rfl, rfl⟩
   ·refine awp_skip ?_
    repeat first | refine st_ ?_ | refine sn_ ?_
    refine sr_ 200 224 hU ?_
    refine go2_ ?_
    refine ch_n fun hU => ?_
    refine aw_r ?_
    obtain rfl := Option.some.inj hg
    exact fin_ [] ⟨rfl, rfl⟩
theorem w_law03_CertificateBytes (l : (List Int)) (at' : Int) (by' : UInt8) (how : UInt8) (r : Bool) (hg : g_law03_CertificateBytes l at' by' how = some r) : Fn Tryz.prog 3 0 [.sl 1 (encL eI l), .val (.int .i64 at'), .val (.int .u8 (by'.toNat : Int)), .val (.int .u8 (how.toNat : Int))] [] (fun d b => d = .val (.bool r) ∧ b = []) := by
 unfold g_law03_CertificateBytes at hg
 refine Fn.of Tryz.func3 rfl rfl rfl fun w0 I ρ0 => ?_
 show awp _ ⟨w0, I, ρ0, 0, 0, 101⟩ _ _ _
 refine sr_ 0 8 mk_U ?_
 refine go2_ ?_
 refine ch_n fun hU => ?_
 refine awp_seq ?_
 refine sr_ 8 32 hU ?_
 refine go2_ ?_
 obtain ⟨y, hy, hg⟩ := bind_some hg
 refine ca2_ (w_make_Light _ _ hy) ?_
 refine go2_ ?_
 refine ch_n fun hU => ?_
 refine cg_ rfl hg (fun h3 hg => ?_) fun h3 hg => ?_
 ·refine awp_seq ?_
  refine awp_region (sys _ _ []) 32 48 hU rfl rfl ?_
  obtain ⟨y_2, hy_2, hg⟩ := bind_some hg
  refine ca2_ (w_law03_awake _ hy_2) ?_
  refine go2_ ?_
  refine ch_n fun hU => ?_
  refine aw_r ?_
  obtain rfl := Option.some.inj hg
  exact fin_ [] ⟨rfl, rfl⟩
 ·refine awp_skip ?_
  repeat first | refine st_ ?_ | refine sn_ ?_
  refine sr_ 32 56 hU ?_
  refine go2_ ?_
  obtain ⟨y_3, hy_3, hg⟩ := bind_some hg
  refine ch_call (rd := []) (ps := []) (gs := []) false rfl (w_make_Roll _ _ hy_3) rfl rfl (.cons .sl .nil) rfl rfl (by intro h; cases h) rfl (by intro h; first | (cases h; done) | exact ⟨_, _, ⟨rfl, rfl⟩, by simp, by simp⟩) ?_
  rintro _ _ ⟨rfl, rfl⟩
  refine go2_ ?_
  refine ch_n fun hU => ?_
  refine sr_ 56 88 hU ?_
  refine go2_ ?_
  obtain ⟨y_4, hy_4, hg⟩ := bind_some hg
  refine cb2_ [40] [40] [] false (w_law03_made _ _ hy_4) ?_
  refine go2_ ?_
  refine ch_n fun hU => ?_
  refine sr_ 88 144 hU ?_
  refine go2_ ?_
  obtain ⟨y_5, hy_5, hg⟩ := bind_some hg
  refine ch_call (rd := []) (ps := []) (gs := []) false rfl (w_ref03_Encode_own _ _ hy_5) rfl rfl (.cons (.agg (.cons .val (.cons .val (.cons .val (.cons .val (.cons .val (.cons .val (.cons .val (.cons .val (.cons .val (.cons .val (.cons .val (.cons .val (.cons .sl (.cons .val (.cons .val .nil)))))))))))))))) .nil) rfl rfl (by intro h; cases h) rfl (by intro h; first | (cases h; done) | exact ⟨_, _, ⟨rfl, rfl⟩, by simp, by simp⟩) ?_
  rintro _ _ ⟨rfl, rfl⟩
  refine go2_ ?_
  refine ch_n fun hU => ?_
  refine awp_cut (ι := List UInt8) (fun (b_1 : List UInt8) => mk [(1, .val (.int .i64 at')), (2, .val (.int .u8 (by'.toNat : Int))), (3, .val (.int .u8 (how.toNat : Int))), (11, .row 0)] [(0, .row 5 1 (encL e8 b_1))] 1) (fun (b_1 : List UInt8) => g_law03_CertificateBytes.j1 at' by' how b_1 = some r) ?_ ?_
  ·refine awp_seq ?_
   refine awp_region (sys _ _ []) 144 160 hU rfl rfl ?_
   refine go2_ ?_
   refine ch_n fun hU => ?_
   refine cg_ rfl hg (fun h9 hg => ?_) fun h9 hg => ?_
   ·refine awp_seq ?_
    refine awp_region (sys _ _ []) 160 192 hU rfl rfl ?_
    refine go2_ ?_
    obtain ⟨y_6, hy_6, hg⟩ := bind_some hg
    refine ca2_ (w_ref03_Element _ _ hy_6) ?_
    refine go2_ ?_
    refine ch_n fun hU => ?_
    refine awp_region (sys _ _ []) 192 240 hU rfl rfl ?_
    refine go2_ ?_
    obtain ⟨y_7, hy_7, hg⟩ := bind_some hg
    refine ch_call (rd := []) (ps := []) (gs := []) false rfl (w_ref01_Encode_own _ _ hy_7) rfl rfl (.cons (.agg (.cons .val (.cons .sl (.cons .val (.cons .sl .nil))))) .nil) rfl rfl (by intro h; cases h) rfl (by intro h; first | (cases h; done) | exact ⟨_, _, ⟨rfl, rfl⟩, by simp, by simp⟩) ?_
    rintro _ _ ⟨rfl, rfl⟩
    refine go2_ ?_
    refine ch_n fun hU => ?_
    exact ⟨y_7.1, hg, sub_ [(0, 200)]⟩
   ·refine awp_skip ?_
    repeat first | refine st_ ?_ | refine sn_ ?_
    exact ⟨y_5.1, hg, sub_ [(0, 96)]⟩
  ·rintro b_1 hg
   replace hg : g_law03_CertificateBytes.j1 at' by' how b_1 = some r := hg
   show awp _ _ _ _ (mk _ _ _)
   unfold g_law03_CertificateBytes.j1 at hg
   refine awp_cut (ι := List UInt8) (fun (b_2 : List UInt8) => mk [(11, .row 0)] [(0, .row 5 1 (encL e8 b_2))] 1) (fun (b_2 : List UInt8) => g_law03_CertificateBytes.j2 b_2 = some r) ?_ ?_
   ·refine awp_seq ?_
    refine awp_region (sys _ _ []) 1 25 mk_U rfl rfl ?_
    refine go2_ ?_
    refine ch_n fun hU => ?_
    refine cg_ rfl hg (fun h13 hg => ?_) fun h13 hg => ?_
    ·refine awp_seq ?_
     refine awp_region (sys _ _ []) 25 65 hU rfl rfl ?_
     refine go2_ ?_
     obtain ⟨y_8, hy_8, hg⟩ := bind_some hg
     refine ca2_ (w_make_Mod _ _ _ hy_8) ?_
     refine go2_ ?_
     refine ch_n fun hU => ?_
     refine sr_ 65 81 hU ?_
     refine go2_ ?_
     obtain ⟨q, hq, hg⟩ := bind_some hg
     refine c0_ rfl rfl (r_rem8 (a := how) (b := (4 : UInt8)) hq) rfl rfl ?_
     refine ch_n fun hU => ?_
     refine awp_block ?_
     refine sr_ 81 97 hU ?_
     refine go2_ ?_
     refine ch_n fun hU => ?_
     refine cg_ rfl hg (fun h17 hg => ?_) fun h17 hg => ?_
     ·refine awp_region (sys _ _ []) 97 137 hU rfl rfl ?_
      refine go2_ ?_
      obtain ⟨e, he, hg⟩ := bind_some hg
      refine go2_ ?_
      refine ch_s (rd := [0]) rfl rfl (r_storeR ty5 rfl (enc_cells_le e8_len (getI_at he) (o := 0) (m := 1) (by decide) rfl) ck5 (cs' := [.int .u8 (by'.toNat : Int)]) (.cons .int .nil) (enc_splice e8_len (getI_at he) (o := 0) (x' := by') (Nat.le_of_ble_eq_true rfl) rfl rfl)) rfl rfl ?_
      refine ch_n fun hU => ?_
      exact ⟨setI b_1 ((y_8).toNat) by', hg, sub_ [(0, 0)]⟩
     ·refine awp_seq ?_
      refine awp_region (sys _ _ []) 97 113 hU rfl rfl ?_
      refine go2_ ?_
      refine ch_n fun hU => ?_
      refine cg_ rfl hg (fun h20 hg => ?_) fun h20 hg => ?_
      ·refine awp_draw (sys _ _ []) (by kernel_rfl) [0, 0, 3, 0, 0, 16, 56, 127, 255] 113 185 hU rfl rfl (by kernel_rfl) ?_
       refine go2_ ?_
       obtain ⟨l_2, hl_2, hg⟩ := bind_some hg
       refine ch_s (rd := [0]) rfl rfl (r_sliR_hi sl35 e8_len hl_2) rfl rfl ?_
       refine go2_ ?_
       obtain ⟨l_3, hl_3, hg⟩ := bind_some hg
       refine ch_s (rd := [0]) rfl rfl (r_sliR_lo sl35 e8_len hl_3) rfl rfl ?_
       obtain ⟨l_4, hl_4, hg⟩ := bind_some hg
       refine ch_s (rd := [0, 0]) rfl rfl (r_append sl35 e8_len (.part (part_le0 e8_len (slI_le hl_2))) (enc_part0 e8_len _ _ (slI_le hl_2)) (.part (part_le e8_len (slI_le hl_3))) (enc_part e8_len _ _ _ (slI_le hl_3)) hl_4 rfl) rfl rfl ?_
       refine go2_ ?_
       refine ch_n fun hU => ?_
       exact ⟨l_4, hg, sub_ [(0, 169)]⟩
      ·refine awp_seq ?_
       refine awp_region (sys _ _ []) 113 129 hU rfl rfl ?_
       refine go2_ ?_
       refine ch_n fun hU => ?_
       refine cg_ rfl hg (fun h23 hg => ?_) fun h23 hg => ?_
       ·refine awp_draw (sys _ _ []) (by kernel_rfl) [0, 0, 0, 6, 15, 0, 32, 127, 0, 0, 768, 2047, 4095] 129 233 hU rfl rfl (by kernel_rfl) ?_
        refine c0_ rfl rfl (r_buildFull sl35 z5 (by decide) rfl rfl rfl rfl ck5 (cs := []) .nil rfl (l := ([] : List UInt8)) (f := e8) rfl) rfl rfl ?_
        refine go2_ ?_
        obtain ⟨l_5, hl_5, hg⟩ := bind_some hg
        refine ch_s (rd := [0]) rfl rfl (r_sliR_hi sl35 e8_len hl_5) rfl rfl ?_
        obtain ⟨l_6, hl_6, hg⟩ := bind_some hg
        refine ch_s (rd := [129, 0]) rfl rfl (r_append sl35 e8_len .row rfl (.part (part_le e8_len (slI_le hl_5))) (enc_part e8_len _ _ _ (slI_le hl_5)) hl_6 rfl) rfl rfl ?_
        refine go2_ ?_
        refine c0_ rfl rfl (r_buildFull sl35 z5 (by decide) rfl rfl rfl rfl ck5 (cs := [.int .u8 (by'.toNat : Int)]) (.cons .int .nil) rfl (l := ([by'] : List UInt8)) (f := e8) rfl) rfl rfl ?_
        obtain ⟨l_7, hl_7, hg⟩ := bind_some hg
        refine ch_s (rd := [161, 177]) rfl rfl (r_append sl35 e8_len .row rfl .row rfl hl_7 rfl) rfl rfl ?_
        refine go2_ ?_
        obtain ⟨l_8, hl_8, hg⟩ := bind_some hg
        refine ch_s (rd := [0]) rfl rfl (r_sliR_lo sl35 e8_len hl_8) rfl rfl ?_
        obtain ⟨l_9, hl_9, hg⟩ := bind_some hg
        refine ch_s (rd := [185, 0]) rfl rfl (r_append sl35 e8_len .row rfl (.part (part_le e8_len (slI_le hl_8))) (enc_part e8_len _ _ _ (slI_le hl_8)) hl_9 rfl) rfl rfl ?_
        refine go2_ ?_
        refine ch_n fun hU => ?_
        exact ⟨l_9, hg, sub_ [(0, 217)]⟩
       ·refine awp_skip ?_
        repeat first | refine st_ ?_ | refine sn_ ?_
        exact ⟨b_1, hg, sub_ [(0, 0)]⟩
    ·refine awp_skip ?_
     repeat first | refine st_ ?_ | refine sn_ ?_
     exact ⟨b_1, hg, sub_ [(0, 0)]⟩
   ·rintro b_2 hg
    replace hg : g_law03_CertificateBytes.j2 b_2 = some r := hg
    show awp _ _ _ _ (mk _ _ _)
    unfold g_law03_CertificateBytes.j2 at hg
    refine awp_seq ?_
    refine awp_sub (σ' := mk [(11, .sl 1 (encL e8 b_2))] [] 0) (sub_ []) ?_
    refine awp_region (sys _ _ []) 0 64 mk_U rfl rfl ?_
    refine go2_ ?_
    obtain ⟨y_9, hy_9, hg⟩ := bind_some hg
    refine ca2_ (w_certificate_Decode _ _ hy_9) ?_
    refine go2_ ?_
    refine ch_n fun hU => ?_
    refine sr_ 64 128 hU ?_
    refine go2_ ?_
    obtain ⟨y_10, hy_10, hg⟩ := bind_some hg
    refine ca2_ (w_ref03_Decode _ _ hy_10) ?_
    refine go2_ ?_
    refine ch_n fun hU => ?_
    refine sr_ 128 224 hU ?_
    refine go2_ ?_
    rcases bc_ hg with ⟨h27, hg⟩ | ⟨h27, hg⟩
    ·refine go2_ ?_
     obtain ⟨y_11, hy_11, hg⟩ := bind_some hg
     refine ca2_ (w_ref03_Same _ _ _ hy_11) ?_
     refine go2_ ?_
     rcases bc_ hg with ⟨h28, hg⟩ | ⟨h28, hg⟩
     ·obtain ⟨y_12, hy_12, hg⟩ := bind_some hg
      refine ca2_ (w_law03_awake _ hy_12) ?_
      refine go2_ ?_
      refine ch_n fun hU => ?_
      refine aw_r ?_
      obtain rfl := Option.some.inj hg
      exact fin_ [] ⟨rfl, rfl⟩
     ·refine go2_ ?_
      refine ch_n fun hU => ?_
      refine aw_r ?_
      obtain rfl := Option.some.inj hg
      exact fin_ [] ⟨rfl, rfl⟩
    ·refine go2_ ?_
     refine ch_n fun hU => ?_
     refine aw_r ?_
     obtain rfl := Option.some.inj hg
     exact fin_ [] ⟨rfl, rfl⟩
theorem w_law03_CertificateBack (l : (List Int)) (key : UInt8) (r : Bool) (hg : g_law03_CertificateBack l key = some r) : Fn Tryz.prog 6 0 [.sl 1 (encL eI l), .val (.int .u8 (key.toNat : Int))] [] (fun d b => d = .val (.bool r) ∧ b = []) := by
 unfold g_law03_CertificateBack at hg
 refine Fn.of Tryz.func6 rfl rfl rfl fun w0 I ρ0 => ?_
 show awp _ ⟨w0, I, ρ0, 0, 0, 113⟩ _ _ _
 refine sr_ 0 8 mk_U ?_
 refine go2_ ?_
 refine ch_n fun hU => ?_
 refine awp_seq ?_
 refine sr_ 8 32 hU ?_
 refine go2_ ?_
 obtain ⟨y, hy, hg⟩ := bind_some hg
 refine ca2_ (w_make_Light _ _ hy) ?_
 refine go2_ ?_
 refine ch_n fun hU => ?_
 refine cg_ rfl hg (fun h3 hg => ?_) fun h3 hg => ?_
 ·refine awp_seq ?_
  refine awp_region (sys _ _ []) 32 48 hU rfl rfl ?_
  obtain ⟨y_2, hy_2, hg⟩ := bind_some hg
  refine ca2_ (w_law03_awake _ hy_2) ?_
  refine go2_ ?_
  refine ch_n fun hU => ?_
  refine aw_r ?_
  obtain rfl := Option.some.inj hg
  exact fin_ [] ⟨rfl, rfl⟩
 ·refine awp_skip ?_
  repeat first | refine st_ ?_ | refine sn_ ?_
  refine sr_ 32 56 hU ?_
  refine go2_ ?_
  obtain ⟨y_3, hy_3, hg⟩ := bind_some hg
  refine ch_call (rd := []) (ps := []) (gs := []) false rfl (w_make_Roll _ _ hy_3) rfl rfl (.cons .sl .nil) rfl rfl (by intro h; cases h) rfl (by intro h; first | (cases h; done) | exact ⟨_, _, ⟨rfl, rfl⟩, by simp, by simp⟩) ?_
  rintro _ _ ⟨rfl, rfl⟩
  refine go2_ ?_
  refine ch_n fun hU => ?_
  refine sr_ 56 136 hU ?_
  refine go2_ ?_
  obtain ⟨y_4, hy_4, hg⟩ := bind_some hg
  refine cb2_ [40] [40] [] false (w_make_Key _ _ hy_4) ?_
  refine go2_ ?_
  obtain ⟨y_5, hy_5, hg⟩ := bind_some hg
  refine cb2_ [40] [40] [] false (w_make_Dice_Next _ _ _ hy_5) ?_
  refine go2_ ?_
  obtain ⟨y_6, hy_6, hg⟩ := bind_some hg
  refine cb2_ [40] [40] [] false (w_make_Dice_One _ _ _ hy_6) ?_
  obtain ⟨y_7, hy_7, hg⟩ := bind_some hg
  refine cb2_ [40] [40] [] false (w_make_Certificate _ _ _ _ _ _ _ _ hy_7) ?_
  refine go2_ ?_
  refine ch_n fun hU => ?_
  refine sr_ 136 216 hU ?_
  refine go2_ ?_
  refine c0_ rfl rfl (r_conv_8i (u := key) und5 und3) rfl rfl ?_
  obtain ⟨y_8, hy_8, hg⟩ := bind_some hg
  refine ca2_ (w_certificate_Sign _ _ _ hy_8) ?_
  refine go2_ ?_
  refine ch_n fun hU => ?_
  refine sr_ 216 272 hU ?_
  refine go2_ ?_
  obtain ⟨y_9, hy_9, hg⟩ := bind_some hg
  refine ca2_ (w_certificate_Encode _ _ hy_9) ?_
  refine go2_ ?_
  refine ch_n fun hU => ?_
  refine sr_ 272 336 hU ?_
  refine go2_ ?_
  obtain ⟨y_10, hy_10, hg⟩ := bind_some hg
  refine ca2_ (w_certificate_Decode _ _ hy_10) ?_
  refine go2_ ?_
  refine ch_n fun hU => ?_
  refine awp_seq ?_
  refine awp_cut (ι := Bool) (fun (x75_1 : Bool) => mk [(1, .val (.int .u8 (key.toNat : Int))), (6, .ptr 0 0), (7, .ptr 1 0), (75, .val (.bool x75_1))] [(0, .box (api_Certificate.dv y_7.1) 33), (1, .box (api_Certificate.dv y_8.1) 33)] 2) (fun (x75_1 : Bool) => g_law03_CertificateBack.j1 key y_7 y_8 x75_1 = some r) ?_ ?_
  ·refine awp_region (sys _ _ []) 336 576 hU rfl rfl ?_
   refine go2_ ?_
   rcases bc_ hg with ⟨h10, hg⟩ | ⟨h10, hg⟩
   ·refine go2_ ?_
    refine ch_n fun hU => ?_
    exact ⟨true, hg, sub_ [(0, 120), (1, 192)]⟩
   ·refine go2_ ?_
    rcases bc_ hg with ⟨h12, hg⟩ | ⟨h12, hg⟩
    ·refine go2_ ?_
     refine ch_n fun hU => ?_
     exact ⟨true, hg, sub_ [(0, 120), (1, 192)]⟩
    ·refine go2_ ?_
     rcases bc_ hg with ⟨h14, hg⟩ | ⟨h14, hg⟩
     ·refine go2_ ?_
      refine ch_n fun hU => ?_
      exact ⟨true, hg, sub_ [(0, 120), (1, 192)]⟩
     ·refine go2_ ?_
      obtain ⟨y_11, hy_11, hg⟩ := bind_some hg
      refine ca2_ (w_certificate_Same _ _ _ hy_11) ?_
      refine go2_ ?_
      rcases bc_ hg with ⟨h16, hg⟩ | ⟨h16, hg⟩
      ·refine go2_ ?_
       refine ch_n fun hU => ?_
       exact ⟨true, hg, sub_ [(0, 120), (1, 192)]⟩
      ·refine go2_ ?_
       refine c0_ (gdv_t rfl rfl h16) rfl (r_conv_8i (u := key) und5 und3) rfl rfl ?_
       obtain ⟨y_12, hy_12, hg⟩ := bind_some hg
       refine ca2_ (w_certificate_Sealed _ _ _ hy_12) ?_
       refine go2_ ?_
       rcases bc_ hg with ⟨h18, hg⟩ | ⟨h18, hg⟩
       ·refine go2_ ?_
        refine ch_n fun hU => ?_
        exact ⟨true, hg, sub_ [(0, 120), (1, 192)]⟩
       ·refine go2_ ?_
        refine c0_ (gdv_t rfl rfl h18) rfl (r_conv_8i (u := key) und5 und3) rfl rfl ?_
        refine go2_ ?_
        obtain ⟨y_13, hy_13, hg⟩ := bind_some hg
        refine ca2_ (w_certificate_Sealed _ _ _ hy_13) ?_
        refine go2_ ?_
        refine ch_n fun hU => ?_
        exact ⟨y_13, hg, sub_ [(0, 120), (1, 192)]⟩
  ·rintro x75_1 hg
   replace hg : g_law03_CertificateBack.j1 key y_7 y_8 x75_1 = some r := hg
   show awp _ _ _ _ (mk _ _ _)
   unfold g_law03_CertificateBack.j1 at hg
   refine cg_ rfl hg (fun h21 hg => ?_) fun h21 hg => ?_
   ·refine awp_seq ?_
    refine awp_region (sys _ _ []) 2 10 mk_U rfl rfl ?_
    refine go2_ ?_
    refine ch_n fun hU => ?_
    refine aw_r ?_
    obtain rfl := Option.some.inj hg
    exact fin_ [] ⟨rfl, rfl⟩
   ·refine awp_skip ?_
    repeat first | refine st_ ?_ | refine sn_ ?_
    refine sr_ 2 26 mk_U ?_
    refine go2_ ?_
    refine ch_n fun hU => ?_
    refine sr_ 26 114 hU ?_
    refine go2_ ?_
    obtain ⟨q, hq, hg⟩ := bind_some hg
    refine c0_ rfl rfl (r_quo hq) rfl rfl ?_
    refine go2_ ?_
    obtain ⟨q_2, hq_2, hg⟩ := bind_some hg
    refine c0_ rfl rfl (r_rem hq_2) rfl rfl ?_
    refine go2_ ?_
    refine ch_n fun hU => ?_
    refine sr_ 114 138 hU ?_
    refine go2_ ?_
    refine ch_n fun hU => ?_
    refine sr_ 138 162 hU ?_
    refine go2_ ?_
    refine ch_n fun hU => ?_
    refine sr_ 162 354 hU ?_
    refine go2_ ?_
    refine c0_ rfl rfl (r_conv_8i (u := key) und5 und3) rfl rfl ?_
    obtain ⟨y_14, hy_14, hg⟩ := bind_some hg
    refine ca2_ (w_certificate_Sealed _ _ _ hy_14) ?_
    refine go2_ ?_
    rcases bc_ hg with ⟨h27, hg⟩ | ⟨h27, hg⟩
    ·refine go2_ ?_
     obtain ⟨y_15, hy_15, hg⟩ := bind_some hg
     refine ca2_ (w_certificate_Check _ _ hy_15) ?_
     refine go2_ ?_
     rcases bc_ hg with ⟨h28, hg⟩ | ⟨h28, hg⟩
     ·refine go2_ ?_
      obtain ⟨y_16, hy_16, hg⟩ := bind_some hg
      refine ca2_ (w_ref02_Valid _ _ hy_16) ?_
      refine go2_ ?_
      rcases bc_ hg with ⟨h29, hg⟩ | ⟨h29, hg⟩
      ·refine go2_ ?_
       obtain ⟨y_17, hy_17, hg⟩ := bind_some hg
       refine ca2_ (w_law03_awake _ hy_17) ?_
       refine go2_ ?_
       refine ch_n fun hU => ?_
       refine aw_r ?_
       obtain rfl := Option.some.inj hg
       exact fin_ [] ⟨rfl, rfl⟩
      ·refine go2_ ?_
       obtain ⟨y_18, hy_18, hg⟩ := bind_some hg
       refine ca2_ (w_certificate_Check _ _ hy_18) ?_
       refine go2_ ?_
       rcases bc_ hg with ⟨h31, hg⟩ | ⟨h31, hg⟩
       ·obtain ⟨y_19, hy_19, hg⟩ := bind_some hg
        refine ca2_ (w_law03_awake _ hy_19) ?_
        refine go2_ ?_
        refine ch_n fun hU => ?_
        refine aw_r ?_
        obtain rfl := Option.some.inj hg
        exact fin_ [] ⟨rfl, rfl⟩
       ·refine go2_ ?_
        refine ch_n fun hU => ?_
        refine aw_r ?_
        obtain rfl := Option.some.inj hg
        exact fin_ [] ⟨rfl, rfl⟩
     ·refine go2_ ?_
      refine ch_n fun hU => ?_
      refine aw_r ?_
      obtain rfl := Option.some.inj hg
      exact fin_ [] ⟨rfl, rfl⟩
    ·refine go2_ ?_
     refine ch_n fun hU => ?_
     refine aw_r ?_
     obtain rfl := Option.some.inj hg
     exact fin_ [] ⟨rfl, rfl⟩
end Go.Proofs.YtlcfdnjokgbccaaGreat
