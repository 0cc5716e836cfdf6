/- The program computes the plain functions. -/
import Derived.Test.YtlcfdnjokgbccaaGreatT1
import Derived.Test.YtlcfdnjokgbccaaGreatEG
import Derived.Test.YtlcfdnjokgbccaaGreatA1
import Derived.Test.YtlcfdnjokgbccaaGreatA4
import Derived.Test.YtlcfdnjokgbccaaGreatA6
import Derived.Test.YtlcfdnjokgbccaaGreatA7
set_option linter.unusedVariables false
set_option linter.unusedSimpArgs false
set_option maxRecDepth 100000
set_option maxHeartbeats 1600000
namespace Go.Proofs.YtlcfdnjokgbccaaGreat
open Go.RowKit
theorem w_law03_CertificateMade (l : (List Int)) (raw : api_Certificate) (key : Int) (r : Bool) (hg : g_law03_CertificateMade l raw key = some r) : Fn Tryz.prog 5 0 [.sl 1 (encL eI l), .agg (api_Certificate.dv raw), .val (.int .i64 key)] [] (fun d b => d = .val (.bool r) ∧ b = []) := by
 unfold g_law03_CertificateMade at hg
 refine Fn.of Tryz.func5 rfl rfl rfl fun w0 I ρ0 => ?_
 show awp _ ⟨w0, I, ρ0, 0, 0, 68⟩ _ _ _
 refine sr_ 0 16 mk_U ?_
 refine go2_ ?_
 refine ch_n fun hU => ?_
 refine awp_seq ?_
 refine awp_cut (ι := Bool) (fun (x28_1 : Bool) => mk [(0, .sl 1 (encL eI l)), (2, .val (.int .i64 key)), (4, .ptr 0 0), (28, .val (.bool x28_1))] [(0, .box (api_Certificate.dv raw) 33)] 1) (fun (x28_1 : Bool) => g_law03_CertificateMade.j1 l raw key x28_1 = some r) ?_ ?_
 ·refine awp_region (sys _ _ []) 16 168 hU rfl rfl ?_
  refine go2_ ?_
  obtain ⟨y, hy, hg⟩ := bind_some hg
  refine ca2_ (w_make_Light _ _ hy) ?_
  refine go2_ ?_
  rcases bc_ hg with ⟨h2, hg⟩ | ⟨h2, hg⟩
  ·refine go2_ ?_
   refine ch_n fun hU => ?_
   exact ⟨true, hg, sub_ [(0, 0)]⟩
  ·refine go2_ ?_
   refine c0_ (gdv_t rfl rfl h2) rfl (r_lenT und9) rfl rfl ?_
   refine go2_ ?_
   refine c0_ (gdv_t rfl rfl h2) rfl (r_lenT und9) rfl rfl ?_
   refine go2_ ?_
   rcases bc_ hg with ⟨h4, hg⟩ | ⟨h4, hg⟩
   ·refine go2_ ?_
    refine ch_n fun hU => ?_
    exact ⟨true, hg, sub_ [(0, 0)]⟩
   ·refine go2_ ?_
    refine ch_n fun hU => ?_
    exact ⟨decide (30 < (raw.Names.length : Int)), hg, sub_ [(0, 0)]⟩
 ·rintro x28_1 hg
  replace hg : g_law03_CertificateMade.j1 l raw key x28_1 = some r := hg
  show awp _ _ _ _ (mk _ _ _)
  unfold g_law03_CertificateMade.j1 at hg
  refine cg_ rfl hg (fun h7 hg => ?_) fun h7 hg => ?_
  ·refine awp_seq ?_
   refine awp_region (sys _ _ []) 1 17 mk_U rfl rfl ?_
   obtain ⟨y_2, hy_2, hg⟩ := bind_some hg
   refine ca2_ (w_law03_awake _ hy_2) ?_
   refine go2_ ?_
   refine ch_n fun hU => ?_
   refine aw_r ?_
   obtain rfl := Option.some.inj hg
   exact fin_ [] ⟨rfl, rfl⟩
  ·refine awp_skip ?_
   repeat first | refine st_ ?_ | refine sn_ ?_
   refine sr_ 1 25 mk_U ?_
   refine go2_ ?_
   obtain ⟨y_3, hy_3, hg⟩ := bind_some hg
   refine ch_call (rd := []) (ps := []) (gs := []) false rfl (w_make_Roll _ _ hy_3) rfl rfl (.cons .sl .nil) rfl rfl (by intro h; cases h) rfl (by intro h; first | (cases h; done) | exact ⟨_, _, ⟨rfl, rfl⟩, by simp, by simp⟩) ?_
   rintro _ _ ⟨rfl, rfl⟩
   refine go2_ ?_
   refine ch_n fun hU => ?_
   refine sr_ 25 89 hU ?_
   refine go2_ ?_
   obtain ⟨y_4, hy_4, hg⟩ := bind_some hg
   refine cb2_ [9] [9] [] false (w_law03_made _ _ hy_4) ?_
   refine go2_ ?_
   obtain ⟨y_5, hy_5, hg⟩ := bind_some hg
   refine cb2_ [9] [9] [] false (w_law03_made _ _ hy_5) ?_
   refine go2_ ?_
   refine ch_n fun hU => ?_
   refine awp_seq ?_
   refine awp_draw (sys _ _ []) (by kernel_rfl) [0, 0, 2, 7, 15, 31, 31, 127, 255, 511, 1023, 1023, 3071, 8191, 16383, 32767, 65535, 65535, 262143, 65535, 65535, 2097151, 4194303, 8388607, 16777215, 33554431, 33554431, 134217727, 268435455, 536870911, 1073741823, 2147483647, 4294967295] 89 353 hU rfl rfl (by kernel_rfl) ?_
   refine go2_ ?_
   obtain ⟨y_6, hy_6, hg⟩ := bind_some hg
   refine ca2_ (w_make_Mod _ _ _ hy_6) ?_
   obtain ⟨y_7, hy_7, hg⟩ := bind_some hg
   refine ca2_ (w_law03_agree _ _ _ hy_7) ?_
   refine go2_ ?_
   rcases bc_ hg with ⟨h11, hg⟩ | ⟨h11, hg⟩
   ·refine go2_ ?_
    obtain ⟨y_8, hy_8, hg⟩ := bind_some hg
    refine ca2_ (w_law03_agree _ _ _ hy_8) ?_
    refine go2_ ?_
    rcases bc_ hg with ⟨h12, hg⟩ | ⟨h12, hg⟩
    ·refine go2_ ?_
     obtain ⟨y_9, hy_9, hg⟩ := bind_some hg
     refine ca2_ (w_make_Mod _ _ _ hy_9) ?_
     obtain ⟨y_10, hy_10, hg⟩ := bind_some hg
     refine ca2_ (w_law03_agree _ _ _ hy_10) ?_
     refine go2_ ?_
     rcases bc_ hg with ⟨h13, hg⟩ | ⟨h13, hg⟩
     ·refine go2_ ?_
      obtain ⟨y_11, hy_11, hg⟩ := bind_some hg
      refine ca2_ (w_certificate_Same _ _ _ hy_11) ?_
      refine go2_ ?_
      obtain ⟨y_12, hy_12, hg⟩ := bind_some hg
      refine ca2_ (w_ref03_Same _ _ _ hy_12) ?_
      refine c0_ (gdv_t rfl rfl h13) rfl (r_beql und4) rfl rfl ?_
      refine go2_ ?_
      rcases bc_ hg with ⟨h14, hg⟩ | ⟨h14, hg⟩
      ·refine go2_ ?_
       obtain ⟨y_13, hy_13, hg⟩ := bind_some hg
       refine ca2_ (w_certificate_Same _ _ _ hy_13) ?_
       refine go2_ ?_
       rcases bc_ hg with ⟨h15, hg⟩ | ⟨h15, hg⟩
       ·obtain ⟨y_14, hy_14, hg⟩ := bind_some hg
        refine ca2_ (w_law03_awake _ hy_14) ?_
        refine go2_ ?_
        refine ch_n fun hU => ?_
        refine aw_r ?_
        obtain rfl := Option.some.inj hg
        exact fin_ [] ⟨rfl, rfl⟩
       ·refine go2_ ?_
        refine ch_n fun hU => ?_
        refine aw_r ?_
        obtain rfl := Option.some.inj hg
        exact fin_ [] ⟨rfl, rfl⟩
      ·refine go2_ ?_
       refine ch_n fun hU => ?_
       refine aw_r ?_
       obtain rfl := Option.some.inj hg
       exact fin_ [] ⟨rfl, rfl⟩
     ·refine go2_ ?_
      refine ch_n fun hU => ?_
      refine aw_r ?_
      obtain rfl := Option.some.inj hg
      exact fin_ [] ⟨rfl, rfl⟩
    ·refine go2_ ?_
     refine ch_n fun hU => ?_
     refine aw_r ?_
     obtain rfl := Option.some.inj hg
     exact fin_ [] ⟨rfl, rfl⟩
   ·refine go2_ ?_
    refine ch_n fun hU => ?_
    refine aw_r ?_
    obtain rfl := Option.some.inj hg
    exact fin_ [] ⟨rfl, rfl⟩
theorem w_ref01_head (b : (List UInt8)) (at' : Int) (r : Int × Int × Int × Bool) (hg : g_ref01_head b at' = some r) : Fn Tryz.prog 116 0 [.sl 1 (encL e8 b), .val (.int .i64 at')] [] (fun d b => d = .tup [.val (.int .i64 r.1), .val (.int .i64 r.2.1), .val (.int .i64 r.2.2.1), .val (.bool r.2.2.2)] ∧ b = []) := by
 unfold g_ref01_head at hg
 refine Fn.of Tryz.func116 rfl rfl rfl fun w0 I ρ0 => ?_
 show awp _ ⟨w0, I, ρ0, 0, 0, 94⟩ _ _ _
 refine sr_ 0 32 mk_U ?_
 refine go2_ ?_
 refine ch_n fun hU => ?_
 refine awp_seq ?_
 refine awp_cut (ι := Bool) (fun (x25_1 : Bool) => mk [(0, .sl 1 (encL e8 b)), (1, .val (.int .i64 at')), (25, .val (.bool x25_1))] [] 0) (fun (x25_1 : Bool) => g_ref01_head.j1 b at' x25_1 = some r) ?_ ?_
 ·refine awp_region (sys _ _ []) 32 144 hU rfl rfl ?_
  refine go2_ ?_
  rcases bc_ hg with ⟨h2, hg⟩ | ⟨h2, hg⟩
  ·refine go2_ ?_
   refine ch_n fun hU => ?_
   exact ⟨true, hg, sub_ []⟩
  ·refine go2_ ?_
   obtain ⟨e, he, hg⟩ := bind_some hg
   refine go2_ ?_
   refine c0_ (gdv_t rfl rfl h2) rfl (r_loadE1 ty5 (enc_cell e8_len (getI_at he) (o := 0) (c := .int .u8 (e.toNat : Int)) rfl rfl)) rfl rfl ?_
   refine c0_ (gdv_t rfl rfl h2) rfl (r_conv_8i (u := e) und5 und3) rfl rfl ?_
   obtain ⟨y, hy, hg⟩ := bind_some hg
   refine ca2_ (w_ref01_tag _ _ hy) ?_
   refine go2_ ?_
   refine ch_n fun hU => ?_
   exact ⟨!y, hg, sub_ []⟩
 ·rintro x25_1 hg
  replace hg : g_ref01_head.j1 b at' x25_1 = some r := hg
  show awp _ _ _ _ (mk _ _ _)
  unfold g_ref01_head.j1 at hg
  refine cg_ rfl hg (fun h5 hg => ?_) fun h5 hg => ?_
  ·refine awp_seq ?_
   refine awp_region (sys _ _ []) 0 32 mk_U rfl rfl ?_
   refine go2_ ?_
   refine ch_n fun hU => ?_
   refine aw_r ?_
   obtain rfl := Option.some.inj hg
   exact fin_ [] ⟨rfl, rfl⟩
  ·refine awp_skip ?_
   repeat first | refine st_ ?_ | refine sn_ ?_
   refine sr_ 0 80 mk_U ?_
   refine go2_ ?_
   obtain ⟨e_2, he_2, hg⟩ := bind_some hg
   refine go2_ ?_
   refine c0_ rfl rfl (r_loadE1 ty5 (enc_cell e8_len (getI_at he_2) (o := 0) (c := .int .u8 (e_2.toNat : Int)) rfl rfl)) rfl rfl ?_
   refine c0_ rfl rfl (r_conv_8i (u := e_2) und5 und3) rfl rfl ?_
   refine go2_ ?_
   refine ch_n fun hU => ?_
   refine awp_cut (ι := Int × Int) (fun ((n_4, from_4) : Int × Int) => mk [(0, .sl 1 (encL e8 b)), (1, .val (.int .i64 at')), (8, .val (.int .i64 n_4)), (9, .val (.int .i64 from_4))] [] 0) (fun ((n_4, from_4) : Int × Int) => g_ref01_head.j4 b at' n_4 from_4 = some r) ?_ ?_
   ·refine awp_seq ?_
    refine awp_region (sys _ _ []) 80 96 hU rfl rfl ?_
    refine go2_ ?_
    refine ch_n fun hU => ?_
    refine cg_ rfl hg (fun h9 hg => ?_) fun h9 hg => ?_
    ·refine awp_seq ?_
     refine awp_region (sys _ _ []) 96 120 hU rfl rfl ?_
     refine go2_ ?_
     refine ch_n fun hU => ?_
     refine awp_seq ?_
     refine awp_cut (ι := Bool) (fun (x58_2 : Bool) => mk [(0, .sl 1 (encL e8 b)), (1, .val (.int .i64 at')), (9, .val (.int .i64 (W (at' + 2)))), (10, .val (.int .i64 (W ((e_2.toNat : Int) - 128)))), (58, .val (.bool x58_2))] [] 0) (fun (x58_2 : Bool) => g_ref01_head.j2 b at' e_2 x58_2 = some r) ?_ ?_
     ·refine awp_region (sys _ _ []) 120 288 hU rfl rfl ?_
      refine go2_ ?_
      rcases bc_ hg with ⟨h11, hg⟩ | ⟨h11, hg⟩
      ·refine go2_ ?_
       refine ch_n fun hU => ?_
       exact ⟨true, hg, sub_ []⟩
      ·refine go2_ ?_
       rcases bc_ hg with ⟨h13, hg⟩ | ⟨h13, hg⟩
       ·refine go2_ ?_
        refine ch_n fun hU => ?_
        exact ⟨true, hg, sub_ []⟩
       ·refine go2_ ?_
        rcases bc_ hg with ⟨h15, hg⟩ | ⟨h15, hg⟩
        ·refine go2_ ?_
         refine ch_n fun hU => ?_
         exact ⟨true, hg, sub_ []⟩
        ·refine go2_ ?_
         obtain ⟨e_3, he_3, hg⟩ := bind_some hg
         refine go2_ ?_
         refine c0_ (gdv_t rfl rfl h15) rfl (r_loadE1 ty5 (enc_cell e8_len (getI_at he_3) (o := 0) (c := .int .u8 (e_3.toNat : Int)) rfl rfl)) rfl rfl ?_
         refine go2_ ?_
         refine ch_n fun hU => ?_
         exact ⟨decide ((e_3.toNat : Int) = 0), hg, sub_ []⟩
     ·rintro x58_2 hg
      replace hg : g_ref01_head.j2 b at' e_2 x58_2 = some r := hg
      show awp _ _ _ _ (mk _ _ _)
      unfold g_ref01_head.j2 at hg
      refine cg_ rfl hg (fun h18 hg => ?_) fun h18 hg => ?_
      ·refine awp_seq ?_
       refine awp_region (sys _ _ []) 0 32 mk_U rfl rfl ?_
       refine go2_ ?_
       refine ch_n fun hU => ?_
       refine aw_r ?_
       obtain rfl := Option.some.inj hg
       exact fin_ [] ⟨rfl, rfl⟩
      ·refine awp_skip ?_
       repeat first | refine st_ ?_ | refine sn_ ?_
       refine sr_ 0 8 mk_U ?_
       refine go2_ ?_
       refine ch_n fun hU => ?_
       refine awp_seq ?_
       refine sr_ 8 16 hU ?_
       refine go2_ ?_
       refine ch_n fun hU => ?_
       refine awp_block ?_
       refine lp_ (fun ((n_3, i_3) : Int × Int) => mk [(0, .sl 1 (encL e8 b)), (1, .val (.int .i64 at')), (8, .val (.int .i64 n_3)), (9, .val (.int .i64 (W (at' + 2)))), (10, .val (.int .i64 (W ((e_2.toNat : Int) - 128)))), (11, .val (.int .i64 i_3))] [] 0) hg (sub_ []) ?_
       rintro ⟨n_3, i_3⟩ m3 o3 hg hn3
       replace hg : g_ref01_head.l3 b at' e_2 n_3 i_3 = some o3 := hg
       show awp _ _ _ _ (mk _ _ _)
       unfold g_ref01_head.l3 at hg
       refine awp_seq ?_
       refine sr_ 0 24 mk_U ?_
       refine go2_ ?_
       refine ch_n fun hU => ?_
       refine cg_ rfl hg (fun h23 hg => ?_) fun h23 hg => ?_
       ·refine awp_skip ?_
        repeat first | refine st_ ?_ | refine sn_ ?_
        refine awp_seq ?_
        refine awp_block ?_
        refine awp_region (sys _ _ []) 24 112 hU rfl rfl ?_
        refine go2_ ?_
        obtain ⟨e_4, he_4, hg⟩ := bind_some hg
        refine go2_ ?_
        refine c0_ rfl rfl (r_loadE1 ty5 (enc_cell e8_len (getI_at he_4) (o := 0) (c := .int .u8 (e_4.toNat : Int)) rfl rfl)) rfl rfl ?_
        refine c0_ rfl rfl (r_conv_8i (u := e_4) und5 und3) rfl rfl ?_
        refine go2_ ?_
        refine ch_n fun hU => ?_
        refine awp_region (sys _ _ []) 112 136 hU rfl rfl ?_
        refine go2_ ?_
        refine ch_n fun hU => ?_
        obtain rfl := Option.some.inj hg
        exact ⟨((W ((W (n_3 * 256)) + (e_4.toNat : Int)), W (i_3 + 1)), m3), Nat.lt_succ_self _, hn3, sub_ []⟩
       ·refine awp_exit ?_
        repeat first | refine st_ ?_ | refine sn_ ?_
        replace hg := leave hg hn3
        refine sr_ 24 56 hU ?_
        refine go2_ ?_
        refine ch_n fun hU => ?_
        refine sr_ 56 72 hU ?_
        refine go2_ ?_
        refine ch_n fun hU => ?_
        refine cg_ rfl hg (fun h28 hg => ?_) fun h28 hg => ?_
        ·refine awp_seq ?_
         refine awp_region (sys _ _ []) 72 104 hU rfl rfl ?_
         refine go2_ ?_
         refine ch_n fun hU => ?_
         refine aw_r ?_
         obtain rfl := Option.some.inj hg
         exact fin_ [] ⟨rfl, rfl⟩
        ·refine awp_skip ?_
         repeat first | refine st_ ?_ | refine sn_ ?_
         exact ⟨(n_3, W ((W (at' + 2)) + (W ((e_2.toNat : Int) - 128)))), hg, sub_ []⟩
    ·refine awp_skip ?_
     repeat first | refine st_ ?_ | refine sn_ ?_
     exact ⟨((e_2.toNat : Int), W (at' + 2)), hg, sub_ []⟩
   ·rintro ⟨n_4, from_4⟩ hg
    replace hg : g_ref01_head.j4 b at' n_4 from_4 = some r := hg
    show awp _ _ _ _ (mk _ _ _)
    unfold g_ref01_head.j4 at hg
    refine awp_seq ?_
    refine sr_ 0 48 mk_U ?_
    refine go2_ ?_
    refine ch_n fun hU => ?_
    refine cg_ rfl hg (fun h31 hg => ?_) fun h31 hg => ?_
    ·refine awp_seq ?_
     refine awp_region (sys _ _ []) 48 80 hU rfl rfl ?_
     refine go2_ ?_
     refine ch_n fun hU => ?_
     refine aw_r ?_
     obtain rfl := Option.some.inj hg
     exact fin_ [] ⟨rfl, rfl⟩
    ·refine awp_skip ?_
     repeat first | refine st_ ?_ | refine sn_ ?_
     refine sr_ 48 152 hU ?_
     refine go2_ ?_
     obtain ⟨e_5, he_5, hg⟩ := bind_some hg
     refine go2_ ?_
     refine c0_ rfl rfl (r_loadE1 ty5 (enc_cell e8_len (getI_at he_5) (o := 0) (c := .int .u8 (e_5.toNat : Int)) rfl rfl)) rfl rfl ?_
     refine c0_ rfl rfl (r_conv_8i (u := e_5) und5 und3) rfl rfl ?_
     refine go2_ ?_
     refine ch_n fun hU => ?_
     refine aw_r ?_
     obtain rfl := Option.some.inj hg
     exact fin_ [] ⟨rfl, rfl⟩
theorem w_ref01_all.F (rec : (List UInt8) → Option ((List api_Value) × Bool)) (hrec : ∀ (b : (List UInt8)) (r : (List api_Value) × Bool), rec b = some r → Fn Tryz.prog 86 0 [.sl 1 (encL e8 b)] [] (fun d b => d = .tup [.sl 4 (encL api_Value.enc r.1), .val (.bool r.2)] ∧ b = [])) (b : (List UInt8)) (r : (List api_Value) × Bool) (hg : g_ref01_all.F rec b = some r) : Fn Tryz.prog 86 0 [.sl 1 (encL e8 b)] [] (fun d b => d = .tup [.sl 4 (encL api_Value.enc r.1), .val (.bool r.2)] ∧ b = []) := by
 unfold g_ref01_all.F at hg
 refine Fn.of Tryz.func86 rfl rfl rfl fun w0 I ρ0 => ?_
 show awp _ ⟨w0, I, ρ0, 0, 0, 60⟩ _ _ _
 refine sr_ 0 16 mk_U ?_
 refine go2_ ?_
 refine ch_n fun hU => ?_
 refine sr_ 16 24 hU ?_
 refine go2_ ?_
 refine ch_n fun hU => ?_
 refine sr_ 24 32 hU ?_
 refine go2_ ?_
 refine ch_n fun hU => ?_
 refine awp_seq ?_
 refine awp_block ?_
 refine lp_ (fun ((at_1, out_1) : Int × List api_Value) => mk [(0, .sl 1 (encL e8 b)), (4, .row 0), (5, .val (.int .i64 at_1))] [(0, .row 41 4 (encL api_Value.enc out_1))] 1) hg (sub_ []) ?_
 rintro ⟨at_1, out_1⟩ m1 o1 hg hn1
 replace hg : g_ref01_all.l1 rec b at_1 out_1 = some o1 := hg
 show awp _ _ _ _ (mk _ _ _)
 unfold g_ref01_all.l1 at hg
 refine awp_seq ?_
 refine sr_ 1 33 mk_U ?_
 refine go2_ ?_
 refine ch_n fun hU => ?_
 refine cg_ rfl hg (fun h5 hg => ?_) fun h5 hg => ?_
 ·refine awp_skip ?_
  repeat first | refine st_ ?_ | refine sn_ ?_
  refine awp_block ?_
  refine sr_ 33 129 hU ?_
  refine go2_ ?_
  obtain ⟨y, hy, hg⟩ := bind_some hg
  refine ca2_ (w_ref01_head _ _ _ hy) ?_
  refine go2_ ?_
  refine ch_n fun hU => ?_
  refine awp_seq ?_
  refine sr_ 129 145 hU ?_
  refine go2_ ?_
  refine ch_n fun hU => ?_
  refine cg_ rfl hg (fun h8 hg => ?_) fun h8 hg => ?_
  ·refine awp_seq ?_
   refine awp_region (sys _ _ []) 145 161 hU rfl rfl ?_
   refine go2_ ?_
   refine ch_n fun hU => ?_
   refine aw_r ?_
   replace hg := leave hg hn1
   obtain rfl := Option.some.inj hg
   exact fin_ [] ⟨rfl, rfl⟩
  ·refine awp_skip ?_
   repeat first | refine st_ ?_ | refine sn_ ?_
   refine sr_ 145 209 hU ?_
   refine go2_ ?_
   obtain ⟨q, hq, hg⟩ := bind_some hg
   refine c0_ rfl rfl (r_quo hq) rfl rfl ?_
   obtain ⟨q_2, hq_2, hg⟩ := bind_some hg
   refine c0_ rfl rfl (r_rem hq_2) rfl rfl ?_
   refine go2_ ?_
   refine c0_ rfl rfl (.build (r := [.val (.int .i64 y.1), .val (.slice none 0 0), .val (.bool (decide (q_2 = 1))), .val (.slice none 0 0)]) und41 pl41 z41 (by kernel_rfl) rfl) rfl rfl ?_
   refine go2_ ?_
   refine ch_n fun hU => ?_
   refine awp_cut (ι := List api_Value × List UInt8) (fun ((v_2, l_2_2) : List api_Value × List UInt8) => mk [(0, .sl 1 (encL e8 b)), (4, .row 0), (8, .val (.int .i64 y.2.2.1)), (10, .ptr 1 0)] [(0, .row 41 4 (encL api_Value.enc out_1)), (1, .box [.val (.int .i64 y.1), .row 2, .val (.bool (decide (q_2 = 1))), .sl 4 (encL api_Value.enc v_2)] 41), (2, .row 5 1 (encL e8 l_2_2))] 3) (fun ((v_2, l_2_2) : List api_Value × List UInt8) => g_ref01_all.j2 out_1 y q_2 v_2 l_2_2 = some o1) ?_ ?_
   ·refine awp_seq ?_
    refine awp_region (sys _ _ []) 209 225 hU rfl rfl ?_
    refine go2_ ?_
    refine ch_n fun hU => ?_
    refine cg_ rfl hg (fun h12 hg => ?_) fun h12 hg => ?_
    ·refine awp_seq ?_
     refine awp_region (sys _ _ []) 225 305 hU rfl rfl ?_
     refine go2_ ?_
     obtain ⟨l, hl, hg⟩ := bind_some hg
     refine c0_ rfl rfl (r_sliS sl35 e8_len hl) rfl rfl ?_
     obtain ⟨y_2, hy_2, hg⟩ := bind_some hg
     refine ca2_ (hrec _ _ hy_2) ?_
     refine go2_ ?_
     refine ch_n fun hU => ?_
     refine awp_seq ?_
     refine sr_ 305 321 hU ?_
     refine go2_ ?_
     refine ch_n fun hU => ?_
     refine cg_ rfl hg (fun h15 hg => ?_) fun h15 hg => ?_
     ·refine awp_seq ?_
      refine awp_region (sys _ _ []) 321 337 hU rfl rfl ?_
      refine go2_ ?_
      refine ch_n fun hU => ?_
      refine aw_r ?_
      replace hg := leave hg hn1
      obtain rfl := Option.some.inj hg
      exact fin_ [] ⟨rfl, rfl⟩
     ·refine awp_skip ?_
      repeat first | refine st_ ?_ | refine sn_ ?_
      refine awp_region (sys _ _ []) 321 345 hU rfl rfl ?_
      refine go2_ ?_
      refine ch_n fun hU => ?_
      exact ⟨(y_2.1, ([] : List UInt8)), hg, sub_ [(0, 0), (1, 193)]⟩
    ·refine awp_region (sys _ _ []) 225 289 hU rfl rfl ?_
     refine c0_ rfl rfl (r_buildFull sl35 z5 (by decide) rfl rfl rfl rfl ck5 (cs := []) .nil rfl (l := ([] : List UInt8)) (f := e8) rfl) rfl rfl ?_
     refine go2_ ?_
     obtain ⟨l_2, hl_2, hg⟩ := bind_some hg
     refine c0_ rfl rfl (r_sliS sl35 e8_len hl_2) rfl rfl ?_
     obtain ⟨l_3, hl_3, hg⟩ := bind_some hg
     refine ch_s (rd := [225]) rfl rfl (r_append sl35 e8_len .row rfl .sl rfl hl_3 rfl) rfl rfl ?_
     refine go2_ ?_
     refine ch_n fun hU => ?_
     exact ⟨(([] : List api_Value), l_3), hg, sub_ [(0, 0), (1, 193), (2, 265)]⟩
   ·rintro ⟨v_2, l_2_2⟩ hg
    replace hg : g_ref01_all.j2 out_1 y q_2 v_2 l_2_2 = some o1 := hg
    show awp _ _ _ _ (mk _ _ _)
    unfold g_ref01_all.j2 at hg
    refine awp_seq ?_
    refine awp_sub (σ' := mk [(0, .sl 1 (encL e8 b)), (4, .row 0), (8, .val (.int .i64 y.2.2.1)), (10, .ptr 1 0)] [(0, .row 41 4 (encL api_Value.enc out_1)), (1, .box [.val (.int .i64 y.1), .sl 1 (encL e8 l_2_2), .val (.bool (decide (q_2 = 1))), .sl 4 (encL api_Value.enc v_2)] 41)] 2) (sub_ [(0, 0), (1, 1)]) ?_
    refine awp_region (sys _ _ []) 2 42 mk_U rfl rfl ?_
    refine go2_ ?_
    refine c0_ rfl rfl (r_buildFull sl39 z41 (by decide) rfl rfl rfl rfl ck41 (cs := [.int .i64 y.1, .sl 1 (encL e8 l_2_2), .bool (decide (q_2 = 1)), .sl 4 (encL api_Value.enc v_2)]) (.cons .int (.cons .sl (.cons .bool (.cons .sl .nil)))) rfl (l := ([(api_Value.mk y.1 l_2_2 (decide (q_2 = 1)) v_2)] : List api_Value)) (f := api_Value.enc) (by simp only [encL, List.flatMap_cons, List.flatMap_nil, api_Value.enc_eq]; rfl)) rfl rfl ?_
    obtain ⟨l_4, hl_4, hg⟩ := bind_some hg
    refine ch_s (rd := [0, 18]) rfl rfl (r_append sl39 api_Value.enc_len .row rfl .row rfl hl_4 rfl) rfl rfl ?_
    refine go2_ ?_
    refine ch_n fun hU => ?_
    refine awp_region (sys _ _ []) 42 58 hU rfl rfl ?_
    refine go2_ ?_
    refine ch_n fun hU => ?_
    obtain rfl := Option.some.inj hg
    exact ⟨((y.2.2.1, l_4), m1), Nat.lt_succ_self _, hn1, sub_ [(0, 26)]⟩
 ·refine awp_exit ?_
  repeat first | refine st_ ?_ | refine sn_ ?_
  replace hg := leave hg hn1
  refine sr_ 33 57 hU ?_
  refine go2_ ?_
  refine ch_n fun hU => ?_
  refine aw_r ?_
  obtain rfl := Option.some.inj hg
  exact fin_ [] ⟨rfl, rfl⟩
theorem w_ref01_all (b : (List UInt8)) (r : (List api_Value) × Bool) (hg : g_ref01_all b = some r) : Fn Tryz.prog 86 0 [.sl 1 (encL e8 b)] [] (fun d b => d = .tup [.sl 4 (encL api_Value.enc r.1), .val (.bool r.2)] ∧ b = []) :=
 fixT_ind (motive := fun (x : (List UInt8)) (r : (List api_Value) × Bool) => Fn Tryz.prog 86 0 [.sl 1 (encL e8 x)] [] (fun d x => d = .tup [.sl 4 (encL api_Value.enc r.1), .val (.bool r.2)] ∧ x = [])) (fun rec hrec x r h => w_ref01_all.F _ (fun b r h => hrec b r h) x r h) b r hg
theorem w_ref01_Decode (b : (List UInt8)) (r : api_Value × Int) (hg : g_ref01_Decode b = some r) : Fn Tryz.prog 43 0 [.sl 1 (encL e8 b)] [] (fun d b => d = .tup [.agg (api_Value.dv r.1), .val (.int .i64 r.2)] ∧ b = []) := by
 unfold g_ref01_Decode at hg
 refine Fn.of Tryz.func43 rfl rfl rfl fun w0 I ρ0 => ?_
 show awp _ ⟨w0, I, ρ0, 0, 0, 32⟩ _ _ _
 refine sr_ 0 16 mk_U ?_
 refine go2_ ?_
 refine ch_n fun hU => ?_
 refine awp_seq ?_
 refine sr_ 16 40 hU ?_
 refine go2_ ?_
 refine ch_n fun hU => ?_
 refine cg_ rfl hg (fun h3 hg => ?_) fun h3 hg => ?_
 ·refine awp_seq ?_
  refine awp_region (sys _ _ []) 40 64 hU rfl rfl ?_
  refine c0_ rfl rfl (.build (r := [.val (.int .i64 0), .val (.slice none 0 0), .val (.bool false), .val (.slice none 0 0)]) und41 pl41 z41 (by kernel_rfl) rfl) rfl rfl ?_
  refine go2_ ?_
  refine ch_n fun hU => ?_
  refine aw_r ?_
  obtain rfl := Option.some.inj hg
  exact fin_ [] ⟨rfl, rfl⟩
 ·refine awp_skip ?_
  repeat first | refine st_ ?_ | refine sn_ ?_
  refine sr_ 40 96 hU ?_
  refine go2_ ?_
  obtain ⟨y, hy, hg⟩ := bind_some hg
  refine ca2_ (w_ref01_all _ _ hy) ?_
  refine go2_ ?_
  refine ch_n fun hU => ?_
  refine awp_seq ?_
  refine awp_cut (ι := Bool) (fun (x21_1 : Bool) => mk [(2, .ptr 0 0), (4, .sl 4 (encL api_Value.enc y.1)), (21, .val (.bool x21_1))] [(0, .box [.val (.int .i64 0), .val (.slice none 0 0), .val (.bool false), .val (.slice none 0 0)] 41)] 1) (fun (x21_1 : Bool) => g_ref01_Decode.j1 y x21_1 = some r) ?_ ?_
  ·refine awp_region (sys _ _ []) 96 152 hU rfl rfl ?_
   refine go2_ ?_
   rcases bc_ hg with ⟨h6, hg⟩ | ⟨h6, hg⟩
   ·refine go2_ ?_
    refine ch_n fun hU => ?_
    exact ⟨true, hg, sub_ [(0, 0)]⟩
   ·refine go2_ ?_
    refine ch_n fun hU => ?_
    exact ⟨!decide ((y.1.length : Int) = 1), hg, sub_ [(0, 0)]⟩
  ·rintro x21_1 hg
   replace hg : g_ref01_Decode.j1 y x21_1 = some r := hg
   show awp _ _ _ _ (mk _ _ _)
   unfold g_ref01_Decode.j1 at hg
   refine cg_ rfl hg (fun h9 hg => ?_) fun h9 hg => ?_
   ·refine awp_seq ?_
    refine awp_region (sys _ _ []) 1 25 mk_U rfl rfl ?_
    refine c0_ rfl rfl (.build (r := [.val (.int .i64 0), .val (.slice none 0 0), .val (.bool false), .val (.slice none 0 0)]) und41 pl41 z41 (by kernel_rfl) rfl) rfl rfl ?_
    refine go2_ ?_
    refine ch_n fun hU => ?_
    refine aw_r ?_
    obtain rfl := Option.some.inj hg
    exact fin_ [] ⟨rfl, rfl⟩
   ·refine awp_skip ?_
    repeat first | refine st_ ?_ | refine sn_ ?_
    refine awp_seq ?_
    refine sr_ 1 41 mk_U ?_
    refine go2_ ?_
    obtain ⟨e, he, hg⟩ := bind_some hg
    refine go2_ ?_
    refine c0_ rfl rfl (r_loadEA ty41 (enc_cells api_Value.enc_len (getI_at he) (o := 0) (m := 4) (cs := [.int .i64 e.Tag, .sl 1 (encL e8 e.Bytes), .bool e.Nested, .sl 4 (encL api_Value.enc e.Elements)]) (by simp only [api_Value.enc_eq]; rfl) (by decide) rfl) (enc_cells_le api_Value.enc_len (getI_at he) (o := 0) (m := 4) (by decide) rfl)) rfl rfl ?_
    obtain ⟨y_2, hy_2, hg⟩ := bind_some hg
    refine ca2_ (w_ref01_depth _ _ hy_2) ?_
    refine go2_ ?_
    refine ch_n fun hU => ?_
    refine cg_ rfl hg (fun h12 hg => ?_) fun h12 hg => ?_
    ·refine awp_seq ?_
     refine awp_region (sys _ _ []) 41 65 hU rfl rfl ?_
     refine c0_ rfl rfl (.build (r := [.val (.int .i64 0), .val (.slice none 0 0), .val (.bool false), .val (.slice none 0 0)]) und41 pl41 z41 (by kernel_rfl) rfl) rfl rfl ?_
     refine go2_ ?_
     refine ch_n fun hU => ?_
     refine aw_r ?_
     obtain rfl := Option.some.inj hg
     exact fin_ [] ⟨rfl, rfl⟩
    ·refine awp_skip ?_
     repeat first | refine st_ ?_ | refine sn_ ?_
     refine sr_ 41 81 hU ?_
     refine go2_ ?_
     refine c0_ rfl rfl (r_loadEA ty41 (enc_cells api_Value.enc_len (getI_at he) (o := 0) (m := 4) (cs := [.int .i64 e.Tag, .sl 1 (encL e8 e.Bytes), .bool e.Nested, .sl 4 (encL api_Value.enc e.Elements)]) (by simp only [api_Value.enc_eq]; rfl) (by decide) rfl) (enc_cells_le api_Value.enc_len (getI_at he) (o := 0) (m := 4) (by decide) rfl)) rfl rfl ?_
     refine go2_ ?_
     refine ch_n fun hU => ?_
     refine aw_r ?_
     obtain rfl := Option.some.inj hg
     exact fin_ [] ⟨rfl, rfl⟩
theorem w_ref01_AsList (v : api_Value) (r : (List api_Value) × Int) (hg : g_ref01_AsList v = some r) : Fn Tryz.prog 117 0 [.agg (api_Value.dv v)] [] (fun d b => d = .tup [.sl 4 (encL api_Value.enc r.1), .val (.int .i64 r.2)] ∧ b = []) := by
 unfold g_ref01_AsList at hg
 refine Fn.of Tryz.func117 rfl rfl rfl fun w0 I ρ0 => ?_
 show awp _ ⟨w0, I, ρ0, 0, 0, 15⟩ _ _ _
 refine sr_ 0 24 mk_U ?_
 refine go2_ ?_
 refine ch_n fun hU => ?_
 refine awp_seq ?_
 refine awp_cut (ι := Bool) (fun (x11_1 : Bool) => mk [(1, .ptr 0 0), (11, .val (.bool x11_1))] [(0, .box (api_Value.dv v) 41)] 1) (fun (x11_1 : Bool) => g_ref01_AsList.j1 v x11_1 = some r) ?_ ?_
 ·refine awp_region (sys _ _ []) 24 88 hU rfl rfl ?_
  refine go2_ ?_
  rcases bc_ hg with ⟨h2, hg⟩ | ⟨h2, hg⟩
  ·refine go2_ ?_
   refine ch_n fun hU => ?_
   exact ⟨true, hg, sub_ [(0, 0)]⟩
  ·refine go2_ ?_
   obtain ⟨y, hy, hg⟩ := bind_some hg
   refine ca2_ (w_ref01_formed _ _ hy) ?_
   refine go2_ ?_
   refine ch_n fun hU => ?_
   exact ⟨!y, hg, sub_ [(0, 0)]⟩
 ·rintro x11_1 hg
  replace hg : g_ref01_AsList.j1 v x11_1 = some r := hg
  show awp _ _ _ _ (mk _ _ _)
  unfold g_ref01_AsList.j1 at hg
  refine cg_ rfl hg (fun h5 hg => ?_) fun h5 hg => ?_
  ·refine awp_seq ?_
   refine awp_region (sys _ _ []) 1 17 mk_U rfl rfl ?_
   refine go2_ ?_
   refine ch_n fun hU => ?_
   refine aw_r ?_
   obtain rfl := Option.some.inj hg
   exact fin_ [] ⟨rfl, rfl⟩
  ·refine awp_skip ?_
   repeat first | refine st_ ?_ | refine sn_ ?_
   refine sr_ 1 41 mk_U ?_
   refine go2_ ?_
   obtain ⟨y_2, hy_2, hg⟩ := bind_some hg
   refine ca2_ (w_ref01_copies _ _ hy_2) ?_
   refine go2_ ?_
   refine ch_n fun hU => ?_
   refine aw_r ?_
   obtain rfl := Option.some.inj hg
   exact fin_ [] ⟨rfl, rfl⟩
theorem w_ref03_Read (v : api_Value) (r : cipherplanref03_Reader) (hg : g_ref03_Read v = some r) : Fn Tryz.prog 87 0 [.agg (api_Value.dv v)] [] (fun d b => d = .ptr 0 0 ∧ b = [.box (cipherplanref03_Reader.dv r) 109]) := by
 unfold g_ref03_Read at hg
 refine Fn.of Tryz.func87 rfl rfl rfl fun w0 I ρ0 => ?_
 show awp _ ⟨w0, I, ρ0, 0, 0, 15⟩ _ _ _
 refine sr_ 0 16 mk_U ?_
 refine go2_ ?_
 refine ch_n fun hU => ?_
 refine sr_ 16 72 hU ?_
 refine go2_ ?_
 obtain ⟨y, hy, hg⟩ := bind_some hg
 refine ca2_ (w_ref01_AsList _ _ hy) ?_
 refine go2_ ?_
 refine ch_n fun hU => ?_
 refine sr_ 72 120 hU ?_
 refine go2_ ?_
 refine c0_ rfl rfl (.build (r := [.sl 4 (encL api_Value.enc y.1), .val (.int .i64 0), .val (.bool (decide (y.2 = 0)))]) und109 pl109 z109 (by kernel_rfl) rfl) rfl rfl ?_
 refine go2_ ?_
 refine ch_n fun hU => ?_
 refine aw_r ?_
 obtain rfl := Option.some.inj hg
 exact fin_ [(0, 104)] ⟨rfl, rfl⟩
theorem w_ref03_Reader_Next (r' : cipherplanref03_Reader) (r : api_Value × cipherplanref03_Reader) (hg : g_ref03_Reader_Next r' = some r) : Fn Tryz.prog 118 1 [.ptr 0 0] [.box (cipherplanref03_Reader.dv r') 109] (fun d b => d = .agg (api_Value.dv r.1) ∧ b = [.box (cipherplanref03_Reader.dv r.2) 109]) := by
 unfold g_ref03_Reader_Next at hg
 refine Fn.of Tryz.func118 rfl rfl rfl fun w0 I ρ0 => ?_
 show awp _ ⟨w0, I, ρ0, 1, 1, 42⟩ _ _ _
 refine sr_ 1 9 mk_U ?_
 refine go2_ ?_
 refine ch_n fun hU => ?_
 refine awp_seq ?_
 refine awp_cut (ι := Bool) (fun (x19_1 : Bool) => mk [(0, .ptr 0 0), (2, .ptr 1 0), (19, .val (.bool x19_1))] [(0, .box (cipherplanref03_Reader.dv r') 109), (1, .box [.val (.int .i64 0), .val (.slice none 0 0), .val (.bool false), .val (.slice none 0 0)] 41)] 2) (fun (x19_1 : Bool) => g_ref03_Reader_Next.j1 r' x19_1 = some r) ?_ ?_
 ·refine awp_draw (sys _ _ []) (by kernel_rfl) [0, 1, 3, 7, 15, 31, 63, 127, 255, 511, 63, 1087, 3135, 7231, 15423, 32767, 65535] 9 145 hU rfl rfl (by kernel_rfl) ?_
  refine go2_ ?_
  rcases bc_ hg with ⟨h2, hg⟩ | ⟨h2, hg⟩
  ·refine go2_ ?_
   refine ch_n fun hU => ?_
   exact ⟨true, hg, sub_ [(0, 0), (1, 1)]⟩
  ·refine go2_ ?_
   refine ch_n fun hU => ?_
   exact ⟨decide ((r'.L.length : Int) ≤ r'.At), hg, sub_ [(0, 0), (1, 1)]⟩
 ·rintro x19_1 hg
  replace hg : g_ref03_Reader_Next.j1 r' x19_1 = some r := hg
  show awp _ _ _ _ (mk _ _ _)
  unfold g_ref03_Reader_Next.j1 at hg
  refine cg_ rfl hg (fun h5 hg => ?_) fun h5 hg => ?_
  ·refine awp_seq ?_
   refine awp_region (sys _ _ []) 2 34 mk_U rfl rfl ?_
   refine go2_ ?_
   refine ch_n fun hU => ?_
   refine sr_ 34 50 hU ?_
   refine c0_ rfl rfl (.build (r := [.val (.int .i64 0), .val (.slice none 0 0), .val (.bool false), .val (.slice none 0 0)]) und41 pl41 z41 (by kernel_rfl) rfl) rfl rfl ?_
   refine go2_ ?_
   refine ch_n fun hU => ?_
   refine aw_r ?_
   obtain rfl := Option.some.inj hg
   exact fin_ [(0, 0)] ⟨rfl, rfl⟩
  ·refine awp_skip ?_
   repeat first | refine st_ ?_ | refine sn_ ?_
   refine sr_ 2 66 mk_U ?_
   refine go2_ ?_
   refine ch_n fun hU => ?_
   refine awp_seq ?_
   refine awp_draw (sys _ _ []) (by kernel_rfl) [0, 1, 3, 7, 0, 16, 48, 112, 240, 511, 1023, 2047] 66 162 hU rfl rfl (by kernel_rfl) ?_
   refine go2_ ?_
   obtain ⟨e, he, hg⟩ := bind_some hg
   refine go2_ ?_
   refine c0_ rfl rfl (r_loadEA ty41 (enc_cells api_Value.enc_len (getI_at he) (o := 0) (m := 4) (cs := [.int .i64 e.Tag, .sl 1 (encL e8 e.Bytes), .bool e.Nested, .sl 4 (encL api_Value.enc e.Elements)]) (by simp only [api_Value.enc_eq]; rfl) (by decide) rfl) (enc_cells_le api_Value.enc_len (getI_at he) (o := 0) (m := 4) (by decide) rfl)) rfl rfl ?_
   refine go2_ ?_
   refine ch_n fun hU => ?_
   refine aw_r ?_
   obtain rfl := Option.some.inj hg
   exact fin_ [(0, 0)] ⟨rfl, rfl⟩
theorem w_ref03_Reader_List (r' : cipherplanref03_Reader) (r : cipherplanref03_Reader × cipherplanref03_Reader) (hg : g_ref03_Reader_List r' = some r) : Fn Tryz.prog 88 1 [.ptr 0 0] [.box (cipherplanref03_Reader.dv r') 109] (fun d b => d = .ptr 1 0 ∧ b = [.box (cipherplanref03_Reader.dv r.2) 109, .box (cipherplanref03_Reader.dv r.1) 109]) := by
 unfold g_ref03_Reader_List at hg
 refine Fn.of Tryz.func88 rfl rfl rfl fun w0 I ρ0 => ?_
 show awp _ ⟨w0, I, ρ0, 1, 1, 21⟩ _ _ _
 refine sr_ 1 9 mk_U ?_
 refine go2_ ?_
 refine ch_n fun hU => ?_
 refine sr_ 9 41 hU ?_
 refine go2_ ?_
 obtain ⟨y, hy, hg⟩ := bind_some hg
 refine cb2_ [0] [0] [] false (w_ref03_Reader_Next _ _ hy) ?_
 obtain ⟨y_2, hy_2, hg⟩ := bind_some hg
 refine ch_call (rd := []) (ps := []) (gs := []) false rfl (w_ref03_Read _ _ hy_2) rfl rfl (.cons (.agg (.cons .val (.cons .sl (.cons .val (.cons .sl .nil))))) .nil) rfl rfl (by intro h; cases h) rfl (by intro h; first | (cases h; done) | exact ⟨_, _, ⟨rfl, rfl⟩, by simp, by simp⟩) ?_
 rintro _ _ ⟨rfl, rfl⟩
 refine go2_ ?_
 refine ch_n fun hU => ?_
 refine sr_ 41 153 hU ?_
 refine go2_ ?_
 rcases bc_ hg with ⟨h3, hg⟩ | ⟨h3, hg⟩
 ·refine go2_ ?_
  refine ch_n fun hU => ?_
  refine sr_ 153 169 hU ?_
  refine go2_ ?_
  refine ch_n fun hU => ?_
  refine aw_r ?_
  obtain rfl := Option.some.inj hg
  exact fin_ [(0, 0), (1, 25)] ⟨rfl, rfl⟩
 ·refine go2_ ?_
  refine ch_n fun hU => ?_
  refine sr_ 153 169 hU ?_
  refine go2_ ?_
  refine ch_n fun hU => ?_
  refine aw_r ?_
  obtain rfl := Option.some.inj hg
  exact fin_ [(0, 0), (1, 25)] ⟨rfl, rfl⟩
theorem w_ref01_AsInt (v : api_Value) (r : Int × Int) (hg : g_ref01_AsInt v = some r) : Fn Tryz.prog 119 0 [.agg (api_Value.dv v)] [] (fun d b => d = .tup [.val (.int .i64 r.1), .val (.int .i64 r.2)] ∧ b = []) := by
 unfold g_ref01_AsInt at hg
 refine Fn.of Tryz.func119 rfl rfl rfl fun w0 I ρ0 => ?_
 show awp _ ⟨w0, I, ρ0, 0, 0, 61⟩ _ _ _
 refine sr_ 0 24 mk_U ?_
 refine go2_ ?_
 refine ch_n fun hU => ?_
 refine awp_seq ?_
 refine awp_cut (ι := Bool) (fun (x30_1 : Bool) => mk [(1, .ptr 0 0), (30, .val (.bool x30_1))] [(0, .box (api_Value.dv v) 41)] 1) (fun (x30_1 : Bool) => g_ref01_AsInt.j1 v x30_1 = some r) ?_ ?_
 ·refine awp_region (sys _ _ []) 24 224 hU rfl rfl ?_
  refine go2_ ?_
  rcases bc_ hg with ⟨h2, hg⟩ | ⟨h2, hg⟩
  ·refine go2_ ?_
   refine ch_n fun hU => ?_
   exact ⟨true, hg, sub_ [(0, 0)]⟩
  ·refine go2_ ?_
   rcases bc_ hg with ⟨h4, hg⟩ | ⟨h4, hg⟩
   ·refine go2_ ?_
    refine ch_n fun hU => ?_
    exact ⟨true, hg, sub_ [(0, 0)]⟩
   ·refine go2_ ?_
    rcases bc_ hg with ⟨h6, hg⟩ | ⟨h6, hg⟩
    ·refine go2_ ?_
     refine ch_n fun hU => ?_
     exact ⟨true, hg, sub_ [(0, 0)]⟩
    ·refine go2_ ?_
     rcases bc_ hg with ⟨h8, hg⟩ | ⟨h8, hg⟩
     ·refine go2_ ?_
      refine ch_n fun hU => ?_
      exact ⟨true, hg, sub_ [(0, 0)]⟩
     ·refine go2_ ?_
      refine ch_n fun hU => ?_
      exact ⟨decide (8 < (v.Bytes.length : Int)), hg, sub_ [(0, 0)]⟩
 ·rintro x30_1 hg
  replace hg : g_ref01_AsInt.j1 v x30_1 = some r := hg
  show awp _ _ _ _ (mk _ _ _)
  unfold g_ref01_AsInt.j1 at hg
  refine cg_ rfl hg (fun h11 hg => ?_) fun h11 hg => ?_
  ·refine awp_seq ?_
   refine awp_region (sys _ _ []) 1 17 mk_U rfl rfl ?_
   refine go2_ ?_
   refine ch_n fun hU => ?_
   refine aw_r ?_
   obtain rfl := Option.some.inj hg
   exact fin_ [] ⟨rfl, rfl⟩
  ·refine awp_skip ?_
   repeat first | refine st_ ?_ | refine sn_ ?_
   refine sr_ 1 9 mk_U ?_
   refine go2_ ?_
   refine ch_n fun hU => ?_
   refine awp_cut (ι := Int) (fun (n_2 : Int) => mk [(1, .ptr 0 0), (4, .val (.int .i64 n_2))] [(0, .box (api_Value.dv v) 41)] 1) (fun (n_2 : Int) => g_ref01_AsInt.j2 v n_2 = some r) ?_ ?_
   ·refine awp_seq ?_
    refine awp_region (sys _ _ []) 9 49 hU rfl rfl ?_
    refine go2_ ?_
    obtain ⟨e, he, hg⟩ := bind_some hg
    refine go2_ ?_
    refine c0_ rfl rfl (r_loadE1 ty5 (enc_cell e8_len (getI_at he) (o := 0) (c := .int .u8 (e.toNat : Int)) rfl rfl)) rfl rfl ?_
    refine go2_ ?_
    refine ch_n fun hU => ?_
    refine cg_ rfl hg (fun h15 hg => ?_) fun h15 hg => ?_
    ·refine awp_region (sys _ _ []) 49 57 hU rfl rfl ?_
     refine go2_ ?_
     refine ch_n fun hU => ?_
     exact ⟨-1, hg, sub_ [(0, 0)]⟩
    ·refine awp_skip ?_
     repeat first | refine st_ ?_ | refine sn_ ?_
     exact ⟨0, hg, sub_ [(0, 0)]⟩
   ·rintro n_2 hg
    replace hg : g_ref01_AsInt.j2 v n_2 = some r := hg
    show awp _ _ _ _ (mk _ _ _)
    unfold g_ref01_AsInt.j2 at hg
    refine awp_seq ?_
    refine sr_ 1 9 mk_U ?_
    refine go2_ ?_
    refine ch_n fun hU => ?_
    refine awp_block ?_
    refine lp_ (fun ((n_3, i_3) : Int × Int) => mk [(1, .ptr 0 0), (4, .val (.int .i64 n_3)), (5, .val (.int .i64 i_3))] [(0, .box (api_Value.dv v) 41)] 1) hg (sub_ [(0, 0)]) ?_
    rintro ⟨n_3, i_3⟩ m3 o3 hg hn3
    replace hg : g_ref01_AsInt.l3 v n_3 i_3 = some o3 := hg
    show awp _ _ _ _ (mk _ _ _)
    unfold g_ref01_AsInt.l3 at hg
    refine awp_seq ?_
    refine sr_ 1 41 mk_U ?_
    refine go2_ ?_
    refine ch_n fun hU => ?_
    refine cg_ rfl hg (fun h19 hg => ?_) fun h19 hg => ?_
    ·refine awp_skip ?_
     repeat first | refine st_ ?_ | refine sn_ ?_
     refine awp_seq ?_
     refine awp_block ?_
     refine awp_region (sys _ _ []) 41 121 hU rfl rfl ?_
     refine go2_ ?_
     obtain ⟨q, hq, hg⟩ := bind_some hg
     refine c0_ rfl rfl (r_shlK hq) rfl rfl ?_
     refine go2_ ?_
     obtain ⟨e_2, he_2, hg⟩ := bind_some hg
     refine go2_ ?_
     refine c0_ rfl rfl (r_loadE1 ty5 (enc_cell e8_len (getI_at he_2) (o := 0) (c := .int .u8 (e_2.toNat : Int)) rfl rfl)) rfl rfl ?_
     refine c0_ rfl rfl (r_conv_8i (u := e_2) und5 und3) rfl rfl ?_
     refine c0_ rfl rfl r_orK rfl rfl ?_
     refine go2_ ?_
     refine ch_n fun hU => ?_
     refine awp_region (sys _ _ []) 121 145 hU rfl rfl ?_
     refine go2_ ?_
     refine ch_n fun hU => ?_
     obtain rfl := Option.some.inj hg
     exact ⟨((orK .i64 q (e_2.toNat : Int), W (i_3 + 1)), m3), Nat.lt_succ_self _, hn3, sub_ [(0, 0)]⟩
    ·refine awp_exit ?_
     repeat first | refine st_ ?_ | refine sn_ ?_
     replace hg := leave hg hn3
     refine awp_seq ?_
     refine awp_seq ?_
     refine awp_draw (sys _ _ []) (by kernel_rfl) [0, 1, 3, 7, 0, 16, 48, 127] 41 105 hU rfl rfl (by kernel_rfl) ?_
     refine go2_ ?_
     obtain ⟨y, hy, hg⟩ := bind_some hg
     refine ca2_ (w_ref01_Int _ _ hy) ?_
     refine go2_ ?_
     refine c0_ rfl rfl (r_convS und35 und5 und9 .sl rfl) rfl rfl ?_
     refine go2_ ?_
     refine c0_ rfl rfl (r_convS und35 und5 und9 .sl rfl) rfl rfl ?_
     refine go2_ ?_
     refine ch_n fun hU => ?_
     refine cg_ rfl hg (fun h23 hg => ?_) fun h23 hg => ?_
     ·refine awp_seq ?_
      refine awp_region (sys _ _ []) 105 121 hU rfl rfl ?_
      refine go2_ ?_
      refine ch_n fun hU => ?_
      refine aw_r ?_
      obtain rfl := Option.some.inj hg
      exact fin_ [] ⟨rfl, rfl⟩
     ·refine awp_skip ?_
      repeat first | refine st_ ?_ | refine sn_ ?_
      refine sr_ 105 129 hU ?_
      refine go2_ ?_
      refine ch_n fun hU => ?_
      refine aw_r ?_
      obtain rfl := Option.some.inj hg
      exact fin_ [] ⟨rfl, rfl⟩
theorem w_ref03_Reader_Int (r' : cipherplanref03_Reader) (r : Int × cipherplanref03_Reader) (hg : g_ref03_Reader_Int r' = some r) : Fn Tryz.prog 89 1 [.ptr 0 0] [.box (cipherplanref03_Reader.dv r') 109] (fun d b => d = .val (.int .i64 r.1) ∧ b = [.box (cipherplanref03_Reader.dv r.2) 109]) := by
 unfold g_ref03_Reader_Int at hg
 refine Fn.of Tryz.func89 rfl rfl rfl fun w0 I ρ0 => ?_
 show awp _ ⟨w0, I, ρ0, 1, 1, 23⟩ _ _ _
 refine sr_ 1 9 mk_U ?_
 refine go2_ ?_
 refine ch_n fun hU => ?_
 refine sr_ 9 73 hU ?_
 refine go2_ ?_
 obtain ⟨y, hy, hg⟩ := bind_some hg
 refine cb2_ [0] [0] [] false (w_ref03_Reader_Next _ _ hy) ?_
 obtain ⟨y_2, hy_2, hg⟩ := bind_some hg
 refine ca2_ (w_ref01_AsInt _ _ hy_2) ?_
 refine go2_ ?_
 refine ch_n fun hU => ?_
 refine sr_ 73 169 hU ?_
 refine go2_ ?_
 rcases bc_ hg with ⟨h3, hg⟩ | ⟨h3, hg⟩
 ·refine go2_ ?_
  refine ch_n fun hU => ?_
  refine sr_ 169 185 hU ?_
  refine go2_ ?_
  refine ch_n fun hU => ?_
  refine aw_r ?_
  obtain rfl := Option.some.inj hg
  exact fin_ [(0, 0)] ⟨rfl, rfl⟩
 ·refine go2_ ?_
  refine ch_n fun hU => ?_
  refine sr_ 169 185 hU ?_
  refine go2_ ?_
  refine ch_n fun hU => ?_
  refine aw_r ?_
  obtain rfl := Option.some.inj hg
  exact fin_ [(0, 0)] ⟨rfl, rfl⟩
theorem w_ref01_AsText (v : api_Value) (r : ByteArray × Int) (hg : g_ref01_AsText v = some r) : Fn Tryz.prog 120 0 [.agg (api_Value.dv v)] [] (fun d b => d = .tup [.val (.string r.1), .val (.int .i64 r.2)] ∧ b = []) := by
 unfold g_ref01_AsText at hg
 refine Fn.of Tryz.func120 rfl rfl rfl fun w0 I ρ0 => ?_
 show awp _ ⟨w0, I, ρ0, 0, 0, 42⟩ _ _ _
 refine sr_ 0 24 mk_U ?_
 refine go2_ ?_
 refine ch_n fun hU => ?_
 refine awp_seq ?_
 refine awp_cut (ι := Bool) (fun (x17_1 : Bool) => mk [(1, .ptr 0 0), (17, .val (.bool x17_1))] [(0, .box (api_Value.dv v) 41)] 1) (fun (x17_1 : Bool) => g_ref01_AsText.j1 v x17_1 = some r) ?_ ?_
 ·refine awp_region (sys _ _ []) 24 128 hU rfl rfl ?_
  refine go2_ ?_
  rcases bc_ hg with ⟨h2, hg⟩ | ⟨h2, hg⟩
  ·refine go2_ ?_
   refine ch_n fun hU => ?_
   exact ⟨true, hg, sub_ [(0, 0)]⟩
  ·refine go2_ ?_
   rcases bc_ hg with ⟨h4, hg⟩ | ⟨h4, hg⟩
   ·refine go2_ ?_
    refine ch_n fun hU => ?_
    exact ⟨true, hg, sub_ [(0, 0)]⟩
   ·refine go2_ ?_
    refine ch_n fun hU => ?_
    exact ⟨decide (0 < (v.Elements.length : Int)), hg, sub_ [(0, 0)]⟩
 ·rintro x17_1 hg
  replace hg : g_ref01_AsText.j1 v x17_1 = some r := hg
  show awp _ _ _ _ (mk _ _ _)
  unfold g_ref01_AsText.j1 at hg
  refine cg_ rfl hg (fun h7 hg => ?_) fun h7 hg => ?_
  ·refine awp_seq ?_
   refine awp_region (sys _ _ []) 1 17 mk_U rfl rfl ?_
   refine go2_ ?_
   refine ch_n fun hU => ?_
   refine aw_r ?_
   obtain rfl := Option.some.inj hg
   exact fin_ [] ⟨rfl, rfl⟩
  ·refine awp_skip ?_
   repeat first | refine st_ ?_ | refine sn_ ?_
   refine awp_seq ?_
   refine sr_ 1 9 mk_U ?_
   refine go2_ ?_
   refine ch_n fun hU => ?_
   refine awp_block ?_
   refine lp_ (fun (i_2 : Int) => mk [(1, .ptr 0 0), (4, .val (.int .i64 i_2))] [(0, .box (api_Value.dv v) 41)] 1) hg (sub_ [(0, 0)]) ?_
   rintro i_2 m2 o2 hg hn2
   replace hg : g_ref01_AsText.l2 v i_2 = some o2 := hg
   show awp _ _ _ _ (mk _ _ _)
   unfold g_ref01_AsText.l2 at hg
   refine awp_seq ?_
   refine sr_ 1 41 mk_U ?_
   refine go2_ ?_
   refine ch_n fun hU => ?_
   refine cg_ rfl hg (fun h11 hg => ?_) fun h11 hg => ?_
   ·refine awp_skip ?_
    repeat first | refine st_ ?_ | refine sn_ ?_
    refine awp_seq ?_
    refine awp_block ?_
    refine awp_cut (ι := Bool) (fun (x38_3 : Bool) => mk [(1, .ptr 0 0), (4, .val (.int .i64 i_2)), (38, .val (.bool x38_3))] [(0, .box (api_Value.dv v) 41)] 1) (fun (x38_3 : Bool) => g_ref01_AsText.j3 i_2 x38_3 = some o2) ?_ ?_
    ·refine awp_region (sys _ _ []) 41 153 hU rfl rfl ?_
     refine go2_ ?_
     obtain ⟨e, he, hg⟩ := bind_some hg
     refine go2_ ?_
     refine c0_ rfl rfl (r_loadE1 ty5 (enc_cell e8_len (getI_at he) (o := 0) (c := .int .u8 (e.toNat : Int)) rfl rfl)) rfl rfl ?_
     refine go2_ ?_
     rcases bc_ hg with ⟨h12, hg⟩ | ⟨h12, hg⟩
     ·refine go2_ ?_
      refine ch_n fun hU => ?_
      exact ⟨true, hg, sub_ [(0, 0)]⟩
     ·refine go2_ ?_
      refine c0_ (gdv_t rfl rfl h12) rfl (r_loadE1 ty5 (enc_cell e8_len (getI_at he) (o := 0) (c := .int .u8 (e.toNat : Int)) rfl rfl)) rfl rfl ?_
      refine go2_ ?_
      refine ch_n fun hU => ?_
      exact ⟨decide (126 < (e.toNat : Int)), hg, sub_ [(0, 0)]⟩
    ·rintro x38_3 hg
     replace hg : g_ref01_AsText.j3 i_2 x38_3 = some o2 := hg
     show awp _ _ _ _ (mk _ _ _)
     unfold g_ref01_AsText.j3 at hg
     refine cg_ rfl hg (fun h15 hg => ?_) fun h15 hg => ?_
     ·refine awp_seq ?_
      refine awp_region (sys _ _ []) 1 17 mk_U rfl rfl ?_
      refine go2_ ?_
      refine ch_n fun hU => ?_
      refine aw_r ?_
      replace hg := leave hg hn2
      obtain rfl := Option.some.inj hg
      exact fin_ [] ⟨rfl, rfl⟩
     ·refine awp_skip ?_
      repeat first | refine st_ ?_ | refine sn_ ?_
      refine awp_region (sys _ _ []) 1 25 mk_U rfl rfl ?_
      refine go2_ ?_
      refine ch_n fun hU => ?_
      obtain rfl := Option.some.inj hg
      exact ⟨(W (i_2 + 1), m2), Nat.lt_succ_self _, hn2, sub_ [(0, 0)]⟩
   ·refine awp_exit ?_
    repeat first | refine st_ ?_ | refine sn_ ?_
    replace hg := leave hg hn2
    refine sr_ 41 81 hU ?_
    refine go2_ ?_
    refine c0_ rfl rfl (r_convS und35 und5 und9 .sl rfl) rfl rfl ?_
    refine go2_ ?_
    refine ch_n fun hU => ?_
    refine aw_r ?_
    obtain rfl := Option.some.inj hg
    exact fin_ [] ⟨rfl, rfl⟩
theorem w_ref03_Reader_Text (r' : cipherplanref03_Reader) (r : ByteArray × cipherplanref03_Reader) (hg : g_ref03_Reader_Text r' = some r) : Fn Tryz.prog 90 1 [.ptr 0 0] [.box (cipherplanref03_Reader.dv r') 109] (fun d b => d = .val (.string r.1) ∧ b = [.box (cipherplanref03_Reader.dv r.2) 109]) := by
 unfold g_ref03_Reader_Text at hg
 refine Fn.of Tryz.func90 rfl rfl rfl fun w0 I ρ0 => ?_
 show awp _ ⟨w0, I, ρ0, 1, 1, 23⟩ _ _ _
 refine sr_ 1 9 mk_U ?_
 refine go2_ ?_
 refine ch_n fun hU => ?_
 refine sr_ 9 73 hU ?_
 refine go2_ ?_
 obtain ⟨y, hy, hg⟩ := bind_some hg
 refine cb2_ [0] [0] [] false (w_ref03_Reader_Next _ _ hy) ?_
 obtain ⟨y_2, hy_2, hg⟩ := bind_some hg
 refine ca2_ (w_ref01_AsText _ _ hy_2) ?_
 refine go2_ ?_
 refine ch_n fun hU => ?_
 refine sr_ 73 169 hU ?_
 refine go2_ ?_
 rcases bc_ hg with ⟨h3, hg⟩ | ⟨h3, hg⟩
 ·refine go2_ ?_
  refine ch_n fun hU => ?_
  refine sr_ 169 185 hU ?_
  refine go2_ ?_
  refine ch_n fun hU => ?_
  refine aw_r ?_
  obtain rfl := Option.some.inj hg
  exact fin_ [(0, 0)] ⟨rfl, rfl⟩
 ·refine go2_ ?_
  refine ch_n fun hU => ?_
  refine sr_ 169 185 hU ?_
  refine go2_ ?_
  refine ch_n fun hU => ?_
  refine aw_r ?_
  obtain rfl := Option.some.inj hg
  exact fin_ [(0, 0)] ⟨rfl, rfl⟩
theorem w_ref03_Reader_End (r' : cipherplanref03_Reader) (r : Bool × cipherplanref03_Reader) (hg : g_ref03_Reader_End r' = some r) : Fn Tryz.prog 93 1 [.ptr 0 0] [.box (cipherplanref03_Reader.dv r') 109] (fun d b => d = .val (.bool r.1) ∧ b = [.box (cipherplanref03_Reader.dv r.2) 109]) := by
 unfold g_ref03_Reader_End at hg
 refine Fn.of Tryz.func93 rfl rfl rfl fun w0 I ρ0 => ?_
 show awp _ ⟨w0, I, ρ0, 1, 1, 19⟩ _ _ _
 refine sr_ 1 9 mk_U ?_
 refine go2_ ?_
 refine ch_n fun hU => ?_
 refine awp_seq ?_
 refine awp_draw (sys _ _ []) (by kernel_rfl) [0, 1, 3, 7, 15, 31, 63, 127, 255, 31, 543, 1567, 3615, 7711, 16383, 32767, 65535] 9 145 hU rfl rfl (by kernel_rfl) ?_
 refine go2_ ?_
 rcases bc_ hg with ⟨h2, hg⟩ | ⟨h2, hg⟩
 ·refine go2_ ?_
  refine ch_n fun hU => ?_
  refine aw_r ?_
  obtain rfl := Option.some.inj hg
  exact fin_ [(0, 0)] ⟨rfl, rfl⟩
 ·refine go2_ ?_
  refine ch_n fun hU => ?_
  refine aw_r ?_
  obtain rfl := Option.some.inj hg
  exact fin_ [(0, 0)] ⟨rfl, rfl⟩
end Go.Proofs.YtlcfdnjokgbccaaGreat
