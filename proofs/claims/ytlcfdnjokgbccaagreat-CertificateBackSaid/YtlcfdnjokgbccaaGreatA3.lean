/- The program computes the plain functions. -/
import Derived.Test.YtlcfdnjokgbccaaGreatT1
import Derived.Test.YtlcfdnjokgbccaaGreatA1
import Derived.Test.YtlcfdnjokgbccaaGreatA2
set_option linter.unusedVariables false
set_option linter.unusedSimpArgs false
set_option maxRecDepth 100000
set_option maxHeartbeats 1600000
namespace Go.Proofs.YtlcfdnjokgbccaaGreat
open Go.RowKit
theorem w_der_all (rec : (List UInt8) → Option (api_Value × Int × Bool)) (hrec : ∀ (b : (List UInt8)) (r : api_Value × Int × Bool), rec b = some r → Fn Tryz.prog 65 0 [.sl 1 (encL e8 b)] [] (fun d b => d = .tup [.agg (api_Value.dv r.1), .val (.int .i64 r.2.1), .val (.bool r.2.2)] ∧ b = [])) (b : (List UInt8)) (r : (List api_Value) × Bool) (hg : g_der_all rec b = some r) : Fn Tryz.prog 107 0 [.sl 1 (encL e8 b)] [] (fun d b => d = .tup [.sl 4 (encL api_Value.enc r.1), .val (.bool r.2)] ∧ b = []) := by
 unfold g_der_all at hg
 refine Fn.of Tryz.func107 rfl rfl rfl fun w0 I ρ0 => ?_
 show awp _ ⟨w0, I, ρ0, 0, 0, 31⟩ _ _ _
 refine sr_ 0 16 mk_U ?_
 refine go_ ?_
 refine ch_n fun hU => ?_
 refine sr_ 16 24 hU ?_
 refine go_ ?_
 refine ch_n fun hU => ?_
 refine awp_seq ?_
 refine sr_ 24 32 hU ?_
 refine go_ ?_
 refine ch_n fun hU => ?_
 refine awp_block ?_
 refine lp_ (fun ((at_1, out_1) : Int × List api_Value) => mk [(0, .sl 1 (encL e8 b)), (4, .row 0), (5, .val (.int .i64 at_1))] [(0, .row 41 4 (encL api_Value.enc out_1))] 1) hg (sub_ []) ?_
 rintro ⟨at_1, out_1⟩ m1 o1 hg hn1
 replace hg : g_der_all.l1 rec b at_1 out_1 = some o1 := hg
 show awp _ _ _ _ (mk _ _ _)
 unfold g_der_all.l1 at hg
 refine awp_seq ?_
 refine sr_ 1 33 mk_U ?_
 refine go_ ?_
 refine ch_n fun hU => ?_
 refine cg_ rfl hg (fun h5 hg => ?_) fun h5 hg => ?_
 ·refine awp_skip ?_
  repeat first | refine st_ ?_ | refine sn_ ?_
  refine awp_block ?_
  refine sr_ 33 129 hU ?_
  refine go_ ?_
  obtain ⟨l, hl, hg⟩ := bind_some hg
  refine c0_ rfl rfl (r_sliS_lo sl35 e8_len hl) rfl rfl ?_
  obtain ⟨y, hy, hg⟩ := bind_some hg
  refine ca_ (hrec _ _ hy) ?_
  refine go_ ?_
  refine ch_n fun hU => ?_
  refine awp_seq ?_
  refine sr_ 129 145 hU ?_
  refine go_ ?_
  refine ch_n fun hU => ?_
  refine cg_ rfl hg (fun h8 hg => ?_) fun h8 hg => ?_
  ·refine awp_seq ?_
   refine awp_region (sys _ _ []) 145 161 hU rfl rfl ?_
   refine go_ ?_
   refine ch_n fun hU => ?_
   refine aw_r ?_
   replace hg := leave hg hn1
   obtain rfl := Option.some.inj hg
   exact fin_ [] ⟨rfl, rfl⟩
  ·refine awp_skip ?_
   repeat first | refine st_ ?_ | refine sn_ ?_
   refine awp_region (sys _ _ []) 145 217 hU rfl rfl ?_
   refine go_ ?_
   refine c0_ rfl rfl (r_buildFull sl39 z41 (by decide) rfl rfl rfl rfl ck41 (cs := [.int .i64 y.1.Tag, .sl 1 (encL e8 y.1.Bytes), .bool y.1.Nested, .sl 4 (encL api_Value.enc y.1.Elements)]) (.cons .int (.cons .sl (.cons .bool (.cons .sl .nil)))) rfl (l := ([y.1] : List api_Value)) (f := api_Value.enc) (by simp only [encL, List.flatMap_cons, List.flatMap_nil, api_Value.enc_eq]; rfl)) rfl rfl ?_
   obtain ⟨l_2, hl_2, hg⟩ := bind_some hg
   refine ch_s (rd := [0, 161]) rfl rfl (r_append sl39 api_Value.enc_len .row rfl .row rfl hl_2 rfl) rfl rfl ?_
   refine go_ ?_
   refine ch_n fun hU => ?_
   obtain rfl := Option.some.inj hg
   exact ⟨((W (at_1 + y.2.1), l_2), m1), Nat.lt_succ_self _, hn1, sub_ [(0, 169)]⟩
 ·refine awp_exit ?_
  repeat first | refine st_ ?_ | refine sn_ ?_
  replace hg := leave hg hn1
  refine sr_ 33 57 hU ?_
  refine go_ ?_
  refine ch_n fun hU => ?_
  refine aw_r ?_
  obtain rfl := Option.some.inj hg
  exact fin_ [] ⟨rfl, rfl⟩
theorem w_der_next.F (rec : (List UInt8) → Option (api_Value × Int × Bool)) (hrec : ∀ (b : (List UInt8)) (r : api_Value × Int × Bool), rec b = some r → Fn Tryz.prog 65 0 [.sl 1 (encL e8 b)] [] (fun d b => d = .tup [.agg (api_Value.dv r.1), .val (.int .i64 r.2.1), .val (.bool r.2.2)] ∧ b = [])) (b : (List UInt8)) (r : api_Value × Int × Bool) (hg : g_der_next.F rec b = some r) : Fn Tryz.prog 65 0 [.sl 1 (encL e8 b)] [] (fun d b => d = .tup [.agg (api_Value.dv r.1), .val (.int .i64 r.2.1), .val (.bool r.2.2)] ∧ b = []) := by
 unfold g_der_next.F at hg
 refine Fn.of Tryz.func65 rfl rfl rfl fun w0 I ρ0 => ?_
 show awp _ ⟨w0, I, ρ0, 0, 0, 83⟩ _ _ _
 refine sr_ 0 24 mk_U ?_
 refine go_ ?_
 refine ch_n fun hU => ?_
 refine awp_seq ?_
 refine awp_cut (ι := Bool) (fun (x20_1 : Bool) => mk [(0, .sl 1 (encL e8 b)), (2, .ptr 0 0), (20, .val (.bool x20_1))] [(0, .box [.val (.int .i64 0), .val (.slice none 0 0), .val (.bool false), .val (.slice none 0 0)] 41)] 1) (fun (x20_1 : Bool) => g_der_next.j1 rec b x20_1 = some r) ?_ ?_
 ·refine awp_region (sys _ _ []) 24 112 hU rfl rfl ?_
  refine go_ ?_
  rcases bc_ hg with ⟨h2, hg⟩ | ⟨h2, hg⟩
  ·refine go_ ?_
   refine ch_n fun hU => ?_
   exact ⟨true, hg, sub_ [(0, 0)]⟩
  ·refine go_ ?_
   obtain ⟨e, he, hg⟩ := bind_some hg
   refine go_ ?_
   refine c0_ (gdv_t rfl rfl h2) rfl (r_loadE1 ty5 (enc_cell e8_len (getI_at he) (o := 0) (c := .int .u8 (e.toNat : Int)) rfl rfl)) rfl rfl ?_
   refine c0_ (gdv_t rfl rfl h2) rfl (r_conv_8i (u := e) und5 und3) rfl rfl ?_
   obtain ⟨y, hy, hg⟩ := bind_some hg
   refine ca_ (w_der_tag _ _ hy) ?_
   refine go_ ?_
   refine ch_n fun hU => ?_
   exact ⟨!y, hg, sub_ [(0, 0)]⟩
 ·rintro x20_1 hg
  replace hg : g_der_next.j1 rec b x20_1 = some r := hg
  show awp _ _ _ _ (mk _ _ _)
  unfold g_der_next.j1 at hg
  refine cg_ rfl hg (fun h5 hg => ?_) fun h5 hg => ?_
  ·refine awp_seq ?_
   refine awp_region (sys _ _ []) 1 33 mk_U rfl rfl ?_
   refine c0_ rfl rfl (.build (r := [.val (.int .i64 0), .val (.slice none 0 0), .val (.bool false), .val (.slice none 0 0)]) und41 pl41 z41 (by kernel_rfl) rfl) rfl rfl ?_
   refine go_ ?_
   refine ch_n fun hU => ?_
   refine aw_r ?_
   obtain rfl := Option.some.inj hg
   exact fin_ [] ⟨rfl, rfl⟩
  ·refine awp_skip ?_
   repeat first | refine st_ ?_ | refine sn_ ?_
   refine sr_ 1 81 mk_U ?_
   refine go_ ?_
   obtain ⟨l, hl, hg⟩ := bind_some hg
   refine c0_ rfl rfl (r_sliS_lo sl35 e8_len hl) rfl rfl ?_
   obtain ⟨y_2, hy_2, hg⟩ := bind_some hg
   refine ca_ (w_der_size _ _ hy_2) ?_
   refine go_ ?_
   refine ch_n fun hU => ?_
   refine sr_ 81 105 hU ?_
   refine go_ ?_
   refine ch_n fun hU => ?_
   refine awp_cut (ι := Bool) (fun (x40_2 : Bool) => mk [(0, .sl 1 (encL e8 b)), (2, .ptr 0 0), (5, .val (.int .i64 y_2.1)), (8, .val (.int .i64 (W (1 + y_2.2.1)))), (40, .val (.bool x40_2))] [(0, .box [.val (.int .i64 0), .val (.slice none 0 0), .val (.bool false), .val (.slice none 0 0)] 41)] 1) (fun (x40_2 : Bool) => g_der_next.j2 rec b y_2 x40_2 = some r) ?_ ?_
   ·refine awp_region (sys _ _ []) 105 185 hU rfl rfl ?_
    refine go_ ?_
    rcases bc_ hg with ⟨h9, hg⟩ | ⟨h9, hg⟩
    ·refine go_ ?_
     refine ch_n fun hU => ?_
     exact ⟨true, hg, sub_ [(0, 0)]⟩
    ·refine go_ ?_
     refine ch_n fun hU => ?_
     exact ⟨decide ((W ((b.length : Int) - (W (1 + y_2.2.1)))) < y_2.1), hg, sub_ [(0, 0)]⟩
   ·rintro x40_2 hg
    replace hg : g_der_next.j2 rec b y_2 x40_2 = some r := hg
    show awp _ _ _ _ (mk _ _ _)
    unfold g_der_next.j2 at hg
    refine cg_ rfl hg (fun h12 hg => ?_) fun h12 hg => ?_
    ·refine awp_seq ?_
     refine awp_region (sys _ _ []) 1 33 mk_U rfl rfl ?_
     refine c0_ rfl rfl (.build (r := [.val (.int .i64 0), .val (.slice none 0 0), .val (.bool false), .val (.slice none 0 0)]) und41 pl41 z41 (by kernel_rfl) rfl) rfl rfl ?_
     refine go_ ?_
     refine ch_n fun hU => ?_
     refine aw_r ?_
     obtain rfl := Option.some.inj hg
     exact fin_ [] ⟨rfl, rfl⟩
    ·refine awp_seq ?_
     refine awp_draw (sys _ _ []) (by kernel_rfl) [0, 1, 3, 7, 0, 16, 48, 112, 240, 496, 1023, 0, 4095] 1 105 mk_U rfl rfl (by kernel_rfl) ?_
     refine go_ ?_
     obtain ⟨e_2, he_2, hg⟩ := bind_some hg
     refine go_ ?_
     refine c0_ rfl rfl (r_loadE1 ty5 (enc_cell e8_len (getI_at he_2) (o := 0) (c := .int .u8 (e_2.toNat : Int)) rfl rfl)) rfl rfl ?_
     refine c0_ rfl rfl (r_conv_8i (u := e_2) und5 und3) rfl rfl ?_
     refine go_ ?_
     refine c0_ rfl rfl (r_loadE1 ty5 (enc_cell e8_len (getI_at he_2) (o := 0) (c := .int .u8 (e_2.toNat : Int)) rfl rfl)) rfl rfl ?_
     refine c0_ rfl rfl (r_conv_8i (u := e_2) und5 und3) rfl rfl ?_
     refine c0_ rfl rfl r_andK rfl rfl ?_
     refine go_ ?_
     refine c0_ rfl rfl (.build (r := [.val (.int .i64 (e_2.toNat : Int)), .val (.slice none 0 0), .val (.bool (!decide ((andK .i64 (e_2.toNat : Int) 32) = 0))), .val (.slice none 0 0)]) und41 pl41 z41 (by kernel_rfl) rfl) rfl rfl ?_
     refine go_ ?_
     refine ch_n fun hU => ?_
     refine sr_ 105 121 hU ?_
     refine go_ ?_
     refine ch_n fun hU => ?_
     refine cg_ rfl hg (fun h16 hg => ?_) fun h16 hg => ?_
     ·refine awp_seq ?_
      refine awp_region (sys _ _ []) 121 225 hU rfl rfl ?_
      refine go_ ?_
      obtain ⟨l_2, hl_2, hg⟩ := bind_some hg
      refine c0_ rfl rfl (r_sliS sl35 e8_len hl_2) rfl rfl ?_
      obtain ⟨y_3, hy_3, hg⟩ := bind_some hg
      refine ca_ (w_der_all rec hrec _ _ hy_3) ?_
      refine go_ ?_
      refine ch_n fun hU => ?_
      refine sr_ 225 289 hU ?_
      refine go_ ?_
      refine ch_n fun hU => ?_
      refine aw_r ?_
      obtain rfl := Option.some.inj hg
      exact fin_ [] ⟨rfl, rfl⟩
     ·refine awp_seq ?_
      refine awp_region (sys _ _ []) 121 193 hU rfl rfl ?_
      refine go_ ?_
      obtain ⟨l_3, hl_3, hg⟩ := bind_some hg
      refine c0_ rfl rfl (r_sliS sl35 e8_len hl_3) rfl rfl ?_
      obtain ⟨y_4, hy_4, hg⟩ := bind_some hg
      refine ca_ (w_bytes_Clone _ _ hy_4) ?_
      refine go_ ?_
      refine ch_n fun hU => ?_
      refine sr_ 193 249 hU ?_
      refine go_ ?_
      refine ch_n fun hU => ?_
      refine aw_r ?_
      obtain rfl := Option.some.inj hg
      exact fin_ [] ⟨rfl, rfl⟩
theorem w_der_next (b : (List UInt8)) (r : api_Value × Int × Bool) (hg : g_der_next b = some r) : Fn Tryz.prog 65 0 [.sl 1 (encL e8 b)] [] (fun d b => d = .tup [.agg (api_Value.dv r.1), .val (.int .i64 r.2.1), .val (.bool r.2.2)] ∧ b = []) :=
 fixT_ind (motive := fun (x : (List UInt8)) (r : api_Value × Int × Bool) => Fn Tryz.prog 65 0 [.sl 1 (encL e8 x)] [] (fun d x => d = .tup [.agg (api_Value.dv r.1), .val (.int .i64 r.2.1), .val (.bool r.2.2)] ∧ x = [])) (fun rec hrec x r h => w_der_next.F _ (fun b r h => hrec b r h) x r h) b r hg
theorem w_der_Decode (b : (List UInt8)) (r : api_Value × Int) (hg : g_der_Decode b = some r) : Fn Tryz.prog 40 0 [.sl 1 (encL e8 b)] [] (fun d b => d = .tup [.agg (api_Value.dv r.1), .val (.int .i64 r.2)] ∧ b = []) := by
 unfold g_der_Decode at hg
 refine Fn.of Tryz.func40 rfl rfl rfl fun w0 I ρ0 => ?_
 show awp _ ⟨w0, I, ρ0, 0, 0, 31⟩ _ _ _
 refine sr_ 0 16 mk_U ?_
 refine go_ ?_
 refine ch_n fun hU => ?_
 refine awp_seq ?_
 refine sr_ 16 40 hU ?_
 refine go_ ?_
 refine ch_n fun hU => ?_
 refine cg_ rfl hg (fun h3 hg => ?_) fun h3 hg => ?_
 ·refine awp_seq ?_
  refine awp_region (sys _ _ []) 40 64 hU rfl rfl ?_
  refine c0_ rfl rfl (.build (r := [.val (.int .i64 0), .val (.slice none 0 0), .val (.bool false), .val (.slice none 0 0)]) und41 pl41 z41 (by kernel_rfl) rfl) rfl rfl ?_
  refine go_ ?_
  refine ch_n fun hU => ?_
  refine aw_r ?_
  obtain rfl := Option.some.inj hg
  exact fin_ [] ⟨rfl, rfl⟩
 ·refine awp_skip ?_
  repeat first | refine st_ ?_ | refine sn_ ?_
  refine sr_ 40 120 hU ?_
  refine go_ ?_
  obtain ⟨y, hy, hg⟩ := bind_some hg
  refine ca_ (w_der_next _ _ hy) ?_
  refine go_ ?_
  refine ch_n fun hU => ?_
  refine awp_seq ?_
  refine awp_cut (ι := Bool) (fun (x24_1 : Bool) => mk [(2, .ptr 0 0), (4, .ptr 1 0), (24, .val (.bool x24_1))] [(0, .box [.val (.int .i64 0), .val (.slice none 0 0), .val (.bool false), .val (.slice none 0 0)] 41), (1, .box (api_Value.dv y.1) 41)] 2) (fun (x24_1 : Bool) => g_der_Decode.j1 y x24_1 = some r) ?_ ?_
  ·refine awp_region (sys _ _ []) 120 184 hU rfl rfl ?_
   refine go_ ?_
   rcases bc_ hg with ⟨h6, hg⟩ | ⟨h6, hg⟩
   ·refine go_ ?_
    refine ch_n fun hU => ?_
    exact ⟨true, hg, sub_ [(0, 0), (1, 88)]⟩
   ·refine go_ ?_
    refine ch_n fun hU => ?_
    exact ⟨!decide (y.2.1 = (b.length : Int)), hg, sub_ [(0, 0), (1, 88)]⟩
  ·rintro x24_1 hg
   replace hg : g_der_Decode.j1 y x24_1 = some r := hg
   show awp _ _ _ _ (mk _ _ _)
   unfold g_der_Decode.j1 at hg
   refine cg_ rfl hg (fun h9 hg => ?_) fun h9 hg => ?_
   ·refine awp_seq ?_
    refine awp_region (sys _ _ []) 2 26 mk_U rfl rfl ?_
    refine c0_ rfl rfl (.build (r := [.val (.int .i64 0), .val (.slice none 0 0), .val (.bool false), .val (.slice none 0 0)]) und41 pl41 z41 (by kernel_rfl) rfl) rfl rfl ?_
    refine go_ ?_
    refine ch_n fun hU => ?_
    refine aw_r ?_
    obtain rfl := Option.some.inj hg
    exact fin_ [] ⟨rfl, rfl⟩
   ·refine awp_skip ?_
    repeat first | refine st_ ?_ | refine sn_ ?_
    refine awp_seq ?_
    refine sr_ 2 26 mk_U ?_
    refine go_ ?_
    obtain ⟨y_2, hy_2, hg⟩ := bind_some hg
    refine ca_ (w_der_depth _ _ hy_2) ?_
    refine go_ ?_
    refine ch_n fun hU => ?_
    refine cg_ rfl hg (fun h12 hg => ?_) fun h12 hg => ?_
    ·refine awp_seq ?_
     refine awp_region (sys _ _ []) 26 50 hU rfl rfl ?_
     refine c0_ rfl rfl (.build (r := [.val (.int .i64 0), .val (.slice none 0 0), .val (.bool false), .val (.slice none 0 0)]) und41 pl41 z41 (by kernel_rfl) rfl) rfl rfl ?_
     refine go_ ?_
     refine ch_n fun hU => ?_
     refine aw_r ?_
     obtain rfl := Option.some.inj hg
     exact fin_ [] ⟨rfl, rfl⟩
    ·refine awp_skip ?_
     repeat first | refine st_ ?_ | refine sn_ ?_
     refine sr_ 26 50 hU ?_
     refine go_ ?_
     refine ch_n fun hU => ?_
     refine aw_r ?_
     obtain rfl := Option.some.inj hg
     exact fin_ [] ⟨rfl, rfl⟩
theorem w_der_AsList (v : api_Value) (r : (List api_Value) × Int) (hg : g_der_AsList v = some r) : Fn Tryz.prog 109 0 [.agg (api_Value.dv v)] [] (fun d b => d = .tup [.sl 4 (encL api_Value.enc r.1), .val (.int .i64 r.2)] ∧ b = []) := by
 unfold g_der_AsList at hg
 refine Fn.of Tryz.func109 rfl rfl rfl fun w0 I ρ0 => ?_
 show awp _ ⟨w0, I, ρ0, 0, 0, 15⟩ _ _ _
 refine sr_ 0 24 mk_U ?_
 refine go_ ?_
 refine ch_n fun hU => ?_
 refine awp_seq ?_
 refine awp_cut (ι := Bool) (fun (x11_1 : Bool) => mk [(1, .ptr 0 0), (11, .val (.bool x11_1))] [(0, .box (api_Value.dv v) 41)] 1) (fun (x11_1 : Bool) => g_der_AsList.j1 v x11_1 = some r) ?_ ?_
 ·refine awp_region (sys _ _ []) 24 88 hU rfl rfl ?_
  refine go_ ?_
  rcases bc_ hg with ⟨h2, hg⟩ | ⟨h2, hg⟩
  ·refine go_ ?_
   refine ch_n fun hU => ?_
   exact ⟨true, hg, sub_ [(0, 0)]⟩
  ·refine go_ ?_
   obtain ⟨y, hy, hg⟩ := bind_some hg
   refine ca_ (w_der_formed _ _ hy) ?_
   refine go_ ?_
   refine ch_n fun hU => ?_
   exact ⟨!y, hg, sub_ [(0, 0)]⟩
 ·rintro x11_1 hg
  replace hg : g_der_AsList.j1 v x11_1 = some r := hg
  show awp _ _ _ _ (mk _ _ _)
  unfold g_der_AsList.j1 at hg
  refine cg_ rfl hg (fun h5 hg => ?_) fun h5 hg => ?_
  ·refine awp_seq ?_
   refine awp_region (sys _ _ []) 1 17 mk_U rfl rfl ?_
   refine go_ ?_
   refine ch_n fun hU => ?_
   refine aw_r ?_
   obtain rfl := Option.some.inj hg
   exact fin_ [] ⟨rfl, rfl⟩
  ·refine awp_skip ?_
   repeat first | refine st_ ?_ | refine sn_ ?_
   refine sr_ 1 41 mk_U ?_
   refine go_ ?_
   obtain ⟨y_2, hy_2, hg⟩ := bind_some hg
   refine ca_ (w_der_copied _ _ hy_2) ?_
   refine go_ ?_
   refine ch_n fun hU => ?_
   refine aw_r ?_
   obtain rfl := Option.some.inj hg
   exact fin_ [] ⟨rfl, rfl⟩
theorem w_certificate_Read (v : api_Value) (count : Int) (r : certificate_Reader) (hg : g_certificate_Read v count = some r) : Fn Tryz.prog 67 0 [.agg (api_Value.dv v), .val (.int .i64 count)] [] (fun d b => d = .ptr 0 0 ∧ b = [.box [.sl 4 (encL api_Value.enc r.l), .val (.bool r.Failed)] 100]) := by
 unfold g_certificate_Read at hg
 refine Fn.of Tryz.func67 rfl rfl rfl fun w0 I ρ0 => ?_
 show awp _ ⟨w0, I, ρ0, 0, 0, 23⟩ _ _ _
 refine sr_ 0 16 mk_U ?_
 refine go_ ?_
 refine ch_n fun hU => ?_
 refine sr_ 16 72 hU ?_
 refine go_ ?_
 obtain ⟨y, hy, hg⟩ := bind_some hg
 refine ca_ (w_der_AsList _ _ hy) ?_
 refine go_ ?_
 refine ch_n fun hU => ?_
 refine sr_ 72 168 hU ?_
 refine go_ ?_
 rcases bc_ hg with ⟨h3, hg⟩ | ⟨h3, hg⟩
 ·refine go_ ?_
  refine c0_ rfl rfl (.build (r := [.sl 4 (encL api_Value.enc y.1), .val (.bool true)]) und100 pl100 z100 (by kernel_rfl) rfl) rfl rfl ?_
  refine go_ ?_
  refine ch_n fun hU => ?_
  refine aw_r ?_
  obtain rfl := Option.some.inj hg
  exact fin_ [(0, 152)] ⟨rfl, rfl⟩
 ·refine go_ ?_
  refine c0_ rfl rfl (.build (r := [.sl 4 (encL api_Value.enc y.1), .val (.bool (!decide ((y.1.length : Int) = count)))]) und100 pl100 z100 (by kernel_rfl) rfl) rfl rfl ?_
  refine go_ ?_
  refine ch_n fun hU => ?_
  refine aw_r ?_
  obtain rfl := Option.some.inj hg
  exact fin_ [(0, 152)] ⟨rfl, rfl⟩
theorem w_certificate_Reader_Next (r' : certificate_Reader) (r : api_Value × certificate_Reader) (hg : g_certificate_Reader_Next r' = some r) : Fn Tryz.prog 68 1 [.ptr 0 0] [.box [.sl 4 (encL api_Value.enc r'.l), .val (.bool r'.Failed)] 100] (fun d b => d = .agg (api_Value.dv r.1) ∧ b = [.box [.sl 4 (encL api_Value.enc r.2.l), .val (.bool r.2.Failed)] 100]) := by
 unfold g_certificate_Reader_Next at hg
 refine Fn.of Tryz.func68 rfl rfl rfl fun w0 I ρ0 => ?_
 show awp _ ⟨w0, I, ρ0, 1, 1, 35⟩ _ _ _
 refine sr_ 1 9 mk_U ?_
 refine go_ ?_
 refine ch_n fun hU => ?_
 refine awp_seq ?_
 refine awp_cut (ι := Bool) (fun (x15_1 : Bool) => mk [(0, .ptr 0 0), (2, .ptr 1 0), (15, .val (.bool x15_1))] [(0, .box [.sl 4 (encL api_Value.enc r'.l), .val (.bool r'.Failed)] 100), (1, .box [.val (.int .i64 0), .val (.slice none 0 0), .val (.bool false), .val (.slice none 0 0)] 41)] 2) (fun (x15_1 : Bool) => g_certificate_Reader_Next.j1 r' x15_1 = some r) ?_ ?_
 ·refine awp_region (sys _ _ []) 9 105 hU rfl rfl ?_
  refine go_ ?_
  rcases bc_ hg with ⟨h2, hg⟩ | ⟨h2, hg⟩
  ·refine go_ ?_
   refine ch_n fun hU => ?_
   exact ⟨true, hg, sub_ [(0, 0), (1, 1)]⟩
  ·refine go_ ?_
   refine ch_n fun hU => ?_
   exact ⟨decide ((r'.l.length : Int) = 0), hg, sub_ [(0, 0), (1, 1)]⟩
 ·rintro x15_1 hg
  replace hg : g_certificate_Reader_Next.j1 r' x15_1 = some r := hg
  show awp _ _ _ _ (mk _ _ _)
  unfold g_certificate_Reader_Next.j1 at hg
  refine cg_ rfl hg (fun h5 hg => ?_) fun h5 hg => ?_
  ·refine awp_seq ?_
   refine awp_region (sys _ _ []) 2 34 mk_U rfl rfl ?_
   refine go_ ?_
   refine ch_n fun hU => ?_
   refine sr_ 34 50 hU ?_
   refine c0_ rfl rfl (.build (r := [.val (.int .i64 0), .val (.slice none 0 0), .val (.bool false), .val (.slice none 0 0)]) und41 pl41 z41 (by kernel_rfl) rfl) rfl rfl ?_
   refine go_ ?_
   refine ch_n fun hU => ?_
   refine aw_r ?_
   obtain rfl := Option.some.inj hg
   exact fin_ [(0, 0)] ⟨rfl, rfl⟩
  ·refine awp_skip ?_
   repeat first | refine st_ ?_ | refine sn_ ?_
   refine sr_ 2 66 mk_U ?_
   refine go_ ?_
   obtain ⟨e, he, hg⟩ := bind_some hg
   refine go_ ?_
   refine c0_ rfl rfl (r_loadEA ty41 (enc_cells api_Value.enc_len (getI_at he) (o := 0) (m := 4) (cs := [.int .i64 e.Tag, .sl 1 (encL e8 e.Bytes), .bool e.Nested, .sl 4 (encL api_Value.enc e.Elements)]) (by simp only [api_Value.enc_eq]; rfl) (by decide) rfl) (enc_cells_le api_Value.enc_len (getI_at he) (o := 0) (m := 4) (by decide) rfl)) rfl rfl ?_
   refine go_ ?_
   refine ch_n fun hU => ?_
   refine sr_ 66 138 hU ?_
   refine go_ ?_
   obtain ⟨l, hl, hg⟩ := bind_some hg
   refine c0_ rfl rfl (r_sliS_lo sl39 api_Value.enc_len hl) rfl rfl ?_
   refine go_ ?_
   refine ch_n fun hU => ?_
   refine sr_ 138 154 hU ?_
   refine go_ ?_
   refine ch_n fun hU => ?_
   refine aw_r ?_
   obtain rfl := Option.some.inj hg
   exact fin_ [(0, 0)] ⟨rfl, rfl⟩
theorem w_der_plain (v : api_Value) (tag : Int) (r : Bool) (hg : g_der_plain v tag = some r) : Fn Tryz.prog 131 0 [.agg (api_Value.dv v), .val (.int .i64 tag)] [] (fun d b => d = .val (.bool r) ∧ b = []) := by
 unfold g_der_plain at hg
 refine Fn.of Tryz.func131 rfl rfl rfl fun w0 I ρ0 => ?_
 show awp _ ⟨w0, I, ρ0, 0, 0, 20⟩ _ _ _
 refine sr_ 0 16 mk_U ?_
 refine go_ ?_
 refine ch_n fun hU => ?_
 refine sr_ 16 144 hU ?_
 refine go_ ?_
 rcases bc_ hg with ⟨h2, hg⟩ | ⟨h2, hg⟩
 ·refine go_ ?_
  rcases bc_ hg with ⟨h3, hg⟩ | ⟨h3, hg⟩
  ·refine go_ ?_
   refine ch_n fun hU => ?_
   refine aw_r ?_
   obtain rfl := Option.some.inj hg
   exact fin_ [] ⟨rfl, rfl⟩
  ·refine go_ ?_
   refine ch_n fun hU => ?_
   refine aw_r ?_
   obtain rfl := Option.some.inj hg
   exact fin_ [] ⟨rfl, rfl⟩
 ·refine go_ ?_
  refine ch_n fun hU => ?_
  refine aw_r ?_
  obtain rfl := Option.some.inj hg
  exact fin_ [] ⟨rfl, rfl⟩
theorem w_bytes_Equal (a : (List UInt8)) (b : (List UInt8)) (r : Bool) (hg : g_bytes_Equal a b = some r) : Fn Tryz.prog 132 0 [.sl 1 (encL e8 a), .sl 1 (encL e8 b)] [] (fun d b => d = .val (.bool r) ∧ b = []) := by
 unfold g_bytes_Equal at hg
 refine Fn.of Tryz.func132 rfl rfl rfl fun w0 I ρ0 => ?_
 show awp _ ⟨w0, I, ρ0, 0, 0, 10⟩ _ _ _
 refine sr_ 0 8 mk_U ?_
 refine go_ ?_
 refine ch_n fun hU => ?_
 refine sr_ 8 56 hU ?_
 refine go_ ?_
 refine c0_ rfl rfl (r_convS und35 und5 und9 .sl rfl) rfl rfl ?_
 refine go_ ?_
 refine c0_ rfl rfl (r_convS und35 und5 und9 .sl rfl) rfl rfl ?_
 refine go_ ?_
 refine ch_n fun hU => ?_
 refine aw_r ?_
 obtain rfl := Option.some.inj hg
 exact fin_ [] ⟨rfl, rfl⟩
theorem w_der_AsInt (v : api_Value) (r : Int × Int) (hg : g_der_AsInt v = some r) : Fn Tryz.prog 110 0 [.agg (api_Value.dv v)] [] (fun d b => d = .tup [.val (.int .i64 r.1), .val (.int .i64 r.2)] ∧ b = []) := by
 unfold g_der_AsInt at hg
 refine Fn.of Tryz.func110 rfl rfl rfl fun w0 I ρ0 => ?_
 show awp _ ⟨w0, I, ρ0, 0, 0, 52⟩ _ _ _
 refine sr_ 0 24 mk_U ?_
 refine go_ ?_
 refine ch_n fun hU => ?_
 refine awp_seq ?_
 refine awp_cut (ι := Bool) (fun (x21_1 : Bool) => mk [(1, .ptr 0 0), (21, .val (.bool x21_1))] [(0, .box (api_Value.dv v) 41)] 1) (fun (x21_1 : Bool) => g_der_AsInt.j1 v x21_1 = some r) ?_ ?_
 ·refine awp_region (sys _ _ []) 24 144 hU rfl rfl ?_
  refine go_ ?_
  obtain ⟨y, hy, hg⟩ := bind_some hg
  refine ca_ (w_der_plain _ _ _ hy) ?_
  refine go_ ?_
  rcases bc_ hg with ⟨h2, hg⟩ | ⟨h2, hg⟩
  ·refine go_ ?_
   refine ch_n fun hU => ?_
   exact ⟨true, hg, sub_ [(0, 0)]⟩
  ·refine go_ ?_
   rcases bc_ hg with ⟨h4, hg⟩ | ⟨h4, hg⟩
   ·refine go_ ?_
    refine ch_n fun hU => ?_
    exact ⟨true, hg, sub_ [(0, 0)]⟩
   ·refine go_ ?_
    refine ch_n fun hU => ?_
    exact ⟨decide (8 < (v.Bytes.length : Int)), hg, sub_ [(0, 0)]⟩
 ·rintro x21_1 hg
  replace hg : g_der_AsInt.j1 v x21_1 = some r := hg
  show awp _ _ _ _ (mk _ _ _)
  unfold g_der_AsInt.j1 at hg
  refine cg_ rfl hg (fun h7 hg => ?_) fun h7 hg => ?_
  ·refine awp_seq ?_
   refine awp_region (sys _ _ []) 1 17 mk_U rfl rfl ?_
   refine go_ ?_
   refine ch_n fun hU => ?_
   refine aw_r ?_
   obtain rfl := Option.some.inj hg
   exact fin_ [] ⟨rfl, rfl⟩
  ·refine awp_skip ?_
   repeat first | refine st_ ?_ | refine sn_ ?_
   refine sr_ 1 9 mk_U ?_
   refine go_ ?_
   refine ch_n fun hU => ?_
   refine awp_cut (ι := Int) (fun (n_2 : Int) => mk [(1, .ptr 0 0), (4, .val (.int .u64 n_2))] [(0, .box (api_Value.dv v) 41)] 1) (fun (n_2 : Int) => g_der_AsInt.j2 v n_2 = some r) ?_ ?_
   ·refine awp_seq ?_
    refine awp_region (sys _ _ []) 9 49 hU rfl rfl ?_
    refine go_ ?_
    obtain ⟨e, he, hg⟩ := bind_some hg
    refine go_ ?_
    refine c0_ rfl rfl (r_loadE1 ty5 (enc_cell e8_len (getI_at he) (o := 0) (c := .int .u8 (e.toNat : Int)) rfl rfl)) rfl rfl ?_
    refine go_ ?_
    refine ch_n fun hU => ?_
    refine cg_ rfl hg (fun h11 hg => ?_) fun h11 hg => ?_
    ·refine awp_region (sys _ _ []) 49 73 hU rfl rfl ?_
     refine go_ ?_
     refine c0_ rfl rfl r_notK rfl rfl ?_
     refine go_ ?_
     refine ch_n fun hU => ?_
     exact ⟨notK .u64 0, hg, sub_ [(0, 0)]⟩
    ·refine awp_skip ?_
     repeat first | refine st_ ?_ | refine sn_ ?_
     exact ⟨0, hg, sub_ [(0, 0)]⟩
   ·rintro n_2 hg
    replace hg : g_der_AsInt.j2 v n_2 = some r := hg
    show awp _ _ _ _ (mk _ _ _)
    unfold g_der_AsInt.j2 at hg
    refine awp_seq ?_
    refine sr_ 1 33 mk_U ?_
    refine go_ ?_
    refine ch_n fun hU => ?_
    refine awp_block ?_
    refine lp_ (fun ((n_3, x32_3) : Int × Int) => mk [(1, .ptr 0 0), (4, .val (.int .u64 n_3)), (30, .sl 1 (encL e8 v.Bytes)), (31, .val (.int .i64 (v.Bytes.length : Int))), (32, .val (.int .i64 x32_3))] [(0, .box (api_Value.dv v) 41)] 1) hg (sub_ [(0, 0)]) ?_
    rintro ⟨n_3, x32_3⟩ m3 o3 hg hn3
    replace hg : g_der_AsInt.l3 v n_3 x32_3 = some o3 := hg
    show awp _ _ _ _ (mk _ _ _)
    unfold g_der_AsInt.l3 at hg
    refine sr_ 1 9 mk_U ?_
    refine go_ ?_
    refine ch_n fun hU => ?_
    refine awp_seq ?_
    refine cg_ rfl hg (fun h15 hg => ?_) fun h15 hg => ?_
    ·refine awp_skip ?_
     repeat first | refine st_ ?_ | refine sn_ ?_
     refine awp_seq ?_
     refine awp_block ?_
     refine sr_ 9 33 hU ?_
     obtain ⟨e_2, he_2, hg⟩ := bind_some hg
     refine go_ ?_
     refine c0_ rfl rfl (r_loadE1 ty5 (enc_cell e8_len (getI_at he_2) (o := 0) (c := .int .u8 (e_2.toNat : Int)) rfl rfl)) rfl rfl ?_
     refine go_ ?_
     refine ch_n fun hU => ?_
     refine awp_region (sys _ _ []) 33 81 hU rfl rfl ?_
     refine go_ ?_
     obtain ⟨q, hq, hg⟩ := bind_some hg
     refine c0_ rfl rfl (r_shlK hq) rfl rfl ?_
     refine go_ ?_
     refine c0_ rfl rfl (r_convK und5 und134) rfl rfl ?_
     refine c0_ rfl rfl r_orK rfl rfl ?_
     refine go_ ?_
     refine ch_n fun hU => ?_
     refine awp_region (sys _ _ []) 81 97 hU rfl rfl ?_
     refine go_ ?_
     refine ch_n fun hU => ?_
     obtain rfl := Option.some.inj hg
     exact ⟨((orK .u64 q (IntKind.wrap .u64 (e_2.toNat : Int)), W (x32_3 + 1)), m3), Nat.lt_succ_self _, hn3, sub_ [(0, 0)]⟩
    ·refine awp_exit ?_
     repeat first | refine st_ ?_ | refine sn_ ?_
     replace hg := leave hg hn3
     refine awp_seq ?_
     refine awp_seq ?_
     refine awp_draw (sys _ _ []) (by kernel_rfl) [0, 1, 3, 7, 0, 16, 63, 127] 9 73 hU rfl rfl (by kernel_rfl) ?_
     refine go_ ?_
     refine c0_ rfl rfl (r_conv_i64 und134 und3) rfl rfl ?_
     obtain ⟨y_2, hy_2, hg⟩ := bind_some hg
     refine ca_ (w_der_Int _ _ hy_2) ?_
     refine go_ ?_
     obtain ⟨y_3, hy_3, hg⟩ := bind_some hg
     refine ca_ (w_bytes_Equal _ _ _ hy_3) ?_
     refine go_ ?_
     refine ch_n fun hU => ?_
     refine cg_ rfl hg (fun h20 hg => ?_) fun h20 hg => ?_
     ·refine awp_seq ?_
      refine awp_region (sys _ _ []) 73 89 hU rfl rfl ?_
      refine go_ ?_
      refine ch_n fun hU => ?_
      refine aw_r ?_
      obtain rfl := Option.some.inj hg
      exact fin_ [] ⟨rfl, rfl⟩
     ·refine awp_skip ?_
      repeat first | refine st_ ?_ | refine sn_ ?_
      refine sr_ 73 105 hU ?_
      refine go_ ?_
      refine c0_ rfl rfl (r_conv_i64 und134 und3) rfl rfl ?_
      refine go_ ?_
      refine ch_n fun hU => ?_
      refine aw_r ?_
      obtain rfl := Option.some.inj hg
      exact fin_ [] ⟨rfl, rfl⟩
theorem w_certificate_Reader_Int (r' : certificate_Reader) (r : Int × certificate_Reader) (hg : g_certificate_Reader_Int r' = some r) : Fn Tryz.prog 70 1 [.ptr 0 0] [.box [.sl 4 (encL api_Value.enc r'.l), .val (.bool r'.Failed)] 100] (fun d b => d = .val (.int .i64 r.1) ∧ b = [.box [.sl 4 (encL api_Value.enc r.2.l), .val (.bool r.2.Failed)] 100]) := by
 unfold g_certificate_Reader_Int at hg
 refine Fn.of Tryz.func70 rfl rfl rfl fun w0 I ρ0 => ?_
 show awp _ ⟨w0, I, ρ0, 1, 1, 23⟩ _ _ _
 refine sr_ 1 9 mk_U ?_
 refine go_ ?_
 refine ch_n fun hU => ?_
 refine sr_ 9 73 hU ?_
 refine go_ ?_
 obtain ⟨y, hy, hg⟩ := bind_some hg
 refine cb_ [0] [0] [] false (w_certificate_Reader_Next _ _ hy) ?_
 obtain ⟨y_2, hy_2, hg⟩ := bind_some hg
 refine ca_ (w_der_AsInt _ _ hy_2) ?_
 refine go_ ?_
 refine ch_n fun hU => ?_
 refine sr_ 73 169 hU ?_
 refine go_ ?_
 rcases bc_ hg with ⟨h3, hg⟩ | ⟨h3, hg⟩
 ·refine go_ ?_
  refine ch_n fun hU => ?_
  refine sr_ 169 185 hU ?_
  refine go_ ?_
  refine ch_n fun hU => ?_
  refine aw_r ?_
  obtain rfl := Option.some.inj hg
  exact fin_ [(0, 0)] ⟨rfl, rfl⟩
 ·refine go_ ?_
  refine ch_n fun hU => ?_
  refine sr_ 169 185 hU ?_
  refine go_ ?_
  refine ch_n fun hU => ?_
  refine aw_r ?_
  obtain rfl := Option.some.inj hg
  exact fin_ [(0, 0)] ⟨rfl, rfl⟩
theorem w_certificate_Parse_c1 (c0 : certificate_Reader) (c1 : api_Certificate) (r : certificate_Reader × api_Certificate) (hg : g_certificate_Parse_c1 c0 c1 = some r) : Fn Tryz.prog 69 3 [.ptr 0 0, .ptr 2 0] [.box [.ptr 1 0] 91, .box [.sl 4 (encL api_Value.enc c0.l), .val (.bool c0.Failed)] 100, .box (api_Certificate.dv c1) 33] (fun d b => d = .tup [] ∧ b = [.box [.ptr 1 0] 91, .box [.sl 4 (encL api_Value.enc r.1.l), .val (.bool r.1.Failed)] 100, .box (api_Certificate.dv r.2) 33]) := by
 unfold g_certificate_Parse_c1 at hg
 refine Fn.of Tryz.func69 rfl rfl rfl fun w0 I ρ0 => ?_
 show awp _ ⟨w0, I, ρ0, 3, 3, 5⟩ _ _ _
 refine awp_region (sys _ _ []) 3 35 mk_U rfl rfl ?_
 refine go_ ?_
 obtain ⟨y, hy, hg⟩ := bind_some hg
 refine cb_ [1] [1] [] false (w_certificate_Reader_Int _ _ hy) ?_
 refine go_ ?_
 refine ch_n fun hU => ?_
 obtain rfl := Option.some.inj hg
 exact fin_ [(0, 0), (1, 1), (2, 2)] ⟨rfl, rfl⟩
theorem w_der_AsText_c1 (x' : UInt8) (r : Bool) (hg : g_der_AsText_c1 x' = some r) : Fn Tryz.prog 134 0 [.val (.int .u8 (x'.toNat : Int))] [] (fun d b => d = .val (.bool r) ∧ b = []) := by
 unfold g_der_AsText_c1 at hg
 refine Fn.of Tryz.func134 rfl rfl rfl fun w0 I ρ0 => ?_
 show awp _ ⟨w0, I, ρ0, 0, 0, 9⟩ _ _ _
 refine sr_ 0 8 mk_U ?_
 refine go_ ?_
 refine ch_n fun hU => ?_
 refine sr_ 8 64 hU ?_
 refine go_ ?_
 rcases bc_ hg with ⟨h2, hg⟩ | ⟨h2, hg⟩
 ·refine go_ ?_
  refine ch_n fun hU => ?_
  refine aw_r ?_
  obtain rfl := Option.some.inj hg
  exact fin_ [] ⟨rfl, rfl⟩
 ·refine go_ ?_
  refine ch_n fun hU => ?_
  refine aw_r ?_
  obtain rfl := Option.some.inj hg
  exact fin_ [] ⟨rfl, rfl⟩
theorem w_slices_IndexFunc_byte_clo_134_0_ (s : (List UInt8)) (f : UInt8 → Option (Bool)) (hf_f : ∀ (x0 : UInt8) (y : Bool), f x0 = some y → Fn Tryz.prog 134 0 [.val (.int .u8 (x0.toNat : Int))] [] (fun d b => d = .val (.bool y) ∧ b = [])) (r : Int) (hg : g_slices_IndexFunc_byte s f = some r) : Fn Tryz.prog 138 0 [.sl 1 (encL e8 s), .clo 134 0 []] [] (fun d b => d = .val (.int .i64 r) ∧ b = []) := by
 unfold g_slices_IndexFunc_byte at hg
 refine Fn.of Tryz.func138 rfl rfl rfl fun w0 I ρ0 => ?_
 show awp _ ⟨w0, I, ρ0, 0, 0, 19⟩ _ _ _
 refine sr_ 0 8 mk_U ?_
 refine go_ ?_
 refine ch_n fun hU => ?_
 refine awp_seq ?_
 refine sr_ 8 32 hU ?_
 refine go_ ?_
 refine ch_n fun hU => ?_
 refine awp_block ?_
 refine lp_ (fun (x8_1 : Int) => mk [(0, .sl 1 (encL e8 s)), (1, .clo 134 0 []), (7, .val (.int .i64 (s.length : Int))), (8, .val (.int .i64 x8_1))] [] 0) hg (sub_ []) ?_
 rintro x8_1 m1 o1 hg hn1
 replace hg : g_slices_IndexFunc_byte.l1 s f x8_1 = some o1 := hg
 show awp _ _ _ _ (mk _ _ _)
 unfold g_slices_IndexFunc_byte.l1 at hg
 refine sr_ 0 8 mk_U ?_
 refine go_ ?_
 refine ch_n fun hU => ?_
 refine awp_seq ?_
 refine cg_ rfl hg (fun h4 hg => ?_) fun h4 hg => ?_
 ·refine awp_skip ?_
  repeat first | refine st_ ?_ | refine sn_ ?_
  refine awp_seq ?_
  refine awp_block ?_
  refine sr_ 8 24 hU ?_
  refine go_ ?_
  refine ch_n fun hU => ?_
  refine sr_ 24 72 hU ?_
  refine go_ ?_
  obtain ⟨e, he, hg⟩ := bind_some hg
  refine go_ ?_
  refine c0_ rfl rfl (r_loadE1 ty5 (enc_cell e8_len (getI_at he) (o := 0) (c := .int .u8 (e.toNat : Int)) rfl rfl)) rfl rfl ?_
  obtain ⟨y, hy, hg⟩ := bind_some hg
  refine ch_callCP (rd := []) (ps := []) (gs := []) false rfl rfl (hf_f e _ hy) rfl rfl (.cons .val .nil) rfl rfl (by intro h; cases h) rfl rfl rfl rfl ?_
  refine ch_n fun hU => ?_
  refine cg_ rfl hg (fun h7 hg => ?_) fun h7 hg => ?_
  ·refine awp_seq ?_
   refine awp_region (sys _ _ []) 72 88 hU rfl rfl ?_
   refine go_ ?_
   refine ch_n fun hU => ?_
   refine aw_r ?_
   replace hg := leave hg hn1
   obtain rfl := Option.some.inj hg
   exact fin_ [] ⟨rfl, rfl⟩
  ·refine awp_skip ?_
   repeat first | refine st_ ?_ | refine sn_ ?_
   refine awp_region (sys _ _ []) 72 88 hU rfl rfl ?_
   refine go_ ?_
   refine ch_n fun hU => ?_
   obtain rfl := Option.some.inj hg
   exact ⟨(W (x8_1 + 1), m1), Nat.lt_succ_self _, hn1, sub_ []⟩
 ·refine awp_exit ?_
  repeat first | refine st_ ?_ | refine sn_ ?_
  replace hg := leave hg hn1
  refine sr_ 8 16 hU ?_
  refine go_ ?_
  refine ch_n fun hU => ?_
  refine aw_r ?_
  obtain rfl := Option.some.inj hg
  exact fin_ [] ⟨rfl, rfl⟩
theorem w_slices_ContainsFunc_byte_clo_134_0_ (s : (List UInt8)) (f : UInt8 → Option (Bool)) (hf_f : ∀ (x0 : UInt8) (y : Bool), f x0 = some y → Fn Tryz.prog 134 0 [.val (.int .u8 (x0.toNat : Int))] [] (fun d b => d = .val (.bool y) ∧ b = [])) (r : Bool) (hg : g_slices_ContainsFunc_byte s f = some r) : Fn Tryz.prog 133 0 [.sl 1 (encL e8 s), .clo 134 0 []] [] (fun d b => d = .val (.bool r) ∧ b = []) := by
 unfold g_slices_ContainsFunc_byte at hg
 refine Fn.of Tryz.func133 rfl rfl rfl fun w0 I ρ0 => ?_
 show awp _ ⟨w0, I, ρ0, 0, 0, 9⟩ _ _ _
 refine sr_ 0 8 mk_U ?_
 refine go_ ?_
 refine ch_n fun hU => ?_
 refine sr_ 8 48 hU ?_
 refine go_ ?_
 obtain ⟨y, hy, hg⟩ := bind_some hg
 refine ca_ (w_slices_IndexFunc_byte_clo_134_0_ s f hf_f _ hy) ?_
 refine go_ ?_
 refine ch_n fun hU => ?_
 refine aw_r ?_
 obtain rfl := Option.some.inj hg
 exact fin_ [] ⟨rfl, rfl⟩
theorem w_der_AsText (v : api_Value) (r : ByteArray × Int) (hg : g_der_AsText v = some r) : Fn Tryz.prog 111 0 [.agg (api_Value.dv v)] [] (fun d b => d = .tup [.val (.string r.1), .val (.int .i64 r.2)] ∧ b = []) := by
 unfold g_der_AsText at hg
 refine Fn.of Tryz.func111 rfl rfl rfl fun w0 I ρ0 => ?_
 show awp _ ⟨w0, I, ρ0, 0, 0, 15⟩ _ _ _
 refine sr_ 0 24 mk_U ?_
 refine go_ ?_
 refine ch_n fun hU => ?_
 refine awp_seq ?_
 refine awp_cut (ι := Bool) (fun (x11_1 : Bool) => mk [(1, .ptr 0 0), (11, .val (.bool x11_1))] [(0, .box (api_Value.dv v) 41)] 1) (fun (x11_1 : Bool) => g_der_AsText.j1 v x11_1 = some r) ?_ ?_
 ·refine awp_region (sys _ _ []) 24 88 hU rfl rfl ?_
  refine go_ ?_
  obtain ⟨y, hy, hg⟩ := bind_some hg
  refine ca_ (w_der_plain _ _ _ hy) ?_
  refine go_ ?_
  rcases bc_ hg with ⟨h2, hg⟩ | ⟨h2, hg⟩
  ·refine go_ ?_
   refine ch_n fun hU => ?_
   exact ⟨true, hg, sub_ [(0, 0)]⟩
  ·refine go_ ?_
   obtain ⟨y_2, hy_2, hg⟩ := bind_some hg
   refine ca_ (w_slices_ContainsFunc_byte_clo_134_0_ v.Bytes (fun x0 => g_der_AsText_c1 x0) (fun x0 y h => w_der_AsText_c1 x0 y h) _ hy_2) ?_
   refine go_ ?_
   refine ch_n fun hU => ?_
   exact ⟨y_2, hg, sub_ [(0, 0)]⟩
 ·rintro x11_1 hg
  replace hg : g_der_AsText.j1 v x11_1 = some r := hg
  show awp _ _ _ _ (mk _ _ _)
  unfold g_der_AsText.j1 at hg
  refine cg_ rfl hg (fun h5 hg => ?_) fun h5 hg => ?_
  ·refine awp_seq ?_
   refine awp_region (sys _ _ []) 1 17 mk_U rfl rfl ?_
   refine go_ ?_
   refine ch_n fun hU => ?_
   refine aw_r ?_
   obtain rfl := Option.some.inj hg
   exact fin_ [] ⟨rfl, rfl⟩
  ·refine awp_skip ?_
   repeat first | refine st_ ?_ | refine sn_ ?_
   refine sr_ 1 41 mk_U ?_
   refine go_ ?_
   refine c0_ rfl rfl (r_convS und35 und5 und9 .sl rfl) rfl rfl ?_
   refine go_ ?_
   refine ch_n fun hU => ?_
   refine aw_r ?_
   obtain rfl := Option.some.inj hg
   exact fin_ [] ⟨rfl, rfl⟩
theorem w_certificate_Reader_Text (r' : certificate_Reader) (r : ByteArray × certificate_Reader) (hg : g_certificate_Reader_Text r' = some r) : Fn Tryz.prog 72 1 [.ptr 0 0] [.box [.sl 4 (encL api_Value.enc r'.l), .val (.bool r'.Failed)] 100] (fun d b => d = .val (.string r.1) ∧ b = [.box [.sl 4 (encL api_Value.enc r.2.l), .val (.bool r.2.Failed)] 100]) := by
 unfold g_certificate_Reader_Text at hg
 refine Fn.of Tryz.func72 rfl rfl rfl fun w0 I ρ0 => ?_
 show awp _ ⟨w0, I, ρ0, 1, 1, 23⟩ _ _ _
 refine sr_ 1 9 mk_U ?_
 refine go_ ?_
 refine ch_n fun hU => ?_
 refine sr_ 9 73 hU ?_
 refine go_ ?_
 obtain ⟨y, hy, hg⟩ := bind_some hg
 refine cb_ [0] [0] [] false (w_certificate_Reader_Next _ _ hy) ?_
 obtain ⟨y_2, hy_2, hg⟩ := bind_some hg
 refine ca_ (w_der_AsText _ _ hy_2) ?_
 refine go_ ?_
 refine ch_n fun hU => ?_
 refine sr_ 73 169 hU ?_
 refine go_ ?_
 rcases bc_ hg with ⟨h3, hg⟩ | ⟨h3, hg⟩
 ·refine go_ ?_
  refine ch_n fun hU => ?_
  refine sr_ 169 185 hU ?_
  refine go_ ?_
  refine ch_n fun hU => ?_
  refine aw_r ?_
  obtain rfl := Option.some.inj hg
  exact fin_ [(0, 0)] ⟨rfl, rfl⟩
 ·refine go_ ?_
  refine ch_n fun hU => ?_
  refine sr_ 169 185 hU ?_
  refine go_ ?_
  refine ch_n fun hU => ?_
  refine aw_r ?_
  obtain rfl := Option.some.inj hg
  exact fin_ [(0, 0)] ⟨rfl, rfl⟩
theorem w_certificate_Parse_c2 (c0 : certificate_Reader) (c1 : api_Certificate) (r : certificate_Reader × api_Certificate) (hg : g_certificate_Parse_c2 c0 c1 = some r) : Fn Tryz.prog 71 3 [.ptr 0 0, .ptr 2 0] [.box [.ptr 1 0] 91, .box [.sl 4 (encL api_Value.enc c0.l), .val (.bool c0.Failed)] 100, .box (api_Certificate.dv c1) 33] (fun d b => d = .tup [] ∧ b = [.box [.ptr 1 0] 91, .box [.sl 4 (encL api_Value.enc r.1.l), .val (.bool r.1.Failed)] 100, .box (api_Certificate.dv r.2) 33]) := by
 unfold g_certificate_Parse_c2 at hg
 refine Fn.of Tryz.func71 rfl rfl rfl fun w0 I ρ0 => ?_
 show awp _ ⟨w0, I, ρ0, 3, 3, 8⟩ _ _ _
 refine awp_draw (sys _ _ []) (by kernel_rfl) [0, 1, 0, 7, 15, 31, 63, 127] 3 67 mk_U rfl rfl (by kernel_rfl) ?_
 refine go_ ?_
 obtain ⟨y, hy, hg⟩ := bind_some hg
 refine cb_ [1] [1] [] false (w_certificate_Reader_Text _ _ hy) ?_
 refine go_ ?_
 obtain ⟨y_2, hy_2, hg⟩ := bind_some hg
 refine cb_ [1] [1] [] false (w_certificate_Reader_Text _ _ hy_2) ?_
 refine go_ ?_
 refine ch_n fun hU => ?_
 obtain rfl := Option.some.inj hg
 exact fin_ [(0, 0), (1, 1), (2, 2)] ⟨rfl, rfl⟩
theorem w_certificate_Reader_Use (r' : certificate_Reader) (r : api_Use × certificate_Reader) (hg : g_certificate_Reader_Use r' = some r) : Fn Tryz.prog 74 1 [.ptr 0 0] [.box [.sl 4 (encL api_Value.enc r'.l), .val (.bool r'.Failed)] 100] (fun d b => d = .agg [.val (.int .i64 r.1.Alg), .val (.int .i64 r.1.Bits)] ∧ b = [.box [.sl 4 (encL api_Value.enc r.2.l), .val (.bool r.2.Failed)] 100]) := by
 unfold g_certificate_Reader_Use at hg
 refine Fn.of Tryz.func74 rfl rfl rfl fun w0 I ρ0 => ?_
 show awp _ ⟨w0, I, ρ0, 1, 1, 27⟩ _ _ _
 refine sr_ 1 9 mk_U ?_
 refine go_ ?_
 refine ch_n fun hU => ?_
 refine sr_ 9 41 hU ?_
 refine go_ ?_
 obtain ⟨y, hy, hg⟩ := bind_some hg
 refine cb_ [0] [0] [] false (w_certificate_Reader_Next _ _ hy) ?_
 obtain ⟨y_2, hy_2, hg⟩ := bind_some hg
 refine ch_call (rd := []) (ps := []) (gs := []) false rfl (w_certificate_Read _ _ _ hy_2) rfl rfl (.cons (.agg (.cons .val (.cons .sl (.cons .val (.cons .sl .nil))))) (.cons .val .nil)) rfl rfl (by intro h; cases h) rfl (by intro h; first | (cases h; done) | exact ⟨_, _, ⟨rfl, rfl⟩, by simp, by simp⟩) ?_
 rintro _ _ ⟨rfl, rfl⟩
 refine go_ ?_
 refine ch_n fun hU => ?_
 refine sr_ 41 97 hU ?_
 refine go_ ?_
 obtain ⟨y_3, hy_3, hg⟩ := bind_some hg
 refine cb_ [25] [25] [] false (w_certificate_Reader_Int _ _ hy_3) ?_
 refine go_ ?_
 obtain ⟨y_4, hy_4, hg⟩ := bind_some hg
 refine cb_ [25] [25] [] false (w_certificate_Reader_Int _ _ hy_4) ?_
 refine c0_ rfl rfl (.build (r := [.val (.int .i64 y_3.1), .val (.int .i64 y_4.1)]) und28 pl28 z28 (by kernel_rfl) rfl) rfl rfl ?_
 refine go_ ?_
 refine ch_n fun hU => ?_
 refine awp_cut (ι := Bool) (fun (b_1 : Bool) => mk [(2, .ptr 1 0), (4, .ptr 2 0)] [(0, .box [.sl 4 (encL api_Value.enc y.2.l), .val (.bool b_1)] 100), (1, .box [.val (.int .i64 0), .val (.int .i64 0)] 28), (2, .box [.val (.int .i64 y_3.1), .val (.int .i64 y_4.1)] 28)] 3) (fun (b_1 : Bool) => g_certificate_Reader_Use.j1 y y_3 y_4 b_1 = some r) ?_ ?_
 ·refine awp_region (sys _ _ []) 97 209 hU rfl rfl ?_
  refine go_ ?_
  rcases bc_ hg with ⟨h4, hg⟩ | ⟨h4, hg⟩
  ·refine go_ ?_
   refine ch_n fun hU => ?_
   exact ⟨true, hg, sub_ [(0, 0), (1, 1), (2, 81)]⟩
  ·refine go_ ?_
   refine ch_n fun hU => ?_
   exact ⟨y_4.2.Failed, hg, sub_ [(0, 0), (1, 1), (2, 81)]⟩
 ·rintro b_1 hg
  replace hg : g_certificate_Reader_Use.j1 y y_3 y_4 b_1 = some r := hg
  show awp _ _ _ _ (mk _ _ _)
  unfold g_certificate_Reader_Use.j1 at hg
  refine sr_ 3 19 mk_U ?_
  refine go_ ?_
  refine ch_n fun hU => ?_
  refine aw_r ?_
  obtain rfl := Option.some.inj hg
  exact fin_ [(0, 0)] ⟨rfl, rfl⟩
theorem w_certificate_Parse_c3 (c0 : certificate_Reader) (c1 : api_Certificate) (r : certificate_Reader × api_Certificate) (hg : g_certificate_Parse_c3 c0 c1 = some r) : Fn Tryz.prog 73 3 [.ptr 0 0, .ptr 2 0] [.box [.ptr 1 0] 91, .box [.sl 4 (encL api_Value.enc c0.l), .val (.bool c0.Failed)] 100, .box (api_Certificate.dv c1) 33] (fun d b => d = .tup [] ∧ b = [.box [.ptr 1 0] 91, .box [.sl 4 (encL api_Value.enc r.1.l), .val (.bool r.1.Failed)] 100, .box (api_Certificate.dv r.2) 33]) := by
 unfold g_certificate_Parse_c3 at hg
 refine Fn.of Tryz.func73 rfl rfl rfl fun w0 I ρ0 => ?_
 show awp _ ⟨w0, I, ρ0, 3, 3, 8⟩ _ _ _
 refine awp_draw (sys _ _ []) (by kernel_rfl) [0, 1, 0, 7, 15, 31, 63, 127] 3 67 mk_U rfl rfl (by kernel_rfl) ?_
 refine go_ ?_
 obtain ⟨y, hy, hg⟩ := bind_some hg
 refine cb_ [1] [1] [] false (w_certificate_Reader_Use _ _ hy) ?_
 refine go_ ?_
 obtain ⟨y_2, hy_2, hg⟩ := bind_some hg
 refine cb_ [1] [1] [] false (w_certificate_Reader_Int _ _ hy_2) ?_
 refine go_ ?_
 refine ch_n fun hU => ?_
 obtain rfl := Option.some.inj hg
 exact fin_ [(0, 0), (1, 1), (2, 2)] ⟨rfl, rfl⟩
theorem w_certificate_Parse_c4 (c0 : certificate_Reader) (c1 : api_Certificate) (r : certificate_Reader × api_Certificate) (hg : g_certificate_Parse_c4 c0 c1 = some r) : Fn Tryz.prog 75 3 [.ptr 0 0, .ptr 2 0] [.box [.ptr 1 0] 91, .box [.sl 4 (encL api_Value.enc c0.l), .val (.bool c0.Failed)] 100, .box (api_Certificate.dv c1) 33] (fun d b => d = .tup [] ∧ b = [.box [.ptr 1 0] 91, .box [.sl 4 (encL api_Value.enc r.1.l), .val (.bool r.1.Failed)] 100, .box (api_Certificate.dv r.2) 33]) := by
 unfold g_certificate_Parse_c4 at hg
 refine Fn.of Tryz.func75 rfl rfl rfl fun w0 I ρ0 => ?_
 show awp _ ⟨w0, I, ρ0, 3, 3, 5⟩ _ _ _
 refine awp_region (sys _ _ []) 3 35 mk_U rfl rfl ?_
 refine go_ ?_
 obtain ⟨y, hy, hg⟩ := bind_some hg
 refine cb_ [1] [1] [] false (w_certificate_Reader_Use _ _ hy) ?_
 refine go_ ?_
 refine ch_n fun hU => ?_
 obtain rfl := Option.some.inj hg
 exact fin_ [(0, 0), (1, 1), (2, 2)] ⟨rfl, rfl⟩
theorem w_certificate_Parse_c5 (c0 : certificate_Reader) (c1 : api_Certificate) (r : certificate_Reader × api_Certificate) (hg : g_certificate_Parse_c5 c0 c1 = some r) : Fn Tryz.prog 76 3 [.ptr 0 0, .ptr 2 0] [.box [.ptr 1 0] 91, .box [.sl 4 (encL api_Value.enc c0.l), .val (.bool c0.Failed)] 100, .box (api_Certificate.dv c1) 33] (fun d b => d = .tup [] ∧ b = [.box [.ptr 1 0] 91, .box [.sl 4 (encL api_Value.enc r.1.l), .val (.bool r.1.Failed)] 100, .box (api_Certificate.dv r.2) 33]) := by
 unfold g_certificate_Parse_c5 at hg
 refine Fn.of Tryz.func76 rfl rfl rfl fun w0 I ρ0 => ?_
 show awp _ ⟨w0, I, ρ0, 3, 3, 8⟩ _ _ _
 refine awp_draw (sys _ _ []) (by kernel_rfl) [0, 1, 0, 7, 15, 31, 63, 127] 3 67 mk_U rfl rfl (by kernel_rfl) ?_
 refine go_ ?_
 obtain ⟨y, hy, hg⟩ := bind_some hg
 refine cb_ [1] [1] [] false (w_certificate_Reader_Int _ _ hy) ?_
 refine go_ ?_
 obtain ⟨y_2, hy_2, hg⟩ := bind_some hg
 refine cb_ [1] [1] [] false (w_certificate_Reader_Int _ _ hy_2) ?_
 refine go_ ?_
 refine ch_n fun hU => ?_
 obtain rfl := Option.some.inj hg
 exact fin_ [(0, 0), (1, 1), (2, 2)] ⟨rfl, rfl⟩
theorem w_der_AsBool (v : api_Value) (r : Bool × Int) (hg : g_der_AsBool v = some r) : Fn Tryz.prog 112 0 [.agg (api_Value.dv v)] [] (fun d b => d = .tup [.val (.bool r.1), .val (.int .i64 r.2)] ∧ b = []) := by
 unfold g_der_AsBool at hg
 refine Fn.of Tryz.func112 rfl rfl rfl fun w0 I ρ0 => ?_
 show awp _ ⟨w0, I, ρ0, 0, 0, 32⟩ _ _ _
 refine sr_ 0 24 mk_U ?_
 refine go_ ?_
 refine ch_n fun hU => ?_
 refine awp_seq ?_
 refine awp_cut (ι := Bool) (fun (x26_1 : Bool) => mk [(1, .ptr 0 0), (26, .val (.bool x26_1))] [(0, .box (api_Value.dv v) 41)] 1) (fun (x26_1 : Bool) => g_der_AsBool.j1 v x26_1 = some r) ?_ ?_
 ·refine awp_region (sys _ _ []) 24 208 hU rfl rfl ?_
  refine go_ ?_
  obtain ⟨y, hy, hg⟩ := bind_some hg
  refine ca_ (w_der_plain _ _ _ hy) ?_
  refine go_ ?_
  rcases bc_ hg with ⟨h2, hg⟩ | ⟨h2, hg⟩
  ·refine go_ ?_
   refine ch_n fun hU => ?_
   exact ⟨true, hg, sub_ [(0, 0)]⟩
  ·refine go_ ?_
   rcases bc_ hg with ⟨h4, hg⟩ | ⟨h4, hg⟩
   ·refine go_ ?_
    refine ch_n fun hU => ?_
    exact ⟨true, hg, sub_ [(0, 0)]⟩
   ·refine go_ ?_
    obtain ⟨e, he, hg⟩ := bind_some hg
    refine go_ ?_
    refine c0_ (gdv_t rfl rfl h4) rfl (r_loadE1 ty5 (enc_cell e8_len (getI_at he) (o := 0) (c := .int .u8 (e.toNat : Int)) rfl rfl)) rfl rfl ?_
    refine go_ ?_
    rcases bc_ hg with ⟨h6, hg⟩ | ⟨h6, hg⟩
    ·refine go_ ?_
     refine c0_ (gdv_t rfl rfl h6) rfl (r_loadE1 ty5 (enc_cell e8_len (getI_at he) (o := 0) (c := .int .u8 (e.toNat : Int)) rfl rfl)) rfl rfl ?_
     refine go_ ?_
     refine ch_n fun hU => ?_
     exact ⟨!decide ((e.toNat : Int) = 255), hg, sub_ [(0, 0)]⟩
    ·refine go_ ?_
     refine ch_n fun hU => ?_
     exact ⟨false, hg, sub_ [(0, 0)]⟩
 ·rintro x26_1 hg
  replace hg : g_der_AsBool.j1 v x26_1 = some r := hg
  show awp _ _ _ _ (mk _ _ _)
  unfold g_der_AsBool.j1 at hg
  refine cg_ rfl hg (fun h9 hg => ?_) fun h9 hg => ?_
  ·refine awp_seq ?_
   refine awp_region (sys _ _ []) 1 17 mk_U rfl rfl ?_
   refine go_ ?_
   refine ch_n fun hU => ?_
   refine aw_r ?_
   obtain rfl := Option.some.inj hg
   exact fin_ [] ⟨rfl, rfl⟩
  ·refine awp_skip ?_
   repeat first | refine st_ ?_ | refine sn_ ?_
   refine sr_ 1 57 mk_U ?_
   refine go_ ?_
   obtain ⟨e_2, he_2, hg⟩ := bind_some hg
   refine go_ ?_
   refine c0_ rfl rfl (r_loadE1 ty5 (enc_cell e8_len (getI_at he_2) (o := 0) (c := .int .u8 (e_2.toNat : Int)) rfl rfl)) rfl rfl ?_
   refine go_ ?_
   refine ch_n fun hU => ?_
   refine aw_r ?_
   obtain rfl := Option.some.inj hg
   exact fin_ [] ⟨rfl, rfl⟩
theorem w_certificate_Reader_Bool (r' : certificate_Reader) (r : Bool × certificate_Reader) (hg : g_certificate_Reader_Bool r' = some r) : Fn Tryz.prog 78 1 [.ptr 0 0] [.box [.sl 4 (encL api_Value.enc r'.l), .val (.bool r'.Failed)] 100] (fun d b => d = .val (.bool r.1) ∧ b = [.box [.sl 4 (encL api_Value.enc r.2.l), .val (.bool r.2.Failed)] 100]) := by
 unfold g_certificate_Reader_Bool at hg
 refine Fn.of Tryz.func78 rfl rfl rfl fun w0 I ρ0 => ?_
 show awp _ ⟨w0, I, ρ0, 1, 1, 23⟩ _ _ _
 refine sr_ 1 9 mk_U ?_
 refine go_ ?_
 refine ch_n fun hU => ?_
 refine sr_ 9 73 hU ?_
 refine go_ ?_
 obtain ⟨y, hy, hg⟩ := bind_some hg
 refine cb_ [0] [0] [] false (w_certificate_Reader_Next _ _ hy) ?_
 obtain ⟨y_2, hy_2, hg⟩ := bind_some hg
 refine ca_ (w_der_AsBool _ _ hy_2) ?_
 refine go_ ?_
 refine ch_n fun hU => ?_
 refine sr_ 73 169 hU ?_
 refine go_ ?_
 rcases bc_ hg with ⟨h3, hg⟩ | ⟨h3, hg⟩
 ·refine go_ ?_
  refine ch_n fun hU => ?_
  refine sr_ 169 185 hU ?_
  refine go_ ?_
  refine ch_n fun hU => ?_
  refine aw_r ?_
  obtain rfl := Option.some.inj hg
  exact fin_ [(0, 0)] ⟨rfl, rfl⟩
 ·refine go_ ?_
  refine ch_n fun hU => ?_
  refine sr_ 169 185 hU ?_
  refine go_ ?_
  refine ch_n fun hU => ?_
  refine aw_r ?_
  obtain rfl := Option.some.inj hg
  exact fin_ [(0, 0)] ⟨rfl, rfl⟩
theorem w_certificate_Parse_c6 (c0 : certificate_Reader) (c1 : api_Certificate) (r : certificate_Reader × api_Certificate) (hg : g_certificate_Parse_c6 c0 c1 = some r) : Fn Tryz.prog 77 3 [.ptr 0 0, .ptr 2 0] [.box [.ptr 1 0] 91, .box [.sl 4 (encL api_Value.enc c0.l), .val (.bool c0.Failed)] 100, .box (api_Certificate.dv c1) 33] (fun d b => d = .tup [] ∧ b = [.box [.ptr 1 0] 91, .box [.sl 4 (encL api_Value.enc r.1.l), .val (.bool r.1.Failed)] 100, .box (api_Certificate.dv r.2) 33]) := by
 unfold g_certificate_Parse_c6 at hg
 refine Fn.of Tryz.func77 rfl rfl rfl fun w0 I ρ0 => ?_
 show awp _ ⟨w0, I, ρ0, 3, 3, 8⟩ _ _ _
 refine awp_draw (sys _ _ []) (by kernel_rfl) [0, 1, 0, 7, 15, 31, 63, 127] 3 67 mk_U rfl rfl (by kernel_rfl) ?_
 refine go_ ?_
 obtain ⟨y, hy, hg⟩ := bind_some hg
 refine cb_ [1] [1] [] false (w_certificate_Reader_Bool _ _ hy) ?_
 refine go_ ?_
 obtain ⟨y_2, hy_2, hg⟩ := bind_some hg
 refine cb_ [1] [1] [] false (w_certificate_Reader_Int _ _ hy_2) ?_
 refine go_ ?_
 refine ch_n fun hU => ?_
 obtain rfl := Option.some.inj hg
 exact fin_ [(0, 0), (1, 1), (2, 2)] ⟨rfl, rfl⟩
theorem w_certificate_Reader_List (r' : certificate_Reader) (r : (List api_Value) × certificate_Reader) (hg : g_certificate_Reader_List r' = some r) : Fn Tryz.prog 113 1 [.ptr 0 0] [.box [.sl 4 (encL api_Value.enc r'.l), .val (.bool r'.Failed)] 100] (fun d b => d = .sl 4 (encL api_Value.enc r.1) ∧ b = [.box [.sl 4 (encL api_Value.enc r.2.l), .val (.bool r.2.Failed)] 100]) := by
 unfold g_certificate_Reader_List at hg
 refine Fn.of Tryz.func113 rfl rfl rfl fun w0 I ρ0 => ?_
 show awp _ ⟨w0, I, ρ0, 1, 1, 23⟩ _ _ _
 refine sr_ 1 9 mk_U ?_
 refine go_ ?_
 refine ch_n fun hU => ?_
 refine sr_ 9 73 hU ?_
 refine go_ ?_
 obtain ⟨y, hy, hg⟩ := bind_some hg
 refine cb_ [0] [0] [] false (w_certificate_Reader_Next _ _ hy) ?_
 obtain ⟨y_2, hy_2, hg⟩ := bind_some hg
 refine ca_ (w_der_AsList _ _ hy_2) ?_
 refine go_ ?_
 refine ch_n fun hU => ?_
 refine sr_ 73 169 hU ?_
 refine go_ ?_
 rcases bc_ hg with ⟨h3, hg⟩ | ⟨h3, hg⟩
 ·refine go_ ?_
  refine ch_n fun hU => ?_
  refine sr_ 169 185 hU ?_
  refine go_ ?_
  refine ch_n fun hU => ?_
  refine aw_r ?_
  obtain rfl := Option.some.inj hg
  exact fin_ [(0, 0)] ⟨rfl, rfl⟩
 ·refine go_ ?_
  refine ch_n fun hU => ?_
  refine sr_ 169 185 hU ?_
  refine go_ ?_
  refine ch_n fun hU => ?_
  refine aw_r ?_
  obtain rfl := Option.some.inj hg
  exact fin_ [(0, 0)] ⟨rfl, rfl⟩
end Go.Proofs.YtlcfdnjokgbccaaGreat
