/- The program computes the plain functions. -/
import Derived.Test.YtmbhoimeiahbaaaGreatT1
import Derived.Test.YtmbhoimeiahbaaaGreatA3
set_option linter.unusedVariables false
set_option linter.unusedSimpArgs false
set_option maxRecDepth 100000
set_option maxHeartbeats 1600000
namespace Go.Proofs.YtmbhoimeiahbaaaGreat
open Go.RowKit
theorem w_ref02_Strength (u : api_Use) (r : Int) (hg : g_ref02_Strength u = some r) : Fn Tryz.prog 73 0 [.agg [.val (.int .i64 u.Alg), .val (.int .i64 u.Bits)]] [] (fun d' b' => d' = .val (.int .i64 r) ∧ b' = []) := by
 unfold g_ref02_Strength at hg
 refine Fn.of Tryz.func73 rfl rfl rfl fun w0 I ρ0 => ?_
 show awp _ ⟨w0, I, ρ0, 0, 0, 76, none⟩ _ _ _
 refine sr_ 0 16 mk_U ?_
 refine go_ ?_
 refine ch_n fun hU => ?_
 refine sr_ 16 40 hU ?_
 refine go_ ?_
 refine ch_n fun hU => ?_
 refine awp_seq ?_
 refine sr_ 40 56 hU ?_
 refine go_ ?_
 refine ch_n fun hU => ?_
 refine awp_block ?_
 refine awp_cut (ι := Bool) (fun (x8_1 : Bool) => mk [(1, .ptr 0 0), (3, .val (.int .i64 u.Bits)), (7, .val (.int .i64 u.Alg)), (8, .val (.bool x8_1))] [(0, .box [.val (.int .i64 u.Alg), .val (.int .i64 u.Bits)] 36)] 1) (fun (x8_1 : Bool) => g_ref02_Strength.j1 u x8_1 = some r) ?_ ?_
 ·refine awp_seq ?_
  refine awp_region (sys _ _ []) 56 72 hU rfl rfl ?_
  refine go_ ?_
  refine ch_n fun hU => ?_
  refine cg_ rfl hg (fun h5 hg => ?_) fun h5 hg => ?_
  ·refine awp_skip ?_
   repeat first | refine st_ ?_ | refine sn_ ?_
   exact ⟨decide (u.Alg = 5), hg, sub_ [(0, 0)]⟩
  ·refine awp_seq ?_
   refine awp_region (sys _ _ []) 72 88 hU rfl rfl ?_
   refine go_ ?_
   refine ch_n fun hU => ?_
   refine cg_ rfl hg (fun h7 hg => ?_) fun h7 hg => ?_
   ·refine awp_skip ?_
    repeat first | refine st_ ?_ | refine sn_ ?_
    exact ⟨decide (u.Alg = 6), hg, sub_ [(0, 0)]⟩
   ·refine awp_seq ?_
    refine awp_region (sys _ _ []) 88 104 hU rfl rfl ?_
    refine go_ ?_
    refine ch_n fun hU => ?_
    refine cg_ rfl hg (fun h9 hg => ?_) fun h9 hg => ?_
    ·refine awp_skip ?_
     repeat first | refine st_ ?_ | refine sn_ ?_
     exact ⟨decide (u.Alg = 10), hg, sub_ [(0, 0)]⟩
    ·refine awp_region (sys _ _ []) 104 120 hU rfl rfl ?_
     refine go_ ?_
     refine ch_n fun hU => ?_
     exact ⟨decide (u.Alg = 11), hg, sub_ [(0, 0)]⟩
 ·rintro x8_1 hg
  replace hg : g_ref02_Strength.j1 u x8_1 = some r := hg
  show awp _ _ _ _ (mk _ _ _)
  unfold g_ref02_Strength.j1 at hg
  refine cg_ rfl hg (fun h11 hg => ?_) fun h11 hg => ?_
  ·refine awp_seq ?_
   refine awp_region (sys _ _ []) 1 25 mk_U rfl rfl ?_
   refine go_ ?_
   obtain ⟨y, hy, hg⟩ := bind_some hg
   refine ca_ (w_ref02_modulus _ _ hy) ?_
   refine go_ ?_
   refine ch_n fun hU => ?_
   refine aw_r ?_
   obtain rfl := Option.some.inj hg
   exact fin_ [] ⟨rfl, rfl⟩
  ·refine awp_cut (ι := Bool) (fun (x15_2 : Bool) => mk [(1, .ptr 0 0), (3, .val (.int .i64 u.Bits)), (7, .val (.int .i64 u.Alg)), (15, .val (.bool x15_2))] [(0, .box [.val (.int .i64 u.Alg), .val (.int .i64 u.Bits)] 36)] 1) (fun (x15_2 : Bool) => g_ref02_Strength.j2 u x15_2 = some r) ?_ ?_
   ·refine awp_seq ?_
    refine awp_region (sys _ _ []) 1 17 mk_U rfl rfl ?_
    refine go_ ?_
    refine ch_n fun hU => ?_
    refine cg_ rfl hg (fun h14 hg => ?_) fun h14 hg => ?_
    ·refine awp_skip ?_
     repeat first | refine st_ ?_ | refine sn_ ?_
     exact ⟨decide (u.Alg = 7), hg, sub_ [(0, 0)]⟩
    ·refine awp_region (sys _ _ []) 17 33 hU rfl rfl ?_
     refine go_ ?_
     refine ch_n fun hU => ?_
     exact ⟨decide (u.Alg = 12), hg, sub_ [(0, 0)]⟩
   ·rintro x15_2 hg
    replace hg : g_ref02_Strength.j2 u x15_2 = some r := hg
    show awp _ _ _ _ (mk _ _ _)
    unfold g_ref02_Strength.j2 at hg
    refine cg_ rfl hg (fun h16 hg => ?_) fun h16 hg => ?_
    ·refine awp_seq ?_
     refine awp_cut (ι := Bool) (fun (x35_3 : Bool) => mk [(3, .val (.int .i64 u.Bits)), (35, .val (.bool x35_3))] [] 0) (fun (x35_3 : Bool) => g_ref02_Strength.j3 u x35_3 = some r) ?_ ?_
     ·refine awp_region (sys _ _ []) 1 145 mk_U rfl rfl ?_
      refine go_ ?_
      rcases bc_ hg with ⟨h17, hg⟩ | ⟨h17, hg⟩
      ·refine go_ ?_
       refine ch_n fun hU => ?_
       exact ⟨true, hg, sub_ []⟩
      ·refine go_ ?_
       rcases bc_ hg with ⟨h19, hg⟩ | ⟨h19, hg⟩
       ·refine go_ ?_
        refine ch_n fun hU => ?_
        exact ⟨true, hg, sub_ []⟩
       ·refine go_ ?_
        rcases bc_ hg with ⟨h21, hg⟩ | ⟨h21, hg⟩
        ·refine go_ ?_
         refine ch_n fun hU => ?_
         exact ⟨true, hg, sub_ []⟩
        ·refine go_ ?_
         rcases bc_ hg with ⟨h23, hg⟩ | ⟨h23, hg⟩
         ·refine go_ ?_
          refine ch_n fun hU => ?_
          exact ⟨true, hg, sub_ []⟩
         ·refine go_ ?_
          refine ch_n fun hU => ?_
          exact ⟨decide (u.Bits = 521), hg, sub_ []⟩
     ·rintro x35_3 hg
      replace hg : g_ref02_Strength.j3 u x35_3 = some r := hg
      show awp _ _ _ _ (mk _ _ _)
      unfold g_ref02_Strength.j3 at hg
      refine cg_ rfl hg (fun h26 hg => ?_) fun h26 hg => ?_
      ·refine awp_seq ?_
       refine awp_region (sys _ _ []) 0 24 mk_U rfl rfl ?_
       refine go_ ?_
       obtain ⟨q, hq, hg⟩ := bind_some hg
       refine c0_ rfl rfl (r_quo hq) rfl rfl ?_
       refine go_ ?_
       refine ch_n fun hU => ?_
       refine aw_r ?_
       obtain rfl := Option.some.inj hg
       exact fin_ [] ⟨rfl, rfl⟩
      ·refine awp_skip ?_
       repeat first | refine st_ ?_ | refine sn_ ?_
       refine sr_ 0 8 mk_U ?_
       refine go_ ?_
       refine ch_n fun hU => ?_
       refine aw_r ?_
       obtain rfl := Option.some.inj hg
       exact fin_ [] ⟨rfl, rfl⟩
    ·refine awp_seq ?_
     refine awp_region (sys _ _ []) 1 17 mk_U rfl rfl ?_
     refine go_ ?_
     refine ch_n fun hU => ?_
     refine cg_ rfl hg (fun h30 hg => ?_) fun h30 hg => ?_
     ·refine awp_seq ?_
      refine awp_region (sys _ _ []) 17 57 hU rfl rfl ?_
      refine go_ ?_
      refine c0_ rfl rfl (r_buildFull sl22 z3 (by decide) rfl rfl rfl rfl ck3 (cs := [.int .i64 44, .int .i64 65, .int .i64 87]) (.cons .int (.cons .int (.cons .int .nil))) rfl (l := ([44, 65, 87] : List Int)) (f := eI) rfl) rfl rfl ?_
      refine c0_ rfl rfl (r_buildFull sl22 z3 (by decide) rfl rfl rfl rfl ck3 (cs := [.int .i64 128, .int .i64 192, .int .i64 256]) (.cons .int (.cons .int (.cons .int .nil))) rfl (l := ([128, 192, 256] : List Int)) (f := eI) rfl) rfl rfl ?_
      obtain ⟨y_2, hy_2, hg⟩ := bind_some hg
      refine cb_ [25, 33] [] [] true (w_ref02_among _ _ _ _ hy_2) ?_
      refine go_ ?_
      refine ch_n fun hU => ?_
      refine aw_r ?_
      obtain rfl := Option.some.inj hg
      exact fin_ [] ⟨rfl, rfl⟩
     ·refine awp_seq ?_
      refine awp_region (sys _ _ []) 17 33 hU rfl rfl ?_
      refine go_ ?_
      refine ch_n fun hU => ?_
      refine cg_ rfl hg (fun h33 hg => ?_) fun h33 hg => ?_
      ·refine awp_seq ?_
       refine awp_region (sys _ _ []) 33 73 hU rfl rfl ?_
       refine go_ ?_
       refine c0_ rfl rfl (r_buildFull sl22 z3 (by decide) rfl rfl rfl rfl ck3 (cs := [.int .i64 512, .int .i64 768, .int .i64 1024]) (.cons .int (.cons .int (.cons .int .nil))) rfl (l := ([512, 768, 1024] : List Int)) (f := eI) rfl) rfl rfl ?_
       refine c0_ rfl rfl (r_buildFull sl22 z3 (by decide) rfl rfl rfl rfl ck3 (cs := [.int .i64 128, .int .i64 192, .int .i64 256]) (.cons .int (.cons .int (.cons .int .nil))) rfl (l := ([128, 192, 256] : List Int)) (f := eI) rfl) rfl rfl ?_
       obtain ⟨y_3, hy_3, hg⟩ := bind_some hg
       refine cb_ [41, 49] [] [] true (w_ref02_among _ _ _ _ hy_3) ?_
       refine go_ ?_
       refine ch_n fun hU => ?_
       refine aw_r ?_
       obtain rfl := Option.some.inj hg
       exact fin_ [] ⟨rfl, rfl⟩
      ·refine awp_seq ?_
       refine awp_region (sys _ _ []) 33 49 hU rfl rfl ?_
       refine go_ ?_
       refine ch_n fun hU => ?_
       refine cg_ rfl hg (fun h36 hg => ?_) fun h36 hg => ?_
       ·refine awp_seq ?_
        refine awp_region (sys _ _ []) 49 89 hU rfl rfl ?_
        refine go_ ?_
        refine c0_ rfl rfl (r_buildFull sl22 z3 (by decide) rfl rfl rfl rfl ck3 (cs := [.int .i64 40, .int .i64 128]) (.cons .int (.cons .int .nil)) rfl (l := ([40, 128] : List Int)) (f := eI) rfl) rfl rfl ?_
        refine c0_ rfl rfl (r_buildFull sl22 z3 (by decide) rfl rfl rfl rfl ck3 (cs := [.int .i64 40, .int .i64 60]) (.cons .int (.cons .int .nil)) rfl (l := ([40, 60] : List Int)) (f := eI) rfl) rfl rfl ?_
        obtain ⟨y_4, hy_4, hg⟩ := bind_some hg
        refine cb_ [57, 65] [] [] true (w_ref02_among _ _ _ _ hy_4) ?_
        refine go_ ?_
        refine ch_n fun hU => ?_
        refine aw_r ?_
        obtain rfl := Option.some.inj hg
        exact fin_ [] ⟨rfl, rfl⟩
       ·refine awp_seq ?_
        refine awp_region (sys _ _ []) 49 65 hU rfl rfl ?_
        refine go_ ?_
        refine ch_n fun hU => ?_
        refine cg_ rfl hg (fun h39 hg => ?_) fun h39 hg => ?_
        ·refine awp_seq ?_
         refine awp_region (sys _ _ []) 65 105 hU rfl rfl ?_
         refine go_ ?_
         refine c0_ rfl rfl (r_buildFull sl22 z3 (by decide) rfl rfl rfl rfl ck3 (cs := [.int .i64 112, .int .i64 168]) (.cons .int (.cons .int .nil)) rfl (l := ([112, 168] : List Int)) (f := eI) rfl) rfl rfl ?_
         refine c0_ rfl rfl (r_buildFull sl22 z3 (by decide) rfl rfl rfl rfl ck3 (cs := [.int .i64 80, .int .i64 112]) (.cons .int (.cons .int .nil)) rfl (l := ([80, 112] : List Int)) (f := eI) rfl) rfl rfl ?_
         obtain ⟨y_5, hy_5, hg⟩ := bind_some hg
         refine cb_ [73, 81] [] [] true (w_ref02_among _ _ _ _ hy_5) ?_
         refine go_ ?_
         refine ch_n fun hU => ?_
         refine aw_r ?_
         obtain rfl := Option.some.inj hg
         exact fin_ [] ⟨rfl, rfl⟩
        ·refine awp_cut (ι := Bool) (fun (x62_4 : Bool) => mk [(1, .ptr 0 0), (3, .val (.int .i64 u.Bits)), (62, .val (.bool x62_4))] [(0, .box [.val (.int .i64 u.Alg), .val (.int .i64 u.Bits)] 36)] 1) (fun (x62_4 : Bool) => g_ref02_Strength.j4 u x62_4 = some r) ?_ ?_
         ·refine awp_seq ?_
          refine awp_region (sys _ _ []) 65 81 hU rfl rfl ?_
          refine go_ ?_
          refine ch_n fun hU => ?_
          refine cg_ rfl hg (fun h42 hg => ?_) fun h42 hg => ?_
          ·refine awp_skip ?_
           repeat first | refine st_ ?_ | refine sn_ ?_
           exact ⟨decide (u.Alg = 16), hg, sub_ [(0, 0)]⟩
          ·refine awp_region (sys _ _ []) 81 97 hU rfl rfl ?_
           refine go_ ?_
           refine ch_n fun hU => ?_
           exact ⟨decide (u.Alg = 17), hg, sub_ [(0, 0)]⟩
         ·rintro x62_4 hg
          replace hg : g_ref02_Strength.j4 u x62_4 = some r := hg
          show awp _ _ _ _ (mk _ _ _)
          unfold g_ref02_Strength.j4 at hg
          refine cg_ rfl hg (fun h44 hg => ?_) fun h44 hg => ?_
          ·refine awp_seq ?_
           refine awp_region (sys _ _ []) 1 41 mk_U rfl rfl ?_
           refine go_ ?_
           refine c0_ rfl rfl (r_buildFull sl22 z3 (by decide) rfl rfl rfl rfl ck3 (cs := [.int .i64 128, .int .i64 256]) (.cons .int (.cons .int .nil)) rfl (l := ([128, 256] : List Int)) (f := eI) rfl) rfl rfl ?_
           refine c0_ rfl rfl (r_buildFull sl22 z3 (by decide) rfl rfl rfl rfl ck3 (cs := [.int .i64 128, .int .i64 256]) (.cons .int (.cons .int .nil)) rfl (l := ([128, 256] : List Int)) (f := eI) rfl) rfl rfl ?_
           obtain ⟨y_6, hy_6, hg⟩ := bind_some hg
           refine cb_ [9, 17] [] [] true (w_ref02_among _ _ _ _ hy_6) ?_
           refine go_ ?_
           refine ch_n fun hU => ?_
           refine aw_r ?_
           obtain rfl := Option.some.inj hg
           exact fin_ [] ⟨rfl, rfl⟩
          ·refine awp_skip ?_
           repeat first | refine st_ ?_ | refine sn_ ?_
           refine sr_ 1 65 mk_U ?_
           refine go_ ?_
           refine c0_ rfl rfl (r_buildFull sl22 z3 (by decide) rfl rfl rfl rfl ck3 (cs := [.int .i64 0]) (.cons .int .nil) rfl (l := ([0] : List Int)) (f := eI) rfl) rfl rfl ?_
           refine go_ ?_
           obtain ⟨y_7, hy_7, hg⟩ := bind_some hg
           refine ca_ (w_ref02_single _ _ hy_7) ?_
           refine c0_ rfl rfl (r_buildFull sl22 z3 (by decide) rfl rfl rfl rfl ck3 (cs := [.int .i64 y_7]) (.cons .int .nil) rfl (l := ([y_7] : List Int)) (f := eI) rfl) rfl rfl ?_
           obtain ⟨y_8, hy_8, hg⟩ := bind_some hg
           refine cb_ [9, 41] [] [] true (w_ref02_among _ _ _ _ hy_8) ?_
           refine go_ ?_
           refine ch_n fun hU => ?_
           refine aw_r ?_
           obtain rfl := Option.some.inj hg
           exact fin_ [] ⟨rfl, rfl⟩
theorem w_ref02_Valid (u : api_Use) (r : Bool) (hg : g_ref02_Valid u = some r) : Fn Tryz.prog 51 0 [.agg [.val (.int .i64 u.Alg), .val (.int .i64 u.Bits)]] [] (fun d' b' => d' = .val (.bool r) ∧ b' = []) := by
 unfold g_ref02_Valid at hg
 refine Fn.of Tryz.func51 rfl rfl rfl fun w0 I ρ0 => ?_
 show awp _ ⟨w0, I, ρ0, 0, 0, 6, none⟩ _ _ _
 refine sr_ 0 16 mk_U ?_
 refine go_ ?_
 refine ch_n fun hU => ?_
 refine sr_ 16 48 hU ?_
 refine go_ ?_
 obtain ⟨y, hy, hg⟩ := bind_some hg
 refine ca_ (w_ref02_Strength _ _ hy) ?_
 refine go_ ?_
 refine ch_n fun hU => ?_
 refine aw_r ?_
 obtain rfl := Option.some.inj hg
 exact fin_ [] ⟨rfl, rfl⟩
theorem w_ref03_Name (s : ByteArray) (r : Bool) (hg : g_ref03_Name s = some r) : Fn Tryz.prog 78 0 [.val (.string s)] [] (fun d' b' => d' = .val (.bool r) ∧ b' = []) := by
 unfold g_ref03_Name at hg
 refine Fn.of Tryz.func78 rfl rfl rfl fun w0 I ρ0 => ?_
 show awp _ ⟨w0, I, ρ0, 0, 0, 28, none⟩ _ _ _
 refine sr_ 0 8 mk_U ?_
 refine go_ ?_
 refine ch_n fun hU => ?_
 refine awp_seq ?_
 refine awp_cut (ι := Bool) (fun (x11_1 : Bool) => mk [(0, .val (.string s)), (11, .val (.bool x11_1))] [] 0) (fun (x11_1 : Bool) => g_ref03_Name.j1 s x11_1 = some r) ?_ ?_
 ·refine awp_region (sys _ _ []) 8 72 hU rfl rfl ?_
  refine go_ ?_
  refine c0_ rfl rfl (r_lenT und9) rfl rfl ?_
  refine go_ ?_
  rcases bc_ hg with ⟨h2, hg⟩ | ⟨h2, hg⟩
  ·refine go_ ?_
   refine ch_n fun hU => ?_
   exact ⟨true, hg, sub_ []⟩
  ·refine go_ ?_
   refine c0_ (gdv_t rfl rfl h2) rfl (r_lenT und9) rfl rfl ?_
   refine go_ ?_
   refine ch_n fun hU => ?_
   exact ⟨decide (32 < (s.size : Int)), hg, sub_ []⟩
 ·rintro x11_1 hg
  replace hg : g_ref03_Name.j1 s x11_1 = some r := hg
  show awp _ _ _ _ (mk _ _ _)
  unfold g_ref03_Name.j1 at hg
  refine cg_ rfl hg (fun h5 hg => ?_) fun h5 hg => ?_
  ·refine awp_seq ?_
   refine awp_region (sys _ _ []) 0 8 mk_U rfl rfl ?_
   refine go_ ?_
   refine ch_n fun hU => ?_
   refine aw_r ?_
   obtain rfl := Option.some.inj hg
   exact fin_ [] ⟨rfl, rfl⟩
  ·refine awp_skip ?_
   repeat first | refine st_ ?_ | refine sn_ ?_
   refine awp_seq ?_
   refine sr_ 0 8 mk_U ?_
   refine go_ ?_
   refine ch_n fun hU => ?_
   refine awp_block ?_
   refine lp_ (fun (i_2 : Int) => mk [(0, .val (.string s)), (3, .val (.int .i64 i_2))] [] 0) hg (sub_ []) ?_
   rintro i_2 m2 o2 hg hn2
   replace hg : g_ref03_Name.l2 s i_2 = some o2 := hg
   show awp _ _ _ _ (mk _ _ _)
   unfold g_ref03_Name.l2 at hg
   refine awp_seq ?_
   refine sr_ 0 32 mk_U ?_
   refine go_ ?_
   refine c0_ rfl rfl (r_lenT und9) rfl rfl ?_
   refine go_ ?_
   refine ch_n fun hU => ?_
   refine cg_ rfl hg (fun h9 hg => ?_) fun h9 hg => ?_
   ·refine awp_skip ?_
    repeat first | refine st_ ?_ | refine sn_ ?_
    refine awp_seq ?_
    refine awp_block ?_
    refine awp_cut (ι := Bool) (fun (x27_3 : Bool) => mk [(0, .val (.string s)), (3, .val (.int .i64 i_2)), (27, .val (.bool x27_3))] [] 0) (fun (x27_3 : Bool) => g_ref03_Name.j3 i_2 x27_3 = some o2) ?_ ?_
    ·refine awp_region (sys _ _ []) 32 112 hU rfl rfl ?_
     refine go_ ?_
     obtain ⟨c, hc, hg⟩ := bind_some hg
     refine c0_ rfl rfl (r_idxT und9 hc) rfl rfl ?_
     refine go_ ?_
     rcases bc_ hg with ⟨h10, hg⟩ | ⟨h10, hg⟩
     ·refine go_ ?_
      refine ch_n fun hU => ?_
      exact ⟨true, hg, sub_ []⟩
     ·refine go_ ?_
      obtain ⟨c_2, hc_2, hg⟩ := bind_some hg
      refine c0_ (gdv_t rfl rfl h10) rfl (r_idxT und9 hc_2) rfl rfl ?_
      refine go_ ?_
      refine ch_n fun hU => ?_
      exact ⟨decide (126 < (c_2.toNat : Int)), hg, sub_ []⟩
    ·rintro x27_3 hg
     replace hg : g_ref03_Name.j3 i_2 x27_3 = some o2 := hg
     show awp _ _ _ _ (mk _ _ _)
     unfold g_ref03_Name.j3 at hg
     refine cg_ rfl hg (fun h13 hg => ?_) fun h13 hg => ?_
     ·refine awp_seq ?_
      refine awp_region (sys _ _ []) 0 8 mk_U rfl rfl ?_
      refine go_ ?_
      refine ch_n fun hU => ?_
      refine aw_r ?_
      replace hg := leave hg hn2
      obtain rfl := Option.some.inj hg
      exact fin_ [] ⟨rfl, rfl⟩
     ·refine awp_skip ?_
      repeat first | refine st_ ?_ | refine sn_ ?_
      refine awp_region (sys _ _ []) 0 24 mk_U rfl rfl ?_
      refine go_ ?_
      refine ch_n fun hU => ?_
      obtain rfl := Option.some.inj hg
      exact ⟨(W (i_2 + 1), m2), Nat.lt_succ_self _, hn2, sub_ []⟩
   ·refine awp_exit ?_
    repeat first | refine st_ ?_ | refine sn_ ?_
    replace hg := leave hg hn2
    refine sr_ 32 40 hU ?_
    refine go_ ?_
    refine ch_n fun hU => ?_
    refine aw_r ?_
    obtain rfl := Option.some.inj hg
    exact fin_ [] ⟨rfl, rfl⟩
theorem w_ref19_Check (x' : api_Exception) (r : Int) (hg : g_ref19_Check x' = some r) : Fn Tryz.prog 59 0 [.agg (api_Exception.dv x')] [] (fun d' b' => d' = .val (.int .i64 r) ∧ b' = []) := by
 unfold g_ref19_Check at hg
 refine Fn.of Tryz.func59 rfl rfl rfl fun w0 I ρ0 => ?_
 show awp _ ⟨w0, I, ρ0, 0, 0, 98, none⟩ _ _ _
 refine sr_ 0 16 mk_U ?_
 refine go_ ?_
 refine ch_n fun hU => ?_
 refine awp_seq ?_
 refine awp_cut (ι := Bool) (fun (x51_1 : Bool) => mk [(1, .ptr 0 0), (51, .val (.bool x51_1))] [(0, .box (api_Exception.dv x') 52)] 1) (fun (x51_1 : Bool) => g_ref19_Check.j1 x' x51_1 = some r) ?_ ?_
 ·refine awp_region (sys _ _ []) 16 392 hU rfl rfl ?_
  refine go_ ?_
  obtain ⟨y, hy, hg⟩ := bind_some hg
  refine ca_ (w_ref02_Valid _ _ hy) ?_
  refine go_ ?_
  rcases bc_ hg with ⟨h2, hg⟩ | ⟨h2, hg⟩
  ·refine go_ ?_
   refine ch_n fun hU => ?_
   exact ⟨true, hg, sub_ [(0, 0)]⟩
  ·refine go_ ?_
   rcases bc_ hg with ⟨h4, hg⟩ | ⟨h4, hg⟩
   ·refine go_ ?_
    refine ch_n fun hU => ?_
    exact ⟨true, hg, sub_ [(0, 0)]⟩
   ·refine go_ ?_
    rcases bc_ hg with ⟨h6, hg⟩ | ⟨h6, hg⟩
    ·refine go_ ?_
     refine ch_n fun hU => ?_
     exact ⟨true, hg, sub_ [(0, 0)]⟩
    ·refine go_ ?_
     obtain ⟨y_2, hy_2, hg⟩ := bind_some hg
     refine ca_ (w_ref03_Name _ _ hy_2) ?_
     refine go_ ?_
     rcases bc_ hg with ⟨h8, hg⟩ | ⟨h8, hg⟩
     ·refine go_ ?_
      refine ch_n fun hU => ?_
      exact ⟨true, hg, sub_ [(0, 0)]⟩
     ·refine go_ ?_
      rcases bc_ hg with ⟨h10, hg⟩ | ⟨h10, hg⟩
      ·refine go_ ?_
       refine ch_n fun hU => ?_
       exact ⟨true, hg, sub_ [(0, 0)]⟩
      ·refine go_ ?_
       rcases bc_ hg with ⟨h12, hg⟩ | ⟨h12, hg⟩
       ·refine go_ ?_
        refine ch_n fun hU => ?_
        exact ⟨true, hg, sub_ [(0, 0)]⟩
       ·refine go_ ?_
        rcases bc_ hg with ⟨h14, hg⟩ | ⟨h14, hg⟩
        ·refine go_ ?_
         refine ch_n fun hU => ?_
         exact ⟨true, hg, sub_ [(0, 0)]⟩
        ·refine go_ ?_
         refine ch_n fun hU => ?_
         exact ⟨decide (8 < (x'.Seals.length : Int)), hg, sub_ [(0, 0)]⟩
 ·rintro x51_1 hg
  replace hg : g_ref19_Check.j1 x' x51_1 = some r := hg
  show awp _ _ _ _ (mk _ _ _)
  unfold g_ref19_Check.j1 at hg
  refine cg_ rfl hg (fun h17 hg => ?_) fun h17 hg => ?_
  ·refine awp_seq ?_
   refine awp_region (sys _ _ []) 1 9 mk_U rfl rfl ?_
   refine go_ ?_
   refine ch_n fun hU => ?_
   refine aw_r ?_
   obtain rfl := Option.some.inj hg
   exact fin_ [] ⟨rfl, rfl⟩
  ·refine awp_skip ?_
   repeat first | refine st_ ?_ | refine sn_ ?_
   refine awp_seq ?_
   refine sr_ 1 9 mk_U ?_
   refine go_ ?_
   refine ch_n fun hU => ?_
   refine awp_block ?_
   refine lp_ (fun (i_2 : Int) => mk [(1, .ptr 0 0), (3, .val (.int .i64 i_2))] [(0, .box (api_Exception.dv x') 52)] 1) hg (sub_ [(0, 0)]) ?_
   rintro i_2 m2 o2 hg hn2
   replace hg : g_ref19_Check.l2 x' i_2 = some o2 := hg
   show awp _ _ _ _ (mk _ _ _)
   unfold g_ref19_Check.l2 at hg
   refine awp_seq ?_
   refine sr_ 1 41 mk_U ?_
   refine go_ ?_
   refine ch_n fun hU => ?_
   refine cg_ rfl hg (fun h21 hg => ?_) fun h21 hg => ?_
   ·refine awp_skip ?_
    repeat first | refine st_ ?_ | refine sn_ ?_
    refine awp_seq ?_
    refine awp_block ?_
    refine sr_ 41 97 hU ?_
    refine go_ ?_
    obtain ⟨e, he, hg⟩ := bind_some hg
    refine go_ ?_
    refine c0_ rfl rfl (r_loadEA ty87 (enc_cells api_Seal.enc_len (getI_at he) (o := 0) (m := 2) (cs := [.int .i64 e.Key, .int .i64 e.Sum]) rfl (by decide) rfl) (enc_cells_le api_Seal.enc_len (getI_at he) (o := 0) (m := 2) (by decide) rfl)) rfl rfl ?_
    refine go_ ?_
    refine ch_n fun hU => ?_
    refine awp_cut (ι := Bool) (fun (x97_3 : Bool) => mk [(1, .ptr 0 0), (3, .val (.int .i64 i_2)), (97, .val (.bool x97_3))] [(0, .box (api_Exception.dv x') 52)] 1) (fun (x97_3 : Bool) => g_ref19_Check.j3 i_2 x97_3 = some o2) ?_ ?_
    ·refine awp_draw (sys _ _ []) (by kernel_rfl) [0, 1, 3, 7, 15, 31, 63, 127, 255, 511, 1023, 2047, 4095, 8191, 16383, 32767, 65535, 131071, 262143, 524287, 1048575, 2097151, 4194303, 8388607, 4194303, 20971519, 67108863, 134217727, 268435455, 4194303, 541065215, 2147483647, 4294967295, 8589934591] 97 369 hU rfl rfl (by kernel_rfl) ?_
     refine go_ ?_
     rcases bc_ hg with ⟨h23, hg⟩ | ⟨h23, hg⟩
     ·refine go_ ?_
      refine ch_n fun hU => ?_
      exact ⟨true, hg, sub_ [(0, 0)]⟩
     ·refine go_ ?_
      rcases bc_ hg with ⟨h25, hg⟩ | ⟨h25, hg⟩
      ·refine go_ ?_
       refine ch_n fun hU => ?_
       exact ⟨true, hg, sub_ [(0, 0)]⟩
      ·refine go_ ?_
       rcases bc_ hg with ⟨h27, hg⟩ | ⟨h27, hg⟩
       ·refine go_ ?_
        refine ch_n fun hU => ?_
        exact ⟨true, hg, sub_ [(0, 0)]⟩
       ·refine go_ ?_
        rcases bc_ hg with ⟨h29, hg⟩ | ⟨h29, hg⟩
        ·refine go_ ?_
         refine ch_n fun hU => ?_
         exact ⟨true, hg, sub_ [(0, 0)]⟩
        ·refine go_ ?_
         rcases bc_ hg with ⟨h31, hg⟩ | ⟨h31, hg⟩
         ·refine go_ ?_
          obtain ⟨e_2, he_2, hg⟩ := bind_some hg
          refine go_ ?_
          refine c0_ (gdv_t rfl rfl h31) rfl (r_fieldE fd87_0 ty3 (by decide) (enc_lt api_Seal.enc_len (getI_at he_2) (o := 0) (by decide) rfl)) rfl rfl ?_
          refine c0_ (gdv_t rfl rfl h31) rfl (r_loadE1 ty3 (enc_cell api_Seal.enc_len (getI_at he_2) (o := 0) (c := .int .i64 e_2.Key) rfl rfl)) rfl rfl ?_
          refine go_ ?_
          refine ch_n fun hU => ?_
          exact ⟨decide (e.Key ≤ e_2.Key), hg, sub_ [(0, 0)]⟩
         ·refine go_ ?_
          refine ch_n fun hU => ?_
          exact ⟨false, hg, sub_ [(0, 0)]⟩
    ·rintro x97_3 hg
     replace hg : g_ref19_Check.j3 i_2 x97_3 = some o2 := hg
     show awp _ _ _ _ (mk _ _ _)
     unfold g_ref19_Check.j3 at hg
     refine cg_ rfl hg (fun h34 hg => ?_) fun h34 hg => ?_
     ·refine awp_seq ?_
      refine awp_region (sys _ _ []) 1 9 mk_U rfl rfl ?_
      refine go_ ?_
      refine ch_n fun hU => ?_
      refine aw_r ?_
      replace hg := leave hg hn2
      obtain rfl := Option.some.inj hg
      exact fin_ [] ⟨rfl, rfl⟩
     ·refine awp_skip ?_
      repeat first | refine st_ ?_ | refine sn_ ?_
      refine awp_region (sys _ _ []) 1 25 mk_U rfl rfl ?_
      refine go_ ?_
      refine ch_n fun hU => ?_
      obtain rfl := Option.some.inj hg
      exact ⟨(W (i_2 + 1), m2), Nat.lt_succ_self _, hn2, sub_ [(0, 0)]⟩
   ·refine awp_exit ?_
    repeat first | refine st_ ?_ | refine sn_ ?_
    replace hg := leave hg hn2
    refine sr_ 41 49 hU ?_
    refine go_ ?_
    refine ch_n fun hU => ?_
    refine aw_r ?_
    obtain rfl := Option.some.inj hg
    exact fin_ [] ⟨rfl, rfl⟩
theorem w_ref01_Int (n : Int) (r : api_Value) (hg : g_ref01_Int n = some r) : Fn Tryz.prog 79 0 [.val (.int .i64 n)] [] (fun d' b' => d' = .agg (api_Value.dv r) ∧ b' = []) := by
 unfold g_ref01_Int at hg
 refine Fn.of Tryz.func79 rfl rfl rfl fun w0 I ρ0 => ?_
 show awp _ ⟨w0, I, ρ0, 0, 0, 45, none⟩ _ _ _
 refine sr_ 0 8 mk_U ?_
 refine go_ ?_
 refine ch_n fun hU => ?_
 refine sr_ 8 40 hU ?_
 refine go_ ?_
 refine c0_ rfl rfl (r_conv_u8 und3 und5) rfl rfl ?_
 refine c0_ rfl rfl (r_buildFull sl82 z5 (by decide) rfl rfl rfl rfl ck5 (cs := [.int .u8 ((u8 n).toNat : Int)]) (.cons .int .nil) rfl (l := ([(u8 n)] : List UInt8)) (f := e8) rfl) rfl rfl ?_
 refine go_ ?_
 refine ch_n fun hU => ?_
 refine awp_seq ?_
 refine sr_ 40 64 hU ?_
 refine go_ ?_
 obtain ⟨q, hq, hg⟩ := bind_some hg
 refine c0_ rfl rfl (r_shrK hq) rfl rfl ?_
 refine go_ ?_
 refine ch_n fun hU => ?_
 refine awp_block ?_
 refine lp_ (fun ((x_1, b_1) : Int × List UInt8) => mk [(2, .ptr 0 0), (3, .row 1), (4, .val (.int .i64 x_1))] [(0, .box [.val (.int .i64 0), .val (.slice none 0 0), .val (.bool false), .val (.slice none 0 0)] 103), (1, .row 5 1 (encL e8 b_1))] 2) hg (sub_ [(0, 0), (1, 24)]) ?_
 rintro ⟨x_1, b_1⟩ m1 o1 hg hn1
 replace hg : g_ref01_Int.l1 x_1 b_1 = some o1 := hg
 show awp _ _ _ _ (mk _ _ _)
 unfold g_ref01_Int.l1 at hg
 refine awp_seq ?_
 refine awp_cut (ι := Bool) (fun (x35_2 : Bool) => mk [(2, .ptr 0 0), (3, .row 1), (4, .val (.int .i64 x_1)), (35, .val (.bool x35_2))] [(0, .box [.val (.int .i64 0), .val (.slice none 0 0), .val (.bool false), .val (.slice none 0 0)] 103), (1, .row 5 1 (encL e8 b_1))] 2) (fun (x35_2 : Bool) => g_ref01_Int.j2 x_1 b_1 x35_2 = some o1) ?_ ?_
 ·refine awp_region (sys _ _ []) 2 210 mk_U rfl rfl ?_
  refine go_ ?_
  rcases bc_ hg with ⟨h4, hg⟩ | ⟨h4, hg⟩
  ·refine go_ ?_
   rcases bc_ hg with ⟨h5, hg⟩ | ⟨h5, hg⟩
   ·refine go_ ?_
    refine ch_n fun hU => ?_
    exact ⟨true, hg, sub_ [(0, 0), (1, 1)]⟩
   ·refine go_ ?_
    rcases bc_ hg with ⟨h7, hg⟩ | ⟨h7, hg⟩
    ·refine go_ ?_
     obtain ⟨e, he, hg⟩ := bind_some hg
     refine go_ ?_
     refine ch_s (rd := [1]) (gdv_t rfl rfl h7) rfl (.loadR1 ty5 (enc_cell e8_len (getI_at he) (o := 0) (c := .int .u8 (e.toNat : Int)) rfl rfl)) rfl rfl ?_
     refine go_ ?_
     rcases bc_ hg with ⟨h8, hg⟩ | ⟨h8, hg⟩
     ·refine go_ ?_
      refine ch_n fun hU => ?_
      exact ⟨true, hg, sub_ [(0, 0), (1, 1)]⟩
     ·refine go_ ?_
      rcases bc_ hg with ⟨h10, hg⟩ | ⟨h10, hg⟩
      ·refine go_ ?_
       refine ch_s (rd := [1]) (gdv_t rfl rfl h10) rfl (.loadR1 ty5 (enc_cell e8_len (getI_at he) (o := 0) (c := .int .u8 (e.toNat : Int)) rfl rfl)) rfl rfl ?_
       refine go_ ?_
       refine ch_n fun hU => ?_
       exact ⟨decide ((e.toNat : Int) < 128), hg, sub_ [(0, 0), (1, 1)]⟩
      ·refine go_ ?_
       refine ch_n fun hU => ?_
       exact ⟨false, hg, sub_ [(0, 0), (1, 1)]⟩
    ·refine go_ ?_
     rcases bc_ hg with ⟨h13, hg⟩ | ⟨h13, hg⟩
     ·refine go_ ?_
      obtain ⟨e_2, he_2, hg⟩ := bind_some hg
      refine go_ ?_
      refine ch_s (rd := [1]) (gdv_t rfl rfl h13) rfl (.loadR1 ty5 (enc_cell e8_len (getI_at he_2) (o := 0) (c := .int .u8 (e_2.toNat : Int)) rfl rfl)) rfl rfl ?_
      refine go_ ?_
      refine ch_n fun hU => ?_
      exact ⟨decide ((e_2.toNat : Int) < 128), hg, sub_ [(0, 0), (1, 1)]⟩
     ·refine go_ ?_
      refine ch_n fun hU => ?_
      exact ⟨false, hg, sub_ [(0, 0), (1, 1)]⟩
  ·refine go_ ?_
   rcases bc_ hg with ⟨h16, hg⟩ | ⟨h16, hg⟩
   ·refine go_ ?_
    obtain ⟨e_3, he_3, hg⟩ := bind_some hg
    refine go_ ?_
    refine ch_s (rd := [1]) (gdv_t rfl rfl h16) rfl (.loadR1 ty5 (enc_cell e8_len (getI_at he_3) (o := 0) (c := .int .u8 (e_3.toNat : Int)) rfl rfl)) rfl rfl ?_
    refine go_ ?_
    rcases bc_ hg with ⟨h17, hg⟩ | ⟨h17, hg⟩
    ·refine go_ ?_
     refine ch_n fun hU => ?_
     exact ⟨true, hg, sub_ [(0, 0), (1, 1)]⟩
    ·refine go_ ?_
     rcases bc_ hg with ⟨h19, hg⟩ | ⟨h19, hg⟩
     ·refine go_ ?_
      refine ch_s (rd := [1]) (gdv_t rfl rfl h19) rfl (.loadR1 ty5 (enc_cell e8_len (getI_at he_3) (o := 0) (c := .int .u8 (e_3.toNat : Int)) rfl rfl)) rfl rfl ?_
      refine go_ ?_
      refine ch_n fun hU => ?_
      exact ⟨decide ((e_3.toNat : Int) < 128), hg, sub_ [(0, 0), (1, 1)]⟩
     ·refine go_ ?_
      refine ch_n fun hU => ?_
      exact ⟨false, hg, sub_ [(0, 0), (1, 1)]⟩
   ·refine go_ ?_
    rcases bc_ hg with ⟨h22, hg⟩ | ⟨h22, hg⟩
    ·refine go_ ?_
     obtain ⟨e_4, he_4, hg⟩ := bind_some hg
     refine go_ ?_
     refine ch_s (rd := [1]) (gdv_t rfl rfl h22) rfl (.loadR1 ty5 (enc_cell e8_len (getI_at he_4) (o := 0) (c := .int .u8 (e_4.toNat : Int)) rfl rfl)) rfl rfl ?_
     refine go_ ?_
     refine ch_n fun hU => ?_
     exact ⟨decide ((e_4.toNat : Int) < 128), hg, sub_ [(0, 0), (1, 1)]⟩
    ·refine go_ ?_
     refine ch_n fun hU => ?_
     exact ⟨false, hg, sub_ [(0, 0), (1, 1)]⟩
 ·rintro x35_2 hg
  replace hg : g_ref01_Int.j2 x_1 b_1 x35_2 = some o1 := hg
  show awp _ _ _ _ (mk _ _ _)
  unfold g_ref01_Int.j2 at hg
  refine cg_ rfl hg (fun h25 hg => ?_) fun h25 hg => ?_
  ·refine awp_skip ?_
   repeat first | refine st_ ?_ | refine sn_ ?_
   refine awp_seq ?_
   refine awp_block ?_
   refine awp_region (sys _ _ []) 2 50 mk_U rfl rfl ?_
   refine go_ ?_
   refine c0_ rfl rfl (r_conv_u8 und3 und5) rfl rfl ?_
   refine c0_ rfl rfl (r_buildFull sl82 z5 (by decide) rfl rfl rfl rfl ck5 (cs := [.int .u8 ((u8 x_1).toNat : Int)]) (.cons .int .nil) rfl (l := ([(u8 x_1)] : List UInt8)) (f := e8) rfl) rfl rfl ?_
   refine go_ ?_
   obtain ⟨l, hl, hg⟩ := bind_some hg
   refine ch_s (rd := [18, 1]) rfl rfl (r_append sl82 e8_len .row rfl .row rfl hl rfl) rfl rfl ?_
   refine go_ ?_
   refine ch_n fun hU => ?_
   refine awp_region (sys _ _ []) 50 74 hU rfl rfl ?_
   refine go_ ?_
   obtain ⟨q_2, hq_2, hg⟩ := bind_some hg
   refine c0_ rfl rfl (r_shrK hq_2) rfl rfl ?_
   refine go_ ?_
   refine ch_n fun hU => ?_
   obtain rfl := Option.some.inj hg
   exact ⟨((q_2, l), m1), Nat.lt_succ_self _, hn1, sub_ [(0, 0), (1, 34)]⟩
  ·refine awp_exit ?_
   repeat first | refine st_ ?_ | refine sn_ ?_
   replace hg := leave hg hn1
   refine sr_ 2 26 mk_U ?_
   refine go_ ?_
   refine c0_ rfl rfl (.build (r := [.val (.int .i64 2), .row 1, .val (.bool false), .val (.slice none 0 0)]) und103 pl103 z103 (by kernel_rfl) rfl) rfl rfl ?_
   refine go_ ?_
   refine ch_n fun hU => ?_
   refine aw_r ?_
   obtain rfl := Option.some.inj hg
   exact fin_ [] ⟨rfl, rfl⟩
theorem w_ref01_Text (s : ByteArray) (r : api_Value) (hg : g_ref01_Text s = some r) : Fn Tryz.prog 80 0 [.val (.string s)] [] (fun d' b' => d' = .agg (api_Value.dv r) ∧ b' = []) := by
 unfold g_ref01_Text at hg
 refine Fn.of Tryz.func80 rfl rfl rfl fun w0 I ρ0 => ?_
 show awp _ ⟨w0, I, ρ0, 0, 0, 6, none⟩ _ _ _
 refine sr_ 0 8 mk_U ?_
 refine go_ ?_
 refine ch_n fun hU => ?_
 refine sr_ 8 40 hU ?_
 refine go_ ?_
 refine c0_ rfl rfl (r_convB und9 und82 und5) rfl rfl ?_
 refine c0_ rfl rfl (.build (r := [.val (.int .i64 12), .sl 1 (encL e8 (toB s)), .val (.bool false), .val (.slice none 0 0)]) und103 pl103 z103 (by kernel_rfl) rfl) rfl rfl ?_
 refine go_ ?_
 refine ch_n fun hU => ?_
 refine aw_r ?_
 obtain rfl := Option.some.inj hg
 exact fin_ [] ⟨rfl, rfl⟩
theorem w_ref01_copies.F (rec : (List api_Value) → Option ((List api_Value))) (hrec : ∀ (l : (List api_Value)) (r : (List api_Value)), rec l = some r → Fn Tryz.prog 112 0 [.sl 4 (encL api_Value.enc l)] [] (fun d' b' => d' = .sl 4 (encL api_Value.enc r) ∧ b' = [])) (l : (List api_Value)) (r : (List api_Value)) (hg : g_ref01_copies.F rec l = some r) : Fn Tryz.prog 112 0 [.sl 4 (encL api_Value.enc l)] [] (fun d' b' => d' = .sl 4 (encL api_Value.enc r) ∧ b' = []) := by
 unfold g_ref01_copies.F at hg
 refine Fn.of Tryz.func112 rfl rfl rfl fun w0 I ρ0 => ?_
 show awp _ ⟨w0, I, ρ0, 0, 0, 30, none⟩ _ _ _
 refine sr_ 0 8 mk_U ?_
 refine go_ ?_
 refine ch_n fun hU => ?_
 refine sr_ 8 16 hU ?_
 refine go_ ?_
 refine ch_n fun hU => ?_
 refine awp_seq ?_
 refine sr_ 16 24 hU ?_
 refine go_ ?_
 refine ch_n fun hU => ?_
 refine awp_block ?_
 refine lp_ (fun ((i_1, out_1) : Int × List api_Value) => mk [(0, .sl 4 (encL api_Value.enc l)), (3, .row 0), (4, .val (.int .i64 i_1))] [(0, .row 103 4 (encL api_Value.enc out_1))] 1) hg (sub_ []) ?_
 rintro ⟨i_1, out_1⟩ m1 o1 hg hn1
 replace hg : g_ref01_copies.l1 rec l i_1 out_1 = some o1 := hg
 show awp _ _ _ _ (mk _ _ _)
 unfold g_ref01_copies.l1 at hg
 refine awp_seq ?_
 refine sr_ 1 33 mk_U ?_
 refine go_ ?_
 refine ch_n fun hU => ?_
 refine cg_ rfl hg (fun h5 hg => ?_) fun h5 hg => ?_
 ·refine awp_skip ?_
  repeat first | refine st_ ?_ | refine sn_ ?_
  refine awp_seq ?_
  refine awp_block ?_
  refine sr_ 33 81 hU ?_
  refine go_ ?_
  obtain ⟨e, he, hg⟩ := bind_some hg
  refine go_ ?_
  refine c0_ rfl rfl (r_loadEA ty103 (enc_cells api_Value.enc_len (getI_at he) (o := 0) (m := 4) (cs := [.int .i64 e.Tag, .sl 1 (encL e8 e.Bytes), .bool e.Nested, .sl 4 (encL api_Value.enc e.Elements)]) (by simp only [api_Value.enc_eq]; rfl) (by decide) rfl) (enc_cells_le api_Value.enc_len (getI_at he) (o := 0) (m := 4) (by decide) rfl)) rfl rfl ?_
  refine go_ ?_
  refine ch_n fun hU => ?_
  refine sr_ 81 129 hU ?_
  refine c0_ rfl rfl (r_buildFull sl82 z5 (by decide) rfl rfl rfl rfl ck5 (cs := []) .nil rfl (l := ([] : List UInt8)) (f := e8) rfl) rfl rfl ?_
  refine go_ ?_
  obtain ⟨l_2, hl_2, hg⟩ := bind_some hg
  refine ch_s (rd := [81]) rfl rfl (r_append sl82 e8_len .row rfl .sl rfl hl_2 rfl) rfl rfl ?_
  refine go_ ?_
  refine ch_n fun hU => ?_
  refine sr_ 129 169 hU ?_
  refine go_ ?_
  obtain ⟨y, hy, hg⟩ := bind_some hg
  refine ca_ (hrec _ _ hy) ?_
  refine go_ ?_
  refine ch_n fun hU => ?_
  refine awp_sub (σ' := mk [(0, .sl 4 (encL api_Value.enc l)), (3, .row 0), (4, .val (.int .i64 i_1)), (5, .ptr 1 0)] [(0, .row 103 4 (encL api_Value.enc out_1)), (1, .box [.val (.int .i64 e.Tag), .sl 1 (encL e8 l_2), .val (.bool e.Nested), .sl 4 (encL api_Value.enc y)] 103)] 2) (sub_ [(0, 0), (1, 65)]) ?_
  refine awp_region (sys _ _ []) 2 42 mk_U rfl rfl ?_
  refine go_ ?_
  refine c0_ rfl rfl (r_buildFull sl101 z103 (by decide) rfl rfl rfl rfl ck103 (cs := [.int .i64 e.Tag, .sl 1 (encL e8 l_2), .bool e.Nested, .sl 4 (encL api_Value.enc y)]) (.cons .int (.cons .sl (.cons .bool (.cons .sl .nil)))) rfl (l := ([(api_Value.mk e.Tag l_2 e.Nested y)] : List api_Value)) (f := api_Value.enc) (by simp only [encL, List.flatMap_cons, List.flatMap_nil, api_Value.enc_eq]; rfl)) rfl rfl ?_
  obtain ⟨l_3, hl_3, hg⟩ := bind_some hg
  refine ch_s (rd := [0, 18]) rfl rfl (r_append sl101 api_Value.enc_len .row rfl .row rfl hl_3 rfl) rfl rfl ?_
  refine go_ ?_
  refine ch_n fun hU => ?_
  refine awp_region (sys _ _ []) 42 66 hU rfl rfl ?_
  refine go_ ?_
  refine ch_n fun hU => ?_
  obtain rfl := Option.some.inj hg
  exact ⟨((W (i_1 + 1), l_3), m1), Nat.lt_succ_self _, hn1, sub_ [(0, 26)]⟩
 ·refine awp_exit ?_
  repeat first | refine st_ ?_ | refine sn_ ?_
  replace hg := leave hg hn1
  refine sr_ 33 49 hU ?_
  refine go_ ?_
  refine ch_n fun hU => ?_
  refine aw_r ?_
  obtain rfl := Option.some.inj hg
  exact fin_ [] ⟨rfl, rfl⟩
theorem w_ref01_copies (l : (List api_Value)) (r : (List api_Value)) (hg : g_ref01_copies l = some r) : Fn Tryz.prog 112 0 [.sl 4 (encL api_Value.enc l)] [] (fun d' b' => d' = .sl 4 (encL api_Value.enc r) ∧ b' = []) :=
 fixT_ind (motive := fun (x : (List api_Value)) (r : (List api_Value)) => Fn Tryz.prog 112 0 [.sl 4 (encL api_Value.enc x)] [] (fun d' b' => d' = .sl 4 (encL api_Value.enc r) ∧ b' = [])) (fun rec hrec x r h => w_ref01_copies.F _ (fun l r h => hrec l r h) x r h) l r hg
theorem w_ref01_List (l : (List api_Value)) (r : api_Value) (hg : g_ref01_List l = some r) : Fn Tryz.prog 82 0 [.sl 4 (encL api_Value.enc l)] [] (fun d' b' => d' = .agg (api_Value.dv r) ∧ b' = []) := by
 unfold g_ref01_List at hg
 refine Fn.of Tryz.func82 rfl rfl rfl fun w0 I ρ0 => ?_
 show awp _ ⟨w0, I, ρ0, 0, 0, 6, none⟩ _ _ _
 refine sr_ 0 8 mk_U ?_
 refine go_ ?_
 refine ch_n fun hU => ?_
 refine sr_ 8 40 hU ?_
 refine go_ ?_
 obtain ⟨y, hy, hg⟩ := bind_some hg
 refine ca_ (w_ref01_copies _ _ hy) ?_
 refine c0_ rfl rfl (.build (r := [.val (.int .i64 48), .val (.slice none 0 0), .val (.bool true), .sl 4 (encL api_Value.enc y)]) und103 pl103 z103 (by kernel_rfl) rfl) rfl rfl ?_
 refine go_ ?_
 refine ch_n fun hU => ?_
 refine aw_r ?_
 obtain rfl := Option.some.inj hg
 exact fin_ [] ⟨rfl, rfl⟩
theorem w_ref01_tag (n : Int) (r : Bool) (hg : g_ref01_tag n = some r) : Fn Tryz.prog 127 0 [.val (.int .i64 n)] [] (fun d' b' => d' = .val (.bool r) ∧ b' = []) := by
 unfold g_ref01_tag at hg
 refine Fn.of Tryz.func127 rfl rfl rfl fun w0 I ρ0 => ?_
 show awp _ ⟨w0, I, ρ0, 0, 0, 14, none⟩ _ _ _
 refine sr_ 0 8 mk_U ?_
 refine go_ ?_
 refine ch_n fun hU => ?_
 refine sr_ 8 104 hU ?_
 refine go_ ?_
 rcases bc_ hg with ⟨h2, hg⟩ | ⟨h2, hg⟩
 ·refine go_ ?_
  rcases bc_ hg with ⟨h3, hg⟩ | ⟨h3, hg⟩
  ·refine go_ ?_
   obtain ⟨q, hq, hg⟩ := bind_some hg
   refine c0_ (gdv_t rfl rfl h3) rfl (r_rem hq) rfl rfl ?_
   refine go_ ?_
   refine ch_n fun hU => ?_
   refine aw_r ?_
   obtain rfl := Option.some.inj hg
   exact fin_ [] ⟨rfl, rfl⟩
  ·refine go_ ?_
   refine ch_n fun hU => ?_
   refine aw_r ?_
   obtain rfl := Option.some.inj hg
   exact fin_ [] ⟨rfl, rfl⟩
 ·refine go_ ?_
  refine ch_n fun hU => ?_
  refine aw_r ?_
  obtain rfl := Option.some.inj hg
  exact fin_ [] ⟨rfl, rfl⟩
theorem w_ref01_formed.F (rec : api_Value → Option (Bool)) (hrec : ∀ (v : api_Value) (r : Bool), rec v = some r → Fn Tryz.prog 109 0 [.agg (api_Value.dv v)] [] (fun d' b' => d' = .val (.bool r) ∧ b' = [])) (v : api_Value) (r : Bool) (hg : g_ref01_formed.F rec v = some r) : Fn Tryz.prog 109 0 [.agg (api_Value.dv v)] [] (fun d' b' => d' = .val (.bool r) ∧ b' = []) := by
 unfold g_ref01_formed.F at hg
 refine Fn.of Tryz.func109 rfl rfl rfl fun w0 I ρ0 => ?_
 show awp _ ⟨w0, I, ρ0, 0, 0, 53, none⟩ _ _ _
 refine sr_ 0 16 mk_U ?_
 refine go_ ?_
 refine ch_n fun hU => ?_
 refine awp_seq ?_
 refine awp_cut (ι := Bool) (fun (x38_1 : Bool) => mk [(1, .ptr 0 0), (38, .val (.bool x38_1))] [(0, .box (api_Value.dv v) 103)] 1) (fun (x38_1 : Bool) => g_ref01_formed.j1 rec v x38_1 = some r) ?_ ?_
 ·refine awp_region (sys _ _ []) 16 296 hU rfl rfl ?_
  refine go_ ?_
  obtain ⟨y, hy, hg⟩ := bind_some hg
  refine ca_ (w_ref01_tag _ _ hy) ?_
  refine go_ ?_
  rcases bc_ hg with ⟨h2, hg⟩ | ⟨h2, hg⟩
  ·refine go_ ?_
   refine ch_n fun hU => ?_
   exact ⟨true, hg, sub_ [(0, 0)]⟩
  ·refine go_ ?_
   obtain ⟨q, hq, hg⟩ := bind_some hg
   refine c0_ (gdv_t rfl rfl h2) rfl (r_quo hq) rfl rfl ?_
   obtain ⟨q_2, hq_2, hg⟩ := bind_some hg
   refine c0_ (gdv_t rfl rfl h2) rfl (r_rem hq_2) rfl rfl ?_
   refine go_ ?_
   refine c0_ (gdv_t rfl rfl h2) rfl (r_bneq und4) rfl rfl ?_
   refine go_ ?_
   rcases bc_ hg with ⟨h4, hg⟩ | ⟨h4, hg⟩
   ·refine go_ ?_
    refine ch_n fun hU => ?_
    exact ⟨true, hg, sub_ [(0, 0)]⟩
   ·refine go_ ?_
    rcases bc_ hg with ⟨h6, hg⟩ | ⟨h6, hg⟩
    ·refine go_ ?_
     rcases bc_ hg with ⟨h7, hg⟩ | ⟨h7, hg⟩
     ·refine go_ ?_
      refine ch_n fun hU => ?_
      exact ⟨true, hg, sub_ [(0, 0)]⟩
     ·refine go_ ?_
      refine ch_n fun hU => ?_
      exact ⟨false, hg, sub_ [(0, 0)]⟩
    ·refine go_ ?_
     refine ch_n fun hU => ?_
     exact ⟨decide (0 < (v.Elements.length : Int)), hg, sub_ [(0, 0)]⟩
 ·rintro x38_1 hg
  replace hg : g_ref01_formed.j1 rec v x38_1 = some r := hg
  show awp _ _ _ _ (mk _ _ _)
  unfold g_ref01_formed.j1 at hg
  refine cg_ rfl hg (fun h11 hg => ?_) fun h11 hg => ?_
  ·refine awp_seq ?_
   refine awp_region (sys _ _ []) 1 9 mk_U rfl rfl ?_
   refine go_ ?_
   refine ch_n fun hU => ?_
   refine aw_r ?_
   obtain rfl := Option.some.inj hg
   exact fin_ [] ⟨rfl, rfl⟩
  ·refine awp_skip ?_
   repeat first | refine st_ ?_ | refine sn_ ?_
   refine awp_seq ?_
   refine sr_ 1 9 mk_U ?_
   refine go_ ?_
   refine ch_n fun hU => ?_
   refine awp_block ?_
   refine lp_ (fun (i_2 : Int) => mk [(1, .ptr 0 0), (3, .val (.int .i64 i_2))] [(0, .box (api_Value.dv v) 103)] 1) hg (sub_ [(0, 0)]) ?_
   rintro i_2 m2 o2 hg hn2
   replace hg : g_ref01_formed.l2 rec v i_2 = some o2 := hg
   show awp _ _ _ _ (mk _ _ _)
   unfold g_ref01_formed.l2 at hg
   refine awp_seq ?_
   refine sr_ 1 41 mk_U ?_
   refine go_ ?_
   refine ch_n fun hU => ?_
   refine cg_ rfl hg (fun h15 hg => ?_) fun h15 hg => ?_
   ·refine awp_skip ?_
    repeat first | refine st_ ?_ | refine sn_ ?_
    refine awp_seq ?_
    refine awp_block ?_
    refine sr_ 41 97 hU ?_
    refine go_ ?_
    obtain ⟨e, he, hg⟩ := bind_some hg
    refine go_ ?_
    refine c0_ rfl rfl (r_loadEA ty103 (enc_cells api_Value.enc_len (getI_at he) (o := 0) (m := 4) (cs := [.int .i64 e.Tag, .sl 1 (encL e8 e.Bytes), .bool e.Nested, .sl 4 (encL api_Value.enc e.Elements)]) (by simp only [api_Value.enc_eq]; rfl) (by decide) rfl) (enc_cells_le api_Value.enc_len (getI_at he) (o := 0) (m := 4) (by decide) rfl)) rfl rfl ?_
    obtain ⟨y_2, hy_2, hg⟩ := bind_some hg
    refine ca_ (hrec _ _ hy_2) ?_
    refine go_ ?_
    refine ch_n fun hU => ?_
    refine cg_ rfl hg (fun h17 hg => ?_) fun h17 hg => ?_
    ·refine awp_seq ?_
     refine awp_region (sys _ _ []) 97 105 hU rfl rfl ?_
     refine go_ ?_
     refine ch_n fun hU => ?_
     refine aw_r ?_
     replace hg := leave hg hn2
     obtain rfl := Option.some.inj hg
     exact fin_ [] ⟨rfl, rfl⟩
    ·refine awp_skip ?_
     repeat first | refine st_ ?_ | refine sn_ ?_
     refine awp_region (sys _ _ []) 97 121 hU rfl rfl ?_
     refine go_ ?_
     refine ch_n fun hU => ?_
     obtain rfl := Option.some.inj hg
     exact ⟨(W (i_2 + 1), m2), Nat.lt_succ_self _, hn2, sub_ [(0, 0)]⟩
   ·refine awp_exit ?_
    repeat first | refine st_ ?_ | refine sn_ ?_
    replace hg := leave hg hn2
    refine sr_ 41 49 hU ?_
    refine go_ ?_
    refine ch_n fun hU => ?_
    refine aw_r ?_
    obtain rfl := Option.some.inj hg
    exact fin_ [] ⟨rfl, rfl⟩
theorem w_ref01_formed (v : api_Value) (r : Bool) (hg : g_ref01_formed v = some r) : Fn Tryz.prog 109 0 [.agg (api_Value.dv v)] [] (fun d' b' => d' = .val (.bool r) ∧ b' = []) :=
 fixT_ind (motive := fun (x : api_Value) (r : Bool) => Fn Tryz.prog 109 0 [.agg (api_Value.dv x)] [] (fun d' b' => d' = .val (.bool r) ∧ b' = [])) (fun rec hrec x r h => w_ref01_formed.F _ (fun v r h => hrec v r h) x r h) v r hg
theorem w_ref01_depth.F (rec : api_Value → Option (Int)) (hrec : ∀ (v : api_Value) (r : Int), rec v = some r → Fn Tryz.prog 110 0 [.agg (api_Value.dv v)] [] (fun d' b' => d' = .val (.int .i64 r) ∧ b' = [])) (v : api_Value) (r : Int) (hg : g_ref01_depth.F rec v = some r) : Fn Tryz.prog 110 0 [.agg (api_Value.dv v)] [] (fun d' b' => d' = .val (.int .i64 r) ∧ b' = []) := by
 unfold g_ref01_depth.F at hg
 refine Fn.of Tryz.func110 rfl rfl rfl fun w0 I ρ0 => ?_
 show awp _ ⟨w0, I, ρ0, 0, 0, 22, none⟩ _ _ _
 refine sr_ 0 16 mk_U ?_
 refine go_ ?_
 refine ch_n fun hU => ?_
 refine sr_ 16 24 hU ?_
 refine go_ ?_
 refine ch_n fun hU => ?_
 refine awp_seq ?_
 refine sr_ 24 32 hU ?_
 refine go_ ?_
 refine ch_n fun hU => ?_
 refine awp_block ?_
 refine lp_ (fun ((d_1, i_1) : Int × Int) => mk [(1, .ptr 0 0), (3, .val (.int .i64 d_1)), (4, .val (.int .i64 i_1))] [(0, .box (api_Value.dv v) 103)] 1) hg (sub_ [(0, 0)]) ?_
 rintro ⟨d_1, i_1⟩ m1 o1 hg hn1
 replace hg : g_ref01_depth.l1 rec v d_1 i_1 = some o1 := hg
 show awp _ _ _ _ (mk _ _ _)
 unfold g_ref01_depth.l1 at hg
 refine awp_seq ?_
 refine sr_ 1 41 mk_U ?_
 refine go_ ?_
 refine ch_n fun hU => ?_
 refine cg_ rfl hg (fun h5 hg => ?_) fun h5 hg => ?_
 ·refine awp_skip ?_
  repeat first | refine st_ ?_ | refine sn_ ?_
  refine awp_seq ?_
  refine awp_block ?_
  refine awp_region (sys _ _ []) 41 113 hU rfl rfl ?_
  refine go_ ?_
  obtain ⟨e, he, hg⟩ := bind_some hg
  refine go_ ?_
  refine c0_ rfl rfl (r_loadEA ty103 (enc_cells api_Value.enc_len (getI_at he) (o := 0) (m := 4) (cs := [.int .i64 e.Tag, .sl 1 (encL e8 e.Bytes), .bool e.Nested, .sl 4 (encL api_Value.enc e.Elements)]) (by simp only [api_Value.enc_eq]; rfl) (by decide) rfl) (enc_cells_le api_Value.enc_len (getI_at he) (o := 0) (m := 4) (by decide) rfl)) rfl rfl ?_
  obtain ⟨y, hy, hg⟩ := bind_some hg
  refine ca_ (hrec _ _ hy) ?_
  refine c0_ rfl rfl r_max rfl rfl ?_
  refine go_ ?_
  refine ch_n fun hU => ?_
  refine awp_region (sys _ _ []) 113 137 hU rfl rfl ?_
  refine go_ ?_
  refine ch_n fun hU => ?_
  obtain rfl := Option.some.inj hg
  exact ⟨((max d_1 y, W (i_1 + 1)), m1), Nat.lt_succ_self _, hn1, sub_ [(0, 0)]⟩
 ·refine awp_exit ?_
  repeat first | refine st_ ?_ | refine sn_ ?_
  replace hg := leave hg hn1
  refine sr_ 41 65 hU ?_
  refine go_ ?_
  refine ch_n fun hU => ?_
  refine aw_r ?_
  obtain rfl := Option.some.inj hg
  exact fin_ [] ⟨rfl, rfl⟩
theorem w_ref01_depth (v : api_Value) (r : Int) (hg : g_ref01_depth v = some r) : Fn Tryz.prog 110 0 [.agg (api_Value.dv v)] [] (fun d' b' => d' = .val (.int .i64 r) ∧ b' = []) :=
 fixT_ind (motive := fun (x : api_Value) (r : Int) => Fn Tryz.prog 110 0 [.agg (api_Value.dv x)] [] (fun d' b' => d' = .val (.int .i64 r) ∧ b' = [])) (fun rec hrec x r h => w_ref01_depth.F _ (fun v r h => hrec v r h) x r h) v r hg
end Go.Proofs.YtmbhoimeiahbaaaGreat
