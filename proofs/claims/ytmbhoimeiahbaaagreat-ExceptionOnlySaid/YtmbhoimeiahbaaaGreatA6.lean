/- The program computes the plain functions. -/
import Derived.Test.YtmbhoimeiahbaaaGreatT1
import Derived.Test.YtmbhoimeiahbaaaGreatA4
import Derived.Test.YtmbhoimeiahbaaaGreatA5
set_option linter.unusedVariables false
set_option linter.unusedSimpArgs false
set_option maxRecDepth 100000
set_option maxHeartbeats 1600000
namespace Go.Proofs.YtmbhoimeiahbaaaGreat
open Go.RowKit
theorem w_ref17_kept (k : api_Keep) (r : Bool) (hg : g_ref17_kept k = some r) : Fn Tryz.prog 72 0 [.agg [.val (.int .i64 k.Purpose), .val (.int .i64 k.Days)]] [] (fun d' b' => d' = .val (.bool r) ∧ b' = []) := by
 unfold g_ref17_kept at hg
 refine Fn.of Tryz.func72 rfl rfl rfl fun w0 I ρ0 => ?_
 show awp _ ⟨w0, I, ρ0, 0, 0, 21, none⟩ _ _ _
 refine sr_ 0 16 mk_U ?_
 refine go_ ?_
 refine ch_n fun hU => ?_
 refine sr_ 16 168 hU ?_
 refine go_ ?_
 rcases bc_ hg with ⟨h2, hg⟩ | ⟨h2, hg⟩
 ·refine go_ ?_
  rcases bc_ hg with ⟨h3, hg⟩ | ⟨h3, hg⟩
  ·refine go_ ?_
   rcases bc_ hg with ⟨h4, hg⟩ | ⟨h4, hg⟩
   ·refine go_ ?_
    refine ch_n fun hU => ?_
    refine aw_r ?_
    obtain rfl := Option.some.inj hg
    exact fin_ [] ⟨rfl, rfl⟩
   ·refine go_ ?_
    refine ch_n fun hU => ?_
    refine aw_r ?_
    obtain rfl := Option.some.inj hg
    exact fin_ [] ⟨rfl, rfl⟩
  ·refine go_ ?_
   refine ch_n fun hU => ?_
   refine aw_r ?_
   obtain rfl := Option.some.inj hg
   exact fin_ [] ⟨rfl, rfl⟩
 ·refine go_ ?_
  refine ch_n fun hU => ?_
  refine aw_r ?_
  obtain rfl := Option.some.inj hg
  exact fin_ [] ⟨rfl, rfl⟩
theorem w_ref17_Check (p : api_Policy) (r : Int) (hg : g_ref17_Check p = some r) : Fn Tryz.prog 50 0 [.agg [.sl 6 (encL api_Rule.enc p.Rules), .sl 2 (encL api_Keep.enc p.Keeps)]] [] (fun d' b' => d' = .val (.int .i64 r) ∧ b' = []) := by
 unfold g_ref17_Check at hg
 refine Fn.of Tryz.func50 rfl rfl rfl fun w0 I ρ0 => ?_
 show awp _ ⟨w0, I, ρ0, 0, 0, 43, none⟩ _ _ _
 refine sr_ 0 16 mk_U ?_
 refine go_ ?_
 refine ch_n fun hU => ?_
 refine awp_seq ?_
 refine awp_cut (ι := Bool) (fun (x14_1 : Bool) => mk [(1, .ptr 0 0), (14, .val (.bool x14_1))] [(0, .box [.sl 6 (encL api_Rule.enc p.Rules), .sl 2 (encL api_Keep.enc p.Keeps)] 30)] 1) (fun (x14_1 : Bool) => g_ref17_Check.j1 p x14_1 = some r) ?_ ?_
 ·refine awp_region (sys _ _ []) 16 96 hU rfl rfl ?_
  refine go_ ?_
  rcases bc_ hg with ⟨h2, hg⟩ | ⟨h2, hg⟩
  ·refine go_ ?_
   refine ch_n fun hU => ?_
   exact ⟨true, hg, sub_ [(0, 0)]⟩
  ·refine go_ ?_
   refine ch_n fun hU => ?_
   exact ⟨decide (60 < (p.Keeps.length : Int)), hg, sub_ [(0, 0)]⟩
 ·rintro x14_1 hg
  replace hg : g_ref17_Check.j1 p x14_1 = some r := hg
  show awp _ _ _ _ (mk _ _ _)
  unfold g_ref17_Check.j1 at hg
  refine cg_ rfl hg (fun h5 hg => ?_) fun h5 hg => ?_
  ·refine awp_seq ?_
   refine awp_region (sys _ _ []) 1 9 mk_U rfl rfl ?_
   refine go_ ?_
   refine ch_n fun hU => ?_
   refine aw_r ?_
   obtain rfl := Option.some.inj hg
   exact fin_ [] ⟨rfl, rfl⟩
  ·refine awp_skip ?_
   repeat first | refine st_ ?_ | refine sn_ ?_
   refine awp_seq ?_
   refine sr_ 1 9 mk_U ?_
   refine go_ ?_
   refine ch_n fun hU => ?_
   refine awp_block ?_
   refine lp_ (fun (i_2 : Int) => mk [(1, .ptr 0 0), (3, .val (.int .i64 i_2))] [(0, .box [.sl 6 (encL api_Rule.enc p.Rules), .sl 2 (encL api_Keep.enc p.Keeps)] 30)] 1) hg (sub_ [(0, 0)]) ?_
   rintro i_2 m2 o2 hg hn2
   replace hg : g_ref17_Check.l2 p i_2 = some o2 := hg
   show awp _ _ _ _ (mk _ _ _)
   unfold g_ref17_Check.l2 at hg
   refine awp_seq ?_
   refine sr_ 1 41 mk_U ?_
   refine go_ ?_
   refine ch_n fun hU => ?_
   refine cg_ rfl hg (fun h9 hg => ?_) fun h9 hg => ?_
   ·refine awp_skip ?_
    repeat first | refine st_ ?_ | refine sn_ ?_
    refine awp_seq ?_
    refine awp_block ?_
    refine sr_ 41 97 hU ?_
    refine go_ ?_
    obtain ⟨e, he, hg⟩ := bind_some hg
    refine go_ ?_
    refine c0_ rfl rfl (r_loadEA ty57 (enc_cells api_Rule.enc_len (getI_at he) (o := 0) (m := 6) (cs := [.bool e.Allow, .int .i64 e.Alg, .int .i64 e.Below, .int .i64 e.Purpose, .int .i64 e.From, .int .i64 e.To]) rfl (by decide) rfl) (enc_cells_le api_Rule.enc_len (getI_at he) (o := 0) (m := 6) (by decide) rfl)) rfl rfl ?_
    obtain ⟨y, hy, hg⟩ := bind_some hg
    refine ca_ (w_ref17_Ruled _ _ hy) ?_
    refine go_ ?_
    refine ch_n fun hU => ?_
    refine cg_ rfl hg (fun h11 hg => ?_) fun h11 hg => ?_
    ·refine awp_seq ?_
     refine awp_region (sys _ _ []) 97 105 hU rfl rfl ?_
     refine go_ ?_
     refine ch_n fun hU => ?_
     refine aw_r ?_
     replace hg := leave hg hn2
     obtain rfl := Option.some.inj hg
     exact fin_ [] ⟨rfl, rfl⟩
    ·refine awp_skip ?_
     repeat first | refine st_ ?_ | refine sn_ ?_
     refine awp_region (sys _ _ []) 97 121 hU rfl rfl ?_
     refine go_ ?_
     refine ch_n fun hU => ?_
     obtain rfl := Option.some.inj hg
     exact ⟨(W (i_2 + 1), m2), Nat.lt_succ_self _, hn2, sub_ [(0, 0)]⟩
   ·refine awp_exit ?_
    repeat first | refine st_ ?_ | refine sn_ ?_
    replace hg := leave hg hn2
    refine awp_seq ?_
    refine sr_ 41 49 hU ?_
    refine go_ ?_
    refine ch_n fun hU => ?_
    refine awp_block ?_
    refine lp_ (fun (i_3 : Int) => mk [(1, .ptr 0 0), (4, .val (.int .i64 i_3))] [(0, .box [.sl 6 (encL api_Rule.enc p.Rules), .sl 2 (encL api_Keep.enc p.Keeps)] 30)] 1) hg (sub_ [(0, 0)]) ?_
    rintro i_3 m3 o3 hg hn3
    replace hg : g_ref17_Check.l3 p i_3 = some o3 := hg
    show awp _ _ _ _ (mk _ _ _)
    unfold g_ref17_Check.l3 at hg
    refine awp_seq ?_
    refine sr_ 1 41 mk_U ?_
    refine go_ ?_
    refine ch_n fun hU => ?_
    refine cg_ rfl hg (fun h16 hg => ?_) fun h16 hg => ?_
    ·refine awp_skip ?_
     repeat first | refine st_ ?_ | refine sn_ ?_
     refine awp_seq ?_
     refine awp_block ?_
     refine sr_ 41 97 hU ?_
     refine go_ ?_
     obtain ⟨e_2, he_2, hg⟩ := bind_some hg
     refine go_ ?_
     refine c0_ rfl rfl (r_loadEA ty69 (enc_cells api_Keep.enc_len (getI_at he_2) (o := 0) (m := 2) (cs := [.int .i64 e_2.Purpose, .int .i64 e_2.Days]) rfl (by decide) rfl) (enc_cells_le api_Keep.enc_len (getI_at he_2) (o := 0) (m := 2) (by decide) rfl)) rfl rfl ?_
     obtain ⟨y_2, hy_2, hg⟩ := bind_some hg
     refine ca_ (w_ref17_kept _ _ hy_2) ?_
     refine go_ ?_
     refine ch_n fun hU => ?_
     refine cg_ rfl hg (fun h18 hg => ?_) fun h18 hg => ?_
     ·refine awp_seq ?_
      refine awp_region (sys _ _ []) 97 105 hU rfl rfl ?_
      refine go_ ?_
      refine ch_n fun hU => ?_
      refine aw_r ?_
      replace hg := leave hg hn3
      obtain rfl := Option.some.inj hg
      exact fin_ [] ⟨rfl, rfl⟩
     ·refine awp_skip ?_
      repeat first | refine st_ ?_ | refine sn_ ?_
      refine awp_region (sys _ _ []) 97 121 hU rfl rfl ?_
      refine go_ ?_
      refine ch_n fun hU => ?_
      obtain rfl := Option.some.inj hg
      exact ⟨(W (i_3 + 1), m3), Nat.lt_succ_self _, hn3, sub_ [(0, 0)]⟩
    ·refine awp_exit ?_
     repeat first | refine st_ ?_ | refine sn_ ?_
     replace hg := leave hg hn3
     refine sr_ 41 49 hU ?_
     refine go_ ?_
     refine ch_n fun hU => ?_
     refine aw_r ?_
     obtain rfl := Option.some.inj hg
     exact fin_ [] ⟨rfl, rfl⟩
theorem w_ref18_check (p : api_Policy) (u : api_Use) (purpose : Int) (r : Int) (hg : g_ref18_check p u purpose = some r) : Fn Tryz.prog 28 0 [.agg [.sl 6 (encL api_Rule.enc p.Rules), .sl 2 (encL api_Keep.enc p.Keeps)], .agg [.val (.int .i64 u.Alg), .val (.int .i64 u.Bits)], .val (.int .i64 purpose)] [] (fun d' b' => d' = .val (.int .i64 r) ∧ b' = []) := by
 unfold g_ref18_check at hg
 refine Fn.of Tryz.func28 rfl rfl rfl fun w0 I ρ0 => ?_
 show awp _ ⟨w0, I, ρ0, 0, 0, 22, none⟩ _ _ _
 refine sr_ 0 24 mk_U ?_
 refine go_ ?_
 refine ch_n fun hU => ?_
 refine awp_seq ?_
 refine sr_ 24 48 hU ?_
 refine go_ ?_
 obtain ⟨y, hy, hg⟩ := bind_some hg
 refine ca_ (w_ref17_Check _ _ hy) ?_
 refine go_ ?_
 refine ch_n fun hU => ?_
 refine sr_ 48 64 hU ?_
 refine go_ ?_
 refine ch_n fun hU => ?_
 refine cg_ rfl hg (fun h4 hg => ?_) fun h4 hg => ?_
 ·refine awp_seq ?_
  refine awp_region (sys _ _ []) 64 80 hU rfl rfl ?_
  refine go_ ?_
  refine ch_n fun hU => ?_
  refine aw_r ?_
  obtain rfl := Option.some.inj hg
  exact fin_ [] ⟨rfl, rfl⟩
 ·refine awp_skip ?_
  repeat first | refine st_ ?_ | refine sn_ ?_
  refine awp_seq ?_
  refine sr_ 64 88 hU ?_
  refine go_ ?_
  obtain ⟨y_2, hy_2, hg⟩ := bind_some hg
  refine ca_ (w_ref02_Valid _ _ hy_2) ?_
  refine go_ ?_
  refine ch_n fun hU => ?_
  refine cg_ rfl hg (fun h7 hg => ?_) fun h7 hg => ?_
  ·refine awp_seq ?_
   refine awp_region (sys _ _ []) 88 96 hU rfl rfl ?_
   refine go_ ?_
   refine ch_n fun hU => ?_
   refine aw_r ?_
   obtain rfl := Option.some.inj hg
   exact fin_ [] ⟨rfl, rfl⟩
  ·refine awp_skip ?_
   repeat first | refine st_ ?_ | refine sn_ ?_
   refine awp_seq ?_
   refine awp_cut (ι := Bool) (fun (x21_1 : Bool) => mk [(21, .val (.bool x21_1))] [] 0) (fun (x21_1 : Bool) => g_ref18_check.j1 x21_1 = some r) ?_ ?_
   ·refine awp_region (sys _ _ []) 88 136 hU rfl rfl ?_
    refine go_ ?_
    rcases bc_ hg with ⟨h9, hg⟩ | ⟨h9, hg⟩
    ·refine go_ ?_
     refine ch_n fun hU => ?_
     exact ⟨true, hg, sub_ []⟩
    ·refine go_ ?_
     refine ch_n fun hU => ?_
     exact ⟨decide (4 < purpose), hg, sub_ []⟩
   ·rintro x21_1 hg
    replace hg : g_ref18_check.j1 x21_1 = some r := hg
    show awp _ _ _ _ (mk _ _ _)
    unfold g_ref18_check.j1 at hg
    refine cg_ rfl hg (fun h12 hg => ?_) fun h12 hg => ?_
    ·refine awp_seq ?_
     refine awp_region (sys _ _ []) 0 8 mk_U rfl rfl ?_
     refine go_ ?_
     refine ch_n fun hU => ?_
     refine aw_r ?_
     obtain rfl := Option.some.inj hg
     exact fin_ [] ⟨rfl, rfl⟩
    ·refine awp_skip ?_
     repeat first | refine st_ ?_ | refine sn_ ?_
     refine sr_ 0 8 mk_U ?_
     refine go_ ?_
     refine ch_n fun hU => ?_
     refine aw_r ?_
     obtain rfl := Option.some.inj hg
     exact fin_ [] ⟨rfl, rfl⟩
theorem w_ref18_matches (r' : api_Rule) (u : api_Use) (purpose : Int) (day : Int) (r : Bool) (hg : g_ref18_matches r' u purpose day = some r) : Fn Tryz.prog 52 0 [.agg (api_Rule.dv r'), .agg [.val (.int .i64 u.Alg), .val (.int .i64 u.Bits)], .val (.int .i64 purpose), .val (.int .i64 day)] [] (fun d' b' => d' = .val (.bool r) ∧ b' = []) := by
 unfold g_ref18_matches at hg
 refine Fn.of Tryz.func52 rfl rfl rfl fun w0 I ρ0 => ?_
 show awp _ ⟨w0, I, ρ0, 0, 0, 59, none⟩ _ _ _
 refine sr_ 0 24 mk_U ?_
 refine go_ ?_
 refine ch_n fun hU => ?_
 refine sr_ 24 432 hU ?_
 refine go_ ?_
 rcases bc_ hg with ⟨h2, hg⟩ | ⟨h2, hg⟩
 ·refine go_ ?_
  rcases bc_ hg with ⟨h3, hg⟩ | ⟨h3, hg⟩
  ·refine go_ ?_
   rcases bc_ hg with ⟨h4, hg⟩ | ⟨h4, hg⟩
   ·refine go_ ?_
    rcases bc_ hg with ⟨h5, hg⟩ | ⟨h5, hg⟩
    ·refine go_ ?_
     refine ch_n fun hU => ?_
     refine aw_r ?_
     obtain rfl := Option.some.inj hg
     exact fin_ [] ⟨rfl, rfl⟩
    ·refine go_ ?_
     refine ch_n fun hU => ?_
     refine aw_r ?_
     obtain rfl := Option.some.inj hg
     exact fin_ [] ⟨rfl, rfl⟩
   ·refine go_ ?_
    rcases bc_ hg with ⟨h8, hg⟩ | ⟨h8, hg⟩
    ·refine go_ ?_
     rcases bc_ hg with ⟨h9, hg⟩ | ⟨h9, hg⟩
     ·refine go_ ?_
      refine ch_n fun hU => ?_
      refine aw_r ?_
      obtain rfl := Option.some.inj hg
      exact fin_ [] ⟨rfl, rfl⟩
     ·refine go_ ?_
      refine ch_n fun hU => ?_
      refine aw_r ?_
      obtain rfl := Option.some.inj hg
      exact fin_ [] ⟨rfl, rfl⟩
    ·refine go_ ?_
     refine ch_n fun hU => ?_
     refine aw_r ?_
     obtain rfl := Option.some.inj hg
     exact fin_ [] ⟨rfl, rfl⟩
  ·refine go_ ?_
   rcases bc_ hg with ⟨h13, hg⟩ | ⟨h13, hg⟩
   ·refine go_ ?_
    rcases bc_ hg with ⟨h14, hg⟩ | ⟨h14, hg⟩
    ·refine go_ ?_
     rcases bc_ hg with ⟨h15, hg⟩ | ⟨h15, hg⟩
     ·refine go_ ?_
      rcases bc_ hg with ⟨h16, hg⟩ | ⟨h16, hg⟩
      ·refine go_ ?_
       refine ch_n fun hU => ?_
       refine aw_r ?_
       obtain rfl := Option.some.inj hg
       exact fin_ [] ⟨rfl, rfl⟩
      ·refine go_ ?_
       refine ch_n fun hU => ?_
       refine aw_r ?_
       obtain rfl := Option.some.inj hg
       exact fin_ [] ⟨rfl, rfl⟩
     ·refine go_ ?_
      rcases bc_ hg with ⟨h19, hg⟩ | ⟨h19, hg⟩
      ·refine go_ ?_
       rcases bc_ hg with ⟨h20, hg⟩ | ⟨h20, hg⟩
       ·refine go_ ?_
        refine ch_n fun hU => ?_
        refine aw_r ?_
        obtain rfl := Option.some.inj hg
        exact fin_ [] ⟨rfl, rfl⟩
       ·refine go_ ?_
        refine ch_n fun hU => ?_
        refine aw_r ?_
        obtain rfl := Option.some.inj hg
        exact fin_ [] ⟨rfl, rfl⟩
      ·refine go_ ?_
       refine ch_n fun hU => ?_
       refine aw_r ?_
       obtain rfl := Option.some.inj hg
       exact fin_ [] ⟨rfl, rfl⟩
    ·refine go_ ?_
     refine ch_n fun hU => ?_
     refine aw_r ?_
     obtain rfl := Option.some.inj hg
     exact fin_ [] ⟨rfl, rfl⟩
   ·refine go_ ?_
    refine ch_n fun hU => ?_
    refine aw_r ?_
    obtain rfl := Option.some.inj hg
    exact fin_ [] ⟨rfl, rfl⟩
 ·refine go_ ?_
  rcases bc_ hg with ⟨h26, hg⟩ | ⟨h26, hg⟩
  ·refine go_ ?_
   rcases bc_ hg with ⟨h27, hg⟩ | ⟨h27, hg⟩
   ·refine go_ ?_
    rcases bc_ hg with ⟨h28, hg⟩ | ⟨h28, hg⟩
    ·refine go_ ?_
     rcases bc_ hg with ⟨h29, hg⟩ | ⟨h29, hg⟩
     ·refine go_ ?_
      refine ch_n fun hU => ?_
      refine aw_r ?_
      obtain rfl := Option.some.inj hg
      exact fin_ [] ⟨rfl, rfl⟩
     ·refine go_ ?_
      refine ch_n fun hU => ?_
      refine aw_r ?_
      obtain rfl := Option.some.inj hg
      exact fin_ [] ⟨rfl, rfl⟩
    ·refine go_ ?_
     rcases bc_ hg with ⟨h32, hg⟩ | ⟨h32, hg⟩
     ·refine go_ ?_
      rcases bc_ hg with ⟨h33, hg⟩ | ⟨h33, hg⟩
      ·refine go_ ?_
       refine ch_n fun hU => ?_
       refine aw_r ?_
       obtain rfl := Option.some.inj hg
       exact fin_ [] ⟨rfl, rfl⟩
      ·refine go_ ?_
       refine ch_n fun hU => ?_
       refine aw_r ?_
       obtain rfl := Option.some.inj hg
       exact fin_ [] ⟨rfl, rfl⟩
     ·refine go_ ?_
      refine ch_n fun hU => ?_
      refine aw_r ?_
      obtain rfl := Option.some.inj hg
      exact fin_ [] ⟨rfl, rfl⟩
   ·refine go_ ?_
    rcases bc_ hg with ⟨h37, hg⟩ | ⟨h37, hg⟩
    ·refine go_ ?_
     rcases bc_ hg with ⟨h38, hg⟩ | ⟨h38, hg⟩
     ·refine go_ ?_
      rcases bc_ hg with ⟨h39, hg⟩ | ⟨h39, hg⟩
      ·refine go_ ?_
       rcases bc_ hg with ⟨h40, hg⟩ | ⟨h40, hg⟩
       ·refine go_ ?_
        refine ch_n fun hU => ?_
        refine aw_r ?_
        obtain rfl := Option.some.inj hg
        exact fin_ [] ⟨rfl, rfl⟩
       ·refine go_ ?_
        refine ch_n fun hU => ?_
        refine aw_r ?_
        obtain rfl := Option.some.inj hg
        exact fin_ [] ⟨rfl, rfl⟩
      ·refine go_ ?_
       rcases bc_ hg with ⟨h43, hg⟩ | ⟨h43, hg⟩
       ·refine go_ ?_
        rcases bc_ hg with ⟨h44, hg⟩ | ⟨h44, hg⟩
        ·refine go_ ?_
         refine ch_n fun hU => ?_
         refine aw_r ?_
         obtain rfl := Option.some.inj hg
         exact fin_ [] ⟨rfl, rfl⟩
        ·refine go_ ?_
         refine ch_n fun hU => ?_
         refine aw_r ?_
         obtain rfl := Option.some.inj hg
         exact fin_ [] ⟨rfl, rfl⟩
       ·refine go_ ?_
        refine ch_n fun hU => ?_
        refine aw_r ?_
        obtain rfl := Option.some.inj hg
        exact fin_ [] ⟨rfl, rfl⟩
     ·refine go_ ?_
      refine ch_n fun hU => ?_
      refine aw_r ?_
      obtain rfl := Option.some.inj hg
      exact fin_ [] ⟨rfl, rfl⟩
    ·refine go_ ?_
     refine ch_n fun hU => ?_
     refine aw_r ?_
     obtain rfl := Option.some.inj hg
     exact fin_ [] ⟨rfl, rfl⟩
  ·refine go_ ?_
   refine ch_n fun hU => ?_
   refine aw_r ?_
   obtain rfl := Option.some.inj hg
   exact fin_ [] ⟨rfl, rfl⟩
theorem w_ref18_decides (p : api_Policy) (u : api_Use) (purpose : Int) (day : Int) (r : Int) (hg : g_ref18_decides p u purpose day = some r) : Fn Tryz.prog 30 0 [.agg [.sl 6 (encL api_Rule.enc p.Rules), .sl 2 (encL api_Keep.enc p.Keeps)], .agg [.val (.int .i64 u.Alg), .val (.int .i64 u.Bits)], .val (.int .i64 purpose), .val (.int .i64 day)] [] (fun d' b' => d' = .val (.int .i64 r) ∧ b' = []) := by
 unfold g_ref18_decides at hg
 refine Fn.of Tryz.func30 rfl rfl rfl fun w0 I ρ0 => ?_
 show awp _ ⟨w0, I, ρ0, 0, 0, 28, none⟩ _ _ _
 refine sr_ 0 24 mk_U ?_
 refine go_ ?_
 refine ch_n fun hU => ?_
 refine awp_seq ?_
 refine sr_ 24 64 hU ?_
 refine go_ ?_
 refine ch_n fun hU => ?_
 refine awp_block ?_
 refine lp_ (fun (i_1 : Int) => mk [(2, .val (.int .i64 purpose)), (3, .val (.int .i64 day)), (4, .ptr 0 0), (5, .ptr 1 0), (9, .val (.int .i64 i_1))] [(0, .box [.sl 6 (encL api_Rule.enc p.Rules), .sl 2 (encL api_Keep.enc p.Keeps)] 30), (1, .box [.val (.int .i64 u.Alg), .val (.int .i64 u.Bits)] 36)] 2) hg (sub_ [(0, 0), (1, 8)]) ?_
 rintro i_1 m1 o1 hg hn1
 replace hg : g_ref18_decides.l1 p u purpose day i_1 = some o1 := hg
 show awp _ _ _ _ (mk _ _ _)
 unfold g_ref18_decides.l1 at hg
 refine awp_seq ?_
 refine sr_ 2 18 mk_U ?_
 refine go_ ?_
 refine ch_n fun hU => ?_
 refine cg_ rfl hg (fun h4 hg => ?_) fun h4 hg => ?_
 ·refine awp_skip ?_
  repeat first | refine st_ ?_ | refine sn_ ?_
  refine awp_seq ?_
  refine awp_block ?_
  refine awp_seq ?_
  refine awp_draw (sys _ _ []) (by kernel_rfl) [0, 1, 0, 7, 15, 0, 0, 0, 255] 18 90 hU rfl rfl (by kernel_rfl) ?_
  refine go_ ?_
  obtain ⟨e, he, hg⟩ := bind_some hg
  refine go_ ?_
  refine c0_ rfl rfl (r_loadEA ty57 (enc_cells api_Rule.enc_len (getI_at he) (o := 0) (m := 6) (cs := [.bool e.Allow, .int .i64 e.Alg, .int .i64 e.Below, .int .i64 e.Purpose, .int .i64 e.From, .int .i64 e.To]) rfl (by decide) rfl) (enc_cells_le api_Rule.enc_len (getI_at he) (o := 0) (m := 6) (by decide) rfl)) rfl rfl ?_
  refine go_ ?_
  obtain ⟨y, hy, hg⟩ := bind_some hg
  refine ca_ (w_ref18_matches _ _ _ _ _ hy) ?_
  refine ch_n fun hU => ?_
  refine cg_ rfl hg (fun h6 hg => ?_) fun h6 hg => ?_
  ·refine awp_seq ?_
   refine awp_region (sys _ _ []) 90 106 hU rfl rfl ?_
   refine go_ ?_
   refine ch_n fun hU => ?_
   refine aw_r ?_
   replace hg := leave hg hn1
   obtain rfl := Option.some.inj hg
   exact fin_ [] ⟨rfl, rfl⟩
  ·refine awp_skip ?_
   repeat first | refine st_ ?_ | refine sn_ ?_
   refine awp_region (sys _ _ []) 90 114 hU rfl rfl ?_
   refine go_ ?_
   refine ch_n fun hU => ?_
   obtain rfl := Option.some.inj hg
   exact ⟨(W (i_1 - 1), m1), Nat.lt_succ_self _, hn1, sub_ [(0, 0), (1, 1)]⟩
 ·refine awp_exit ?_
  repeat first | refine st_ ?_ | refine sn_ ?_
  replace hg := leave hg hn1
  refine sr_ 18 26 hU ?_
  refine go_ ?_
  refine ch_n fun hU => ?_
  refine aw_r ?_
  obtain rfl := Option.some.inj hg
  exact fin_ [] ⟨rfl, rfl⟩
theorem w_ref18_allowed (p : api_Policy) (u : api_Use) (purpose : Int) (day : Int) (r : Bool) (hg : g_ref18_allowed p u purpose day = some r) : Fn Tryz.prog 29 0 [.agg [.sl 6 (encL api_Rule.enc p.Rules), .sl 2 (encL api_Keep.enc p.Keeps)], .agg [.val (.int .i64 u.Alg), .val (.int .i64 u.Bits)], .val (.int .i64 purpose), .val (.int .i64 day)] [] (fun d' b' => d' = .val (.bool r) ∧ b' = []) := by
 unfold g_ref18_allowed at hg
 refine Fn.of Tryz.func29 rfl rfl rfl fun w0 I ρ0 => ?_
 show awp _ ⟨w0, I, ρ0, 0, 0, 25, none⟩ _ _ _
 refine sr_ 0 24 mk_U ?_
 refine go_ ?_
 refine ch_n fun hU => ?_
 refine sr_ 24 72 hU ?_
 refine go_ ?_
 obtain ⟨y, hy, hg⟩ := bind_some hg
 refine ca_ (w_ref18_decides _ _ _ _ _ hy) ?_
 refine go_ ?_
 refine ch_n fun hU => ?_
 refine sr_ 72 160 hU ?_
 refine go_ ?_
 rcases bc_ hg with ⟨h3, hg⟩ | ⟨h3, hg⟩
 ·refine go_ ?_
  refine ch_n fun hU => ?_
  refine aw_r ?_
  obtain rfl := Option.some.inj hg
  exact fin_ [] ⟨rfl, rfl⟩
 ·refine go_ ?_
  obtain ⟨e, he, hg⟩ := bind_some hg
  refine go_ ?_
  refine c0_ (gdv_t rfl rfl h3) rfl (r_fieldE fd57_0 ty4 (by decide) (enc_lt api_Rule.enc_len (getI_at he) (o := 0) (by decide) rfl)) rfl rfl ?_
  refine c0_ (gdv_t rfl rfl h3) rfl (r_loadE1 ty4 (enc_cell api_Rule.enc_len (getI_at he) (o := 0) (c := .bool e.Allow) rfl rfl)) rfl rfl ?_
  refine go_ ?_
  refine ch_n fun hU => ?_
  refine aw_r ?_
  obtain rfl := Option.some.inj hg
  exact fin_ [] ⟨rfl, rfl⟩
theorem w_ref18_Allowed (p : api_Policy) (u : api_Use) (purpose : Int) (day : Int) (r : Bool × Int × Int) (hg : g_ref18_Allowed p u purpose day = some r) : Fn Tryz.prog 13 0 [.agg [.sl 6 (encL api_Rule.enc p.Rules), .sl 2 (encL api_Keep.enc p.Keeps)], .agg [.val (.int .i64 u.Alg), .val (.int .i64 u.Bits)], .val (.int .i64 purpose), .val (.int .i64 day)] [] (fun d' b' => d' = .tup [.val (.bool r.1), .val (.int .i64 r.2.1), .val (.int .i64 r.2.2)] ∧ b' = []) := by
 unfold g_ref18_Allowed at hg
 refine Fn.of Tryz.func13 rfl rfl rfl fun w0 I ρ0 => ?_
 show awp _ ⟨w0, I, ρ0, 0, 0, 35, none⟩ _ _ _
 refine sr_ 0 40 mk_U ?_
 refine go_ ?_
 refine ch_n fun hU => ?_
 refine awp_seq ?_
 refine sr_ 40 80 hU ?_
 refine go_ ?_
 obtain ⟨y, hy, hg⟩ := bind_some hg
 refine ca_ (w_ref18_check _ _ _ _ hy) ?_
 refine go_ ?_
 refine ch_n fun hU => ?_
 refine sr_ 80 96 hU ?_
 refine go_ ?_
 refine ch_n fun hU => ?_
 refine cg_ rfl hg (fun h4 hg => ?_) fun h4 hg => ?_
 ·refine awp_seq ?_
  refine awp_region (sys _ _ []) 96 128 hU rfl rfl ?_
  refine go_ ?_
  refine ch_n fun hU => ?_
  refine aw_r ?_
  obtain rfl := Option.some.inj hg
  exact fin_ [] ⟨rfl, rfl⟩
 ·refine awp_skip ?_
  repeat first | refine st_ ?_ | refine sn_ ?_
  refine awp_seq ?_
  refine awp_cut (ι := Bool) (fun (x24_1 : Bool) => mk [(2, .val (.int .i64 purpose)), (3, .val (.int .i64 day)), (4, .ptr 0 0), (5, .ptr 1 0), (24, .val (.bool x24_1))] [(0, .box [.sl 6 (encL api_Rule.enc p.Rules), .sl 2 (encL api_Keep.enc p.Keeps)] 30), (1, .box [.val (.int .i64 u.Alg), .val (.int .i64 u.Bits)] 36)] 2) (fun (x24_1 : Bool) => g_ref18_Allowed.j1 p u purpose day x24_1 = some r) ?_ ?_
  ·refine awp_region (sys _ _ []) 96 144 hU rfl rfl ?_
   refine go_ ?_
   rcases bc_ hg with ⟨h6, hg⟩ | ⟨h6, hg⟩
   ·refine go_ ?_
    refine ch_n fun hU => ?_
    exact ⟨true, hg, sub_ [(0, 0), (1, 8)]⟩
   ·refine go_ ?_
    refine ch_n fun hU => ?_
    exact ⟨decide (40000 < day), hg, sub_ [(0, 0), (1, 8)]⟩
  ·rintro x24_1 hg
   replace hg : g_ref18_Allowed.j1 p u purpose day x24_1 = some r := hg
   show awp _ _ _ _ (mk _ _ _)
   unfold g_ref18_Allowed.j1 at hg
   refine cg_ rfl hg (fun h9 hg => ?_) fun h9 hg => ?_
   ·refine awp_seq ?_
    refine awp_region (sys _ _ []) 2 26 mk_U rfl rfl ?_
    refine go_ ?_
    refine ch_n fun hU => ?_
    refine aw_r ?_
    obtain rfl := Option.some.inj hg
    exact fin_ [] ⟨rfl, rfl⟩
   ·refine awp_skip ?_
    repeat first | refine st_ ?_ | refine sn_ ?_
    refine awp_seq ?_
    refine awp_draw (sys _ _ []) (by kernel_rfl) [0, 0, 0, 0, 15, 0, 0, 0, 0, 511, 1023, 2047, 4095] 2 106 mk_U rfl rfl (by kernel_rfl) ?_
    refine go_ ?_
    obtain ⟨y_2, hy_2, hg⟩ := bind_some hg
    refine ca_ (w_ref18_allowed _ _ _ _ _ hy_2) ?_
    refine go_ ?_
    obtain ⟨y_3, hy_3, hg⟩ := bind_some hg
    refine ca_ (w_ref18_decides _ _ _ _ _ hy_3) ?_
    refine go_ ?_
    refine ch_n fun hU => ?_
    refine aw_r ?_
    obtain rfl := Option.some.inj hg
    exact fin_ [] ⟨rfl, rfl⟩
theorem w_rule_ruled (r' : api_Rule) (r : Bool) (hg : g_rule_ruled r' = some r) : Fn Tryz.prog 102 0 [.agg (api_Rule.dv r')] [] (fun d' b' => d' = .val (.bool r) ∧ b' = []) := by
 unfold g_rule_ruled at hg
 refine Fn.of Tryz.func102 rfl rfl rfl fun w0 I ρ0 => ?_
 show awp _ ⟨w0, I, ρ0, 0, 0, 48, none⟩ _ _ _
 refine sr_ 0 16 mk_U ?_
 refine go_ ?_
 refine ch_n fun hU => ?_
 refine sr_ 16 384 hU ?_
 refine go_ ?_
 rcases bc_ hg with ⟨h2, hg⟩ | ⟨h2, hg⟩
 ·refine go_ ?_
  rcases bc_ hg with ⟨h3, hg⟩ | ⟨h3, hg⟩
  ·refine go_ ?_
   rcases bc_ hg with ⟨h4, hg⟩ | ⟨h4, hg⟩
   ·refine go_ ?_
    rcases bc_ hg with ⟨h5, hg⟩ | ⟨h5, hg⟩
    ·refine go_ ?_
     rcases bc_ hg with ⟨h6, hg⟩ | ⟨h6, hg⟩
     ·refine go_ ?_
      rcases bc_ hg with ⟨h7, hg⟩ | ⟨h7, hg⟩
      ·refine go_ ?_
       rcases bc_ hg with ⟨h8, hg⟩ | ⟨h8, hg⟩
       ·refine go_ ?_
        rcases bc_ hg with ⟨h9, hg⟩ | ⟨h9, hg⟩
        ·refine go_ ?_
         refine ch_n fun hU => ?_
         refine aw_r ?_
         obtain rfl := Option.some.inj hg
         exact fin_ [] ⟨rfl, rfl⟩
        ·refine go_ ?_
         refine ch_n fun hU => ?_
         refine aw_r ?_
         obtain rfl := Option.some.inj hg
         exact fin_ [] ⟨rfl, rfl⟩
       ·refine go_ ?_
        refine ch_n fun hU => ?_
        refine aw_r ?_
        obtain rfl := Option.some.inj hg
        exact fin_ [] ⟨rfl, rfl⟩
      ·refine go_ ?_
       refine ch_n fun hU => ?_
       refine aw_r ?_
       obtain rfl := Option.some.inj hg
       exact fin_ [] ⟨rfl, rfl⟩
     ·refine go_ ?_
      refine ch_n fun hU => ?_
      refine aw_r ?_
      obtain rfl := Option.some.inj hg
      exact fin_ [] ⟨rfl, rfl⟩
    ·refine go_ ?_
     refine ch_n fun hU => ?_
     refine aw_r ?_
     obtain rfl := Option.some.inj hg
     exact fin_ [] ⟨rfl, rfl⟩
   ·refine go_ ?_
    refine ch_n fun hU => ?_
    refine aw_r ?_
    obtain rfl := Option.some.inj hg
    exact fin_ [] ⟨rfl, rfl⟩
  ·refine go_ ?_
   refine ch_n fun hU => ?_
   refine aw_r ?_
   obtain rfl := Option.some.inj hg
   exact fin_ [] ⟨rfl, rfl⟩
 ·refine go_ ?_
  refine ch_n fun hU => ?_
  refine aw_r ?_
  obtain rfl := Option.some.inj hg
  exact fin_ [] ⟨rfl, rfl⟩
theorem w_rule_Check_c1 (r' : api_Rule) (r : Bool) (hg : g_rule_Check_c1 r' = some r) : Fn Tryz.prog 101 0 [.agg (api_Rule.dv r')] [] (fun d' b' => d' = .val (.bool r) ∧ b' = []) := by
 unfold g_rule_Check_c1 at hg
 refine Fn.of Tryz.func101 rfl rfl rfl fun w0 I ρ0 => ?_
 show awp _ ⟨w0, I, ρ0, 0, 0, 6, none⟩ _ _ _
 refine sr_ 0 16 mk_U ?_
 refine go_ ?_
 refine ch_n fun hU => ?_
 refine sr_ 16 48 hU ?_
 refine go_ ?_
 obtain ⟨y, hy, hg⟩ := bind_some hg
 refine ca_ (w_rule_ruled _ _ hy) ?_
 refine go_ ?_
 refine ch_n fun hU => ?_
 refine aw_r ?_
 obtain rfl := Option.some.inj hg
 exact fin_ [] ⟨rfl, rfl⟩
theorem w_slices_IndexFunc_api_Rule_clo_101_0_ (s : (List api_Rule)) (f : api_Rule → Option (Bool)) (hf_f : ∀ (x0 : api_Rule) (y : Bool), f x0 = some y → Fn Tryz.prog 101 0 [.agg (api_Rule.dv x0)] [] (fun d' b' => d' = .val (.bool y) ∧ b' = [])) (r : Int) (hg : g_slices_IndexFunc_api_Rule s f = some r) : Fn Tryz.prog 124 0 [.sl 6 (encL api_Rule.enc s), .clo 101 0 []] [] (fun d' b' => d' = .val (.int .i64 r) ∧ b' = []) := by
 unfold g_slices_IndexFunc_api_Rule at hg
 refine Fn.of Tryz.func124 rfl rfl rfl fun w0 I ρ0 => ?_
 show awp _ ⟨w0, I, ρ0, 0, 0, 19, none⟩ _ _ _
 refine sr_ 0 8 mk_U ?_
 refine go_ ?_
 refine ch_n fun hU => ?_
 refine awp_seq ?_
 refine sr_ 8 32 hU ?_
 refine go_ ?_
 refine ch_n fun hU => ?_
 refine awp_block ?_
 refine lp_ (fun (x8_1 : Int) => mk [(0, .sl 6 (encL api_Rule.enc s)), (1, .clo 101 0 []), (7, .val (.int .i64 (s.length : Int))), (8, .val (.int .i64 x8_1))] [] 0) hg (sub_ []) ?_
 rintro x8_1 m1 o1 hg hn1
 replace hg : g_slices_IndexFunc_api_Rule.l1 s f x8_1 = some o1 := hg
 show awp _ _ _ _ (mk _ _ _)
 unfold g_slices_IndexFunc_api_Rule.l1 at hg
 refine sr_ 0 8 mk_U ?_
 refine go_ ?_
 refine ch_n fun hU => ?_
 refine awp_seq ?_
 refine cg_ rfl hg (fun h4 hg => ?_) fun h4 hg => ?_
 ·refine awp_skip ?_
  repeat first | refine st_ ?_ | refine sn_ ?_
  refine awp_seq ?_
  refine awp_block ?_
  refine sr_ 8 24 hU ?_
  refine go_ ?_
  refine ch_n fun hU => ?_
  refine sr_ 24 72 hU ?_
  refine go_ ?_
  obtain ⟨e, he, hg⟩ := bind_some hg
  refine go_ ?_
  refine c0_ rfl rfl (r_loadEA ty57 (enc_cells api_Rule.enc_len (getI_at he) (o := 0) (m := 6) (cs := [.bool e.Allow, .int .i64 e.Alg, .int .i64 e.Below, .int .i64 e.Purpose, .int .i64 e.From, .int .i64 e.To]) rfl (by decide) rfl) (enc_cells_le api_Rule.enc_len (getI_at he) (o := 0) (m := 6) (by decide) rfl)) rfl rfl ?_
  obtain ⟨y, hy, hg⟩ := bind_some hg
  refine ch_callCP (rd := []) (ps := []) (gs := []) false rfl rfl (hf_f e _ hy) rfl rfl (.cons (.agg (.cons .val (.cons .val (.cons .val (.cons .val (.cons .val (.cons .val .nil))))))) .nil) rfl rfl (by intro h; cases h) rfl rfl rfl rfl ?_
  refine ch_n fun hU => ?_
  refine cg_ rfl hg (fun h7 hg => ?_) fun h7 hg => ?_
  ·refine awp_seq ?_
   refine awp_region (sys _ _ []) 72 88 hU rfl rfl ?_
   refine go_ ?_
   refine ch_n fun hU => ?_
   refine aw_r ?_
   replace hg := leave hg hn1
   obtain rfl := Option.some.inj hg
   exact fin_ [] ⟨rfl, rfl⟩
  ·refine awp_skip ?_
   repeat first | refine st_ ?_ | refine sn_ ?_
   refine awp_region (sys _ _ []) 72 88 hU rfl rfl ?_
   refine go_ ?_
   refine ch_n fun hU => ?_
   obtain rfl := Option.some.inj hg
   exact ⟨(W (x8_1 + 1), m1), Nat.lt_succ_self _, hn1, sub_ []⟩
 ·refine awp_exit ?_
  repeat first | refine st_ ?_ | refine sn_ ?_
  replace hg := leave hg hn1
  refine sr_ 8 16 hU ?_
  refine go_ ?_
  refine ch_n fun hU => ?_
  refine aw_r ?_
  obtain rfl := Option.some.inj hg
  exact fin_ [] ⟨rfl, rfl⟩
theorem w_slices_ContainsFunc_api_Rule_clo_101_0_ (s : (List api_Rule)) (f : api_Rule → Option (Bool)) (hf_f : ∀ (x0 : api_Rule) (y : Bool), f x0 = some y → Fn Tryz.prog 101 0 [.agg (api_Rule.dv x0)] [] (fun d' b' => d' = .val (.bool y) ∧ b' = [])) (r : Bool) (hg : g_slices_ContainsFunc_api_Rule s f = some r) : Fn Tryz.prog 100 0 [.sl 6 (encL api_Rule.enc s), .clo 101 0 []] [] (fun d' b' => d' = .val (.bool r) ∧ b' = []) := by
 unfold g_slices_ContainsFunc_api_Rule at hg
 refine Fn.of Tryz.func100 rfl rfl rfl fun w0 I ρ0 => ?_
 show awp _ ⟨w0, I, ρ0, 0, 0, 9, none⟩ _ _ _
 refine sr_ 0 8 mk_U ?_
 refine go_ ?_
 refine ch_n fun hU => ?_
 refine sr_ 8 48 hU ?_
 refine go_ ?_
 obtain ⟨y, hy, hg⟩ := bind_some hg
 refine ca_ (w_slices_IndexFunc_api_Rule_clo_101_0_ s f hf_f _ hy) ?_
 refine go_ ?_
 refine ch_n fun hU => ?_
 refine aw_r ?_
 obtain rfl := Option.some.inj hg
 exact fin_ [] ⟨rfl, rfl⟩
theorem w_rule_kept (k : api_Keep) (r : Bool) (hg : g_rule_kept k = some r) : Fn Tryz.prog 105 0 [.agg [.val (.int .i64 k.Purpose), .val (.int .i64 k.Days)]] [] (fun d' b' => d' = .val (.bool r) ∧ b' = []) := by
 unfold g_rule_kept at hg
 refine Fn.of Tryz.func105 rfl rfl rfl fun w0 I ρ0 => ?_
 show awp _ ⟨w0, I, ρ0, 0, 0, 21, none⟩ _ _ _
 refine sr_ 0 16 mk_U ?_
 refine go_ ?_
 refine ch_n fun hU => ?_
 refine sr_ 16 168 hU ?_
 refine go_ ?_
 rcases bc_ hg with ⟨h2, hg⟩ | ⟨h2, hg⟩
 ·refine go_ ?_
  rcases bc_ hg with ⟨h3, hg⟩ | ⟨h3, hg⟩
  ·refine go_ ?_
   rcases bc_ hg with ⟨h4, hg⟩ | ⟨h4, hg⟩
   ·refine go_ ?_
    refine ch_n fun hU => ?_
    refine aw_r ?_
    obtain rfl := Option.some.inj hg
    exact fin_ [] ⟨rfl, rfl⟩
   ·refine go_ ?_
    refine ch_n fun hU => ?_
    refine aw_r ?_
    obtain rfl := Option.some.inj hg
    exact fin_ [] ⟨rfl, rfl⟩
  ·refine go_ ?_
   refine ch_n fun hU => ?_
   refine aw_r ?_
   obtain rfl := Option.some.inj hg
   exact fin_ [] ⟨rfl, rfl⟩
 ·refine go_ ?_
  refine ch_n fun hU => ?_
  refine aw_r ?_
  obtain rfl := Option.some.inj hg
  exact fin_ [] ⟨rfl, rfl⟩
theorem w_rule_Check_c2 (k : api_Keep) (r : Bool) (hg : g_rule_Check_c2 k = some r) : Fn Tryz.prog 104 0 [.agg [.val (.int .i64 k.Purpose), .val (.int .i64 k.Days)]] [] (fun d' b' => d' = .val (.bool r) ∧ b' = []) := by
 unfold g_rule_Check_c2 at hg
 refine Fn.of Tryz.func104 rfl rfl rfl fun w0 I ρ0 => ?_
 show awp _ ⟨w0, I, ρ0, 0, 0, 6, none⟩ _ _ _
 refine sr_ 0 16 mk_U ?_
 refine go_ ?_
 refine ch_n fun hU => ?_
 refine sr_ 16 48 hU ?_
 refine go_ ?_
 obtain ⟨y, hy, hg⟩ := bind_some hg
 refine ca_ (w_rule_kept _ _ hy) ?_
 refine go_ ?_
 refine ch_n fun hU => ?_
 refine aw_r ?_
 obtain rfl := Option.some.inj hg
 exact fin_ [] ⟨rfl, rfl⟩
theorem w_slices_IndexFunc_api_Keep_clo_104_0_ (s : (List api_Keep)) (f : api_Keep → Option (Bool)) (hf_f : ∀ (x0 : api_Keep) (y : Bool), f x0 = some y → Fn Tryz.prog 104 0 [.agg [.val (.int .i64 x0.Purpose), .val (.int .i64 x0.Days)]] [] (fun d' b' => d' = .val (.bool y) ∧ b' = [])) (r : Int) (hg : g_slices_IndexFunc_api_Keep s f = some r) : Fn Tryz.prog 125 0 [.sl 2 (encL api_Keep.enc s), .clo 104 0 []] [] (fun d' b' => d' = .val (.int .i64 r) ∧ b' = []) := by
 unfold g_slices_IndexFunc_api_Keep at hg
 refine Fn.of Tryz.func125 rfl rfl rfl fun w0 I ρ0 => ?_
 show awp _ ⟨w0, I, ρ0, 0, 0, 19, none⟩ _ _ _
 refine sr_ 0 8 mk_U ?_
 refine go_ ?_
 refine ch_n fun hU => ?_
 refine awp_seq ?_
 refine sr_ 8 32 hU ?_
 refine go_ ?_
 refine ch_n fun hU => ?_
 refine awp_block ?_
 refine lp_ (fun (x8_1 : Int) => mk [(0, .sl 2 (encL api_Keep.enc s)), (1, .clo 104 0 []), (7, .val (.int .i64 (s.length : Int))), (8, .val (.int .i64 x8_1))] [] 0) hg (sub_ []) ?_
 rintro x8_1 m1 o1 hg hn1
 replace hg : g_slices_IndexFunc_api_Keep.l1 s f x8_1 = some o1 := hg
 show awp _ _ _ _ (mk _ _ _)
 unfold g_slices_IndexFunc_api_Keep.l1 at hg
 refine sr_ 0 8 mk_U ?_
 refine go_ ?_
 refine ch_n fun hU => ?_
 refine awp_seq ?_
 refine cg_ rfl hg (fun h4 hg => ?_) fun h4 hg => ?_
 ·refine awp_skip ?_
  repeat first | refine st_ ?_ | refine sn_ ?_
  refine awp_seq ?_
  refine awp_block ?_
  refine sr_ 8 24 hU ?_
  refine go_ ?_
  refine ch_n fun hU => ?_
  refine sr_ 24 72 hU ?_
  refine go_ ?_
  obtain ⟨e, he, hg⟩ := bind_some hg
  refine go_ ?_
  refine c0_ rfl rfl (r_loadEA ty69 (enc_cells api_Keep.enc_len (getI_at he) (o := 0) (m := 2) (cs := [.int .i64 e.Purpose, .int .i64 e.Days]) rfl (by decide) rfl) (enc_cells_le api_Keep.enc_len (getI_at he) (o := 0) (m := 2) (by decide) rfl)) rfl rfl ?_
  obtain ⟨y, hy, hg⟩ := bind_some hg
  refine ch_callCP (rd := []) (ps := []) (gs := []) false rfl rfl (hf_f e _ hy) rfl rfl (.cons (.agg (.cons .val (.cons .val .nil))) .nil) rfl rfl (by intro h; cases h) rfl rfl rfl rfl ?_
  refine ch_n fun hU => ?_
  refine cg_ rfl hg (fun h7 hg => ?_) fun h7 hg => ?_
  ·refine awp_seq ?_
   refine awp_region (sys _ _ []) 72 88 hU rfl rfl ?_
   refine go_ ?_
   refine ch_n fun hU => ?_
   refine aw_r ?_
   replace hg := leave hg hn1
   obtain rfl := Option.some.inj hg
   exact fin_ [] ⟨rfl, rfl⟩
  ·refine awp_skip ?_
   repeat first | refine st_ ?_ | refine sn_ ?_
   refine awp_region (sys _ _ []) 72 88 hU rfl rfl ?_
   refine go_ ?_
   refine ch_n fun hU => ?_
   obtain rfl := Option.some.inj hg
   exact ⟨(W (x8_1 + 1), m1), Nat.lt_succ_self _, hn1, sub_ []⟩
 ·refine awp_exit ?_
  repeat first | refine st_ ?_ | refine sn_ ?_
  replace hg := leave hg hn1
  refine sr_ 8 16 hU ?_
  refine go_ ?_
  refine ch_n fun hU => ?_
  refine aw_r ?_
  obtain rfl := Option.some.inj hg
  exact fin_ [] ⟨rfl, rfl⟩
end Go.Proofs.YtmbhoimeiahbaaaGreat
