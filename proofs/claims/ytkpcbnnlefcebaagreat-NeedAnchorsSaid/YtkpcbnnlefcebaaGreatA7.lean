/- The program computes the plain functions. -/
import Derived.Test.YtkpcbnnlefcebaaGreatT1
import Derived.Test.YtkpcbnnlefcebaaGreatA1
import Derived.Test.YtkpcbnnlefcebaaGreatA3
import Derived.Test.YtkpcbnnlefcebaaGreatA4
import Derived.Test.YtkpcbnnlefcebaaGreatA6
set_option linter.unusedVariables false
set_option linter.unusedSimpArgs false
set_option maxRecDepth 100000
set_option maxHeartbeats 1600000
namespace Go.Proofs.YtkpcbnnlefcebaaGreat
open Go.RowKit
theorem w_need_Reduce_c1 (r' : api_Required) (c0 : Int) (r : Bool) (hg : g_need_Reduce_c1 r' c0 = some r) : Fn Tryz.prog 44 0 [.agg [.val (.int .i64 r'.First), .val (.int .i64 r'.Then)], .elt (([.int .i64 c0] : List C).drop 0)] [] (fun d' b' => d' = .val (.bool r) ∧ b' = []) := by
 unfold g_need_Reduce_c1 at hg
 refine Fn.of Tryz.func44 rfl rfl rfl fun w0 I ρ0 => ?_
 show awp _ ⟨w0, I, ρ0, 0, 0, 31⟩ _ _ _
 refine sr_ 0 16 mk_U ?_
 refine go_ ?_
 refine ch_n fun hU => ?_
 refine sr_ 16 240 hU ?_
 refine go_ ?_
 rcases bc_ hg with ⟨h2, hg⟩ | ⟨h2, hg⟩
 ·refine go_ ?_
  refine ch_n fun hU => ?_
  refine aw_r ?_
  obtain rfl := Option.some.inj hg
  exact fin_ [] ⟨rfl, rfl⟩
 ·refine go_ ?_
  refine c0_ (gdv_t rfl rfl h2) rfl (r_loadE1 ty3 (c := .int .i64 c0) rfl) rfl rfl ?_
  refine go_ ?_
  rcases bc_ hg with ⟨h4, hg⟩ | ⟨h4, hg⟩
  ·refine go_ ?_
   refine ch_n fun hU => ?_
   refine aw_r ?_
   obtain rfl := Option.some.inj hg
   exact fin_ [] ⟨rfl, rfl⟩
  ·refine go_ ?_
   rcases bc_ hg with ⟨h6, hg⟩ | ⟨h6, hg⟩
   ·refine go_ ?_
    refine ch_n fun hU => ?_
    refine aw_r ?_
    obtain rfl := Option.some.inj hg
    exact fin_ [] ⟨rfl, rfl⟩
   ·refine go_ ?_
    refine c0_ (gdv_t rfl rfl h6) rfl (r_loadE1 ty3 (c := .int .i64 c0) rfl) rfl rfl ?_
    refine go_ ?_
    rcases bc_ hg with ⟨h8, hg⟩ | ⟨h8, hg⟩
    ·refine go_ ?_
     refine ch_n fun hU => ?_
     refine aw_r ?_
     obtain rfl := Option.some.inj hg
     exact fin_ [] ⟨rfl, rfl⟩
    ·refine go_ ?_
     refine ch_n fun hU => ?_
     refine aw_r ?_
     obtain rfl := Option.some.inj hg
     exact fin_ [] ⟨rfl, rfl⟩
theorem w_slices_IndexFunc_api_Required_clo_44_0_ref_3 (s : (List api_Required)) (f : api_Required → Option (Bool)) (f_c0 : Int) (hf_f : ∀ (x0 : api_Required) (y : Bool), f x0 = some y → Fn Tryz.prog 44 0 [.agg [.val (.int .i64 x0.First), .val (.int .i64 x0.Then)], .elt (([.int .i64 f_c0] : List C).drop 0)] [] (fun d' b' => d' = .val (.bool y) ∧ b' = [])) (r : Int) (hg : g_slices_IndexFunc_api_Required s f = some r) : Fn Tryz.prog 71 0 [.sl 2 (encL api_Required.enc s), .clo 44 0 [.elt (([.int .i64 f_c0] : List C).drop 0)]] [] (fun d' b' => d' = .val (.int .i64 r) ∧ b' = []) := by
 unfold g_slices_IndexFunc_api_Required at hg
 refine Fn.of Tryz.func71 rfl rfl rfl fun w0 I ρ0 => ?_
 show awp _ ⟨w0, I, ρ0, 0, 0, 19⟩ _ _ _
 refine sr_ 0 8 mk_U ?_
 refine go_ ?_
 refine ch_n fun hU => ?_
 refine awp_seq ?_
 refine sr_ 8 32 hU ?_
 refine go_ ?_
 refine ch_n fun hU => ?_
 refine awp_block ?_
 refine lp_ (fun (x8_1 : Int) => mk [(0, .sl 2 (encL api_Required.enc s)), (1, .clo 44 0 [.elt (([.int .i64 f_c0] : List C).drop 0)]), (7, .val (.int .i64 (s.length : Int))), (8, .val (.int .i64 x8_1))] [] 0) hg (sub_ []) ?_
 rintro x8_1 m1 o1 hg hn1
 replace hg : g_slices_IndexFunc_api_Required.l1 s f x8_1 = some o1 := hg
 show awp _ _ _ _ (mk _ _ _)
 unfold g_slices_IndexFunc_api_Required.l1 at hg
 refine sr_ 0 8 mk_U ?_
 refine go_ ?_
 refine ch_n fun hU => ?_
 refine awp_seq ?_
 refine cg_ rfl hg (fun h4 hg => ?_) fun h4 hg => ?_
 ·refine awp_skip ?_
  repeat first | refine st_ ?_ | refine sn_ ?_
  refine awp_seq ?_
  refine awp_block ?_
  refine sr_ 8 24 hU ?_
  refine go_ ?_
  refine ch_n fun hU => ?_
  refine sr_ 24 72 hU ?_
  refine go_ ?_
  obtain ⟨e, he, hg⟩ := bind_some hg
  refine go_ ?_
  refine c0_ rfl rfl (r_loadEA ty53 (enc_cells api_Required.enc_len (getI_at he) (o := 0) (m := 2) (cs := [.int .i64 e.First, .int .i64 e.Then]) rfl (by decide) rfl) (enc_cells_le api_Required.enc_len (getI_at he) (o := 0) (m := 2) (by decide) rfl)) rfl rfl ?_
  obtain ⟨y, hy, hg⟩ := bind_some hg
  refine ch_callCP (rd := []) (ps := []) (gs := []) false rfl rfl (hf_f e _ hy) rfl rfl (.cons (.agg (.cons .val (.cons .val .nil))) (.cons .elt .nil)) rfl rfl (by intro h; cases h) rfl rfl rfl rfl ?_
  refine ch_n fun hU => ?_
  refine cg_ rfl hg (fun h7 hg => ?_) fun h7 hg => ?_
  ·refine awp_seq ?_
   refine awp_region (sys _ _ []) 72 88 hU rfl rfl ?_
   refine go_ ?_
   refine ch_n fun hU => ?_
   refine aw_r ?_
   replace hg := leave hg hn1
   obtain rfl := Option.some.inj hg
   exact fin_ [] ⟨rfl, rfl⟩
  ·refine awp_skip ?_
   repeat first | refine st_ ?_ | refine sn_ ?_
   refine awp_region (sys _ _ []) 72 88 hU rfl rfl ?_
   refine go_ ?_
   refine ch_n fun hU => ?_
   obtain rfl := Option.some.inj hg
   exact ⟨(W (x8_1 + 1), m1), Nat.lt_succ_self _, hn1, sub_ []⟩
 ·refine awp_exit ?_
  repeat first | refine st_ ?_ | refine sn_ ?_
  replace hg := leave hg hn1
  refine sr_ 8 16 hU ?_
  refine go_ ?_
  refine ch_n fun hU => ?_
  refine aw_r ?_
  obtain rfl := Option.some.inj hg
  exact fin_ [] ⟨rfl, rfl⟩
theorem w_slices_ContainsFunc_api_Required_clo_44_0_ref_3 (s : (List api_Required)) (f : api_Required → Option (Bool)) (f_c0 : Int) (hf_f : ∀ (x0 : api_Required) (y : Bool), f x0 = some y → Fn Tryz.prog 44 0 [.agg [.val (.int .i64 x0.First), .val (.int .i64 x0.Then)], .elt (([.int .i64 f_c0] : List C).drop 0)] [] (fun d' b' => d' = .val (.bool y) ∧ b' = [])) (r : Bool) (hg : g_slices_ContainsFunc_api_Required s f = some r) : Fn Tryz.prog 45 0 [.sl 2 (encL api_Required.enc s), .clo 44 0 [.elt (([.int .i64 f_c0] : List C).drop 0)]] [] (fun d' b' => d' = .val (.bool r) ∧ b' = []) := by
 unfold g_slices_ContainsFunc_api_Required at hg
 refine Fn.of Tryz.func45 rfl rfl rfl fun w0 I ρ0 => ?_
 show awp _ ⟨w0, I, ρ0, 0, 0, 9⟩ _ _ _
 refine sr_ 0 8 mk_U ?_
 refine go_ ?_
 refine ch_n fun hU => ?_
 refine sr_ 8 48 hU ?_
 refine go_ ?_
 obtain ⟨y, hy, hg⟩ := bind_some hg
 refine ca_ (w_slices_IndexFunc_api_Required_clo_44_0_ref_3 s f f_c0 hf_f _ hy) ?_
 refine go_ ?_
 refine ch_n fun hU => ?_
 refine aw_r ?_
 obtain rfl := Option.some.inj hg
 exact fin_ [] ⟨rfl, rfl⟩
theorem w_slices_Equal_api_Required (s1 : (List api_Required)) (s2 : (List api_Required)) (r : Bool) (hg : g_slices_Equal_api_Required s1 s2 = some r) : Fn Tryz.prog 46 0 [.sl 2 (encL api_Required.enc s1), .sl 2 (encL api_Required.enc s2)] [] (fun d' b' => d' = .val (.bool r) ∧ b' = []) := by
 unfold g_slices_Equal_api_Required at hg
 refine Fn.of Tryz.func46 rfl rfl rfl fun w0 I ρ0 => ?_
 show awp _ ⟨w0, I, ρ0, 0, 0, 26⟩ _ _ _
 refine sr_ 0 8 mk_U ?_
 refine go_ ?_
 refine ch_n fun hU => ?_
 refine awp_seq ?_
 refine sr_ 8 48 hU ?_
 refine go_ ?_
 refine ch_n fun hU => ?_
 refine cg_ rfl hg (fun h3 hg => ?_) fun h3 hg => ?_
 ·refine awp_seq ?_
  refine awp_region (sys _ _ []) 48 56 hU rfl rfl ?_
  refine go_ ?_
  refine ch_n fun hU => ?_
  refine aw_r ?_
  obtain rfl := Option.some.inj hg
  exact fin_ [] ⟨rfl, rfl⟩
 ·refine awp_skip ?_
  repeat first | refine st_ ?_ | refine sn_ ?_
  refine awp_seq ?_
  refine sr_ 48 72 hU ?_
  refine go_ ?_
  refine ch_n fun hU => ?_
  refine awp_block ?_
  refine lp_ (fun (x13_1 : Int) => mk [(0, .sl 2 (encL api_Required.enc s1)), (1, .sl 2 (encL api_Required.enc s2)), (12, .val (.int .i64 (s1.length : Int))), (13, .val (.int .i64 x13_1))] [] 0) hg (sub_ []) ?_
  rintro x13_1 m1 o1 hg hn1
  replace hg : g_slices_Equal_api_Required.l1 s1 s2 x13_1 = some o1 := hg
  show awp _ _ _ _ (mk _ _ _)
  unfold g_slices_Equal_api_Required.l1 at hg
  refine sr_ 0 8 mk_U ?_
  refine go_ ?_
  refine ch_n fun hU => ?_
  refine awp_seq ?_
  refine cg_ rfl hg (fun h7 hg => ?_) fun h7 hg => ?_
  ·refine awp_skip ?_
   repeat first | refine st_ ?_ | refine sn_ ?_
   refine awp_seq ?_
   refine awp_block ?_
   refine sr_ 8 24 hU ?_
   refine go_ ?_
   refine ch_n fun hU => ?_
   refine awp_seq ?_
   refine awp_draw (sys _ _ []) (by kernel_rfl) [0, 0, 3, 7, 0, 0, 48, 112, 255] 24 96 hU rfl rfl (by kernel_rfl) ?_
   refine go_ ?_
   obtain ⟨e, he, hg⟩ := bind_some hg
   refine go_ ?_
   refine c0_ rfl rfl (r_loadEA ty53 (enc_cells api_Required.enc_len (getI_at he) (o := 0) (m := 2) (cs := [.int .i64 e.First, .int .i64 e.Then]) rfl (by decide) rfl) (enc_cells_le api_Required.enc_len (getI_at he) (o := 0) (m := 2) (by decide) rfl)) rfl rfl ?_
   refine go_ ?_
   obtain ⟨e_2, he_2, hg⟩ := bind_some hg
   refine go_ ?_
   refine c0_ rfl rfl (r_loadEA ty53 (enc_cells api_Required.enc_len (getI_at he_2) (o := 0) (m := 2) (cs := [.int .i64 e_2.First, .int .i64 e_2.Then]) rfl (by decide) rfl) (enc_cells_le api_Required.enc_len (getI_at he_2) (o := 0) (m := 2) (by decide) rfl)) rfl rfl ?_
   refine c0_ rfl rfl (steq53_neq e e_2) rfl rfl ?_
   refine ch_n fun hU => ?_
   refine cg_ rfl hg (fun h10 hg => ?_) fun h10 hg => ?_
   ·refine awp_seq ?_
    refine awp_region (sys _ _ []) 96 104 hU rfl rfl ?_
    refine go_ ?_
    refine ch_n fun hU => ?_
    refine aw_r ?_
    replace hg := leave hg hn1
    obtain rfl := Option.some.inj hg
    exact fin_ [] ⟨rfl, rfl⟩
   ·refine awp_skip ?_
    repeat first | refine st_ ?_ | refine sn_ ?_
    refine awp_region (sys _ _ []) 96 112 hU rfl rfl ?_
    refine go_ ?_
    refine ch_n fun hU => ?_
    obtain rfl := Option.some.inj hg
    exact ⟨(W (x13_1 + 1), m1), Nat.lt_succ_self _, hn1, sub_ []⟩
  ·refine awp_exit ?_
   repeat first | refine st_ ?_ | refine sn_ ?_
   replace hg := leave hg hn1
   refine sr_ 8 16 hU ?_
   refine go_ ?_
   refine ch_n fun hU => ?_
   refine aw_r ?_
   obtain rfl := Option.some.inj hg
   exact fin_ [] ⟨rfl, rfl⟩
theorem w_need_reach (n : Int) (l : (List api_Required)) (r : (List (api_Required × Bool))) (hg : g_need_reach n l = some r) : Fn Tryz.prog 47 0 [.val (.int .i64 n), .sl 2 (encL api_Required.enc l)] [] (fun d' b' => d' = .mp (kvs vv53 vB r) ∧ b' = []) := by
 unfold g_need_reach at hg
 refine Fn.of Tryz.func47 rfl rfl rfl fun w0 I ρ0 => ?_
 show awp _ ⟨w0, I, ρ0, 0, 0, 53⟩ _ _ _
 refine sr_ 0 8 mk_U ?_
 refine go_ ?_
 refine ch_n fun hU => ?_
 refine sr_ 8 24 hU ?_
 refine ch_x (rd := []) rfl rfl .makeMap rfl rfl (fun _ => ⟨_, rfl⟩) ?_
 rintro _ rfl
 refine go_ ?_
 refine ch_n fun hU => ?_
 refine awp_seq ?_
 refine sr_ 24 48 hU ?_
 refine go_ ?_
 refine ch_n fun hU => ?_
 refine awp_block ?_
 refine lp_ (fun ((x14_1, ways_1) : Int × (List (api_Required × Bool))) => mk [(0, .val (.int .i64 n)), (5, .row 0), (12, .sl 2 (encL api_Required.enc l)), (13, .val (.int .i64 (l.length : Int))), (14, .val (.int .i64 x14_1))] [(0, .map (kvs vv53 vB ways_1))] 1) hg ((by exact Sub.lists [(0, 8)] rfl rfl ⟨⟨_, rfl, .val _⟩, ⟨_, rfl, .row rfl⟩, ⟨_, rfl, .sl _ _⟩, ⟨_, rfl, .val _⟩, ⟨_, rfl, .val _⟩, trivial⟩ ⟨.inl ⟨8, _, rfl, rfl, rfl⟩, trivial⟩)) ?_
 rintro ⟨x14_1, ways_1⟩ m1 o1 hg hn1
 replace hg : g_need_reach.l1 n l x14_1 ways_1 = some o1 := hg
 show awp _ _ _ _ (mk _ _ _)
 unfold g_need_reach.l1 at hg
 refine sr_ 1 9 mk_U ?_
 refine go_ ?_
 refine ch_n fun hU => ?_
 refine awp_seq ?_
 refine cg_ rfl hg (fun h5 hg => ?_) fun h5 hg => ?_
 ·refine awp_skip ?_
  repeat first | refine st_ ?_ | refine sn_ ?_
  refine awp_seq ?_
  refine awp_block ?_
  refine sr_ 9 41 hU ?_
  obtain ⟨e, he, hg⟩ := bind_some hg
  refine go_ ?_
  refine c0_ rfl rfl (r_loadEA ty53 (enc_cells api_Required.enc_len (getI_at he) (o := 0) (m := 2) (cs := [.int .i64 e.First, .int .i64 e.Then]) rfl (by decide) rfl) (enc_cells_le api_Required.enc_len (getI_at he) (o := 0) (m := 2) (by decide) rfl)) rfl rfl ?_
  refine go_ ?_
  refine ch_n fun hU => ?_
  refine awp_region (sys _ _ []) 41 65 hU rfl rfl ?_
  refine go_ ?_
  refine ch_x (rd := [0]) rfl rfl (x_mapPut (f := vv53) (g := vB) (l := ways_1) (key := e) (v := true) undm96 keyt53 rfl rfl (.head _)) rfl rfl (fun _ => ⟨_, rfl⟩) ?_
  rintro _ rfl
  refine ch_n fun hU => ?_
  refine awp_region (sys _ _ []) 65 81 hU rfl rfl ?_
  refine go_ ?_
  refine ch_n fun hU => ?_
  obtain rfl := Option.some.inj hg
  exact ⟨((W (x14_1 + 1), mapPut ways_1 e true), m1), Nat.lt_succ_self _, hn1, (by exact Sub.lists [(0, 0)] rfl rfl ⟨⟨_, rfl, .val _⟩, ⟨_, rfl, .row rfl⟩, ⟨_, rfl, .sl _ _⟩, ⟨_, rfl, .val _⟩, ⟨_, rfl, .val _⟩, trivial⟩ ⟨.inl ⟨0, _, rfl, rfl, rfl⟩, trivial⟩)⟩
 ·refine awp_exit ?_
  repeat first | refine st_ ?_ | refine sn_ ?_
  replace hg := leave hg hn1
  refine awp_seq ?_
  refine sr_ 9 25 hU ?_
  refine go_ ?_
  refine ch_n fun hU => ?_
  refine awp_block ?_
  refine lp_ (fun ((x22_2, ways_2) : Int × (List (api_Required × Bool))) => mk [(0, .val (.int .i64 n)), (5, .row 0), (21, .val (.int .i64 n)), (22, .val (.int .i64 x22_2))] [(0, .map (kvs vv53 vB ways_2))] 1) hg ((by exact Sub.lists [(0, 0)] rfl rfl ⟨⟨_, rfl, .val _⟩, ⟨_, rfl, .row rfl⟩, ⟨_, rfl, .val _⟩, ⟨_, rfl, .val _⟩, trivial⟩ ⟨.inl ⟨0, _, rfl, rfl, rfl⟩, trivial⟩)) ?_
  rintro ⟨x22_2, ways_2⟩ m2 o2 hg hn2
  replace hg : g_need_reach.l2 n x22_2 ways_2 = some o2 := hg
  show awp _ _ _ _ (mk _ _ _)
  unfold g_need_reach.l2 at hg
  refine sr_ 1 9 mk_U ?_
  refine go_ ?_
  refine ch_n fun hU => ?_
  refine awp_seq ?_
  refine cg_ rfl hg (fun h11 hg => ?_) fun h11 hg => ?_
  ·refine awp_skip ?_
   repeat first | refine st_ ?_ | refine sn_ ?_
   refine awp_seq ?_
   refine awp_block ?_
   refine sr_ 9 25 hU ?_
   refine go_ ?_
   refine ch_n fun hU => ?_
   refine sr_ 25 41 hU ?_
   refine go_ ?_
   refine ch_n fun hU => ?_
   refine awp_block ?_
   refine lp_ (fun ((x26_3, ways_3) : Int × (List (api_Required × Bool))) => mk [(0, .val (.int .i64 n)), (5, .row 0), (8, .val (.int .i64 x22_2)), (21, .val (.int .i64 n)), (22, .val (.int .i64 x22_2)), (25, .val (.int .i64 n)), (26, .val (.int .i64 x26_3))] [(0, .map (kvs vv53 vB ways_3))] 1) hg ((by exact Sub.lists [(0, 0)] rfl rfl ⟨⟨_, rfl, .val _⟩, ⟨_, rfl, .row rfl⟩, ⟨_, rfl, .val _⟩, ⟨_, rfl, .val _⟩, ⟨_, rfl, .val _⟩, ⟨_, rfl, .val _⟩, ⟨_, rfl, .val _⟩, trivial⟩ ⟨.inl ⟨0, _, rfl, rfl, rfl⟩, trivial⟩)) ?_
   rintro ⟨x26_3, ways_3⟩ m3 o3 hg hn3
   replace hg : g_need_reach.l3 n x22_2 x26_3 ways_3 = some o3 := hg
   show awp _ _ _ _ (mk _ _ _)
   unfold g_need_reach.l3 at hg
   refine sr_ 1 9 mk_U ?_
   refine go_ ?_
   refine ch_n fun hU => ?_
   refine awp_seq ?_
   refine cg_ rfl hg (fun h15 hg => ?_) fun h15 hg => ?_
   ·refine awp_skip ?_
    repeat first | refine st_ ?_ | refine sn_ ?_
    refine awp_seq ?_
    refine awp_block ?_
    refine sr_ 9 25 hU ?_
    refine go_ ?_
    refine ch_n fun hU => ?_
    refine sr_ 25 41 hU ?_
    refine go_ ?_
    refine ch_n fun hU => ?_
    refine awp_block ?_
    refine lp_ (fun ((x30_4, ways_4) : Int × (List (api_Required × Bool))) => mk [(0, .val (.int .i64 n)), (5, .row 0), (8, .val (.int .i64 x22_2)), (9, .val (.int .i64 x26_3)), (21, .val (.int .i64 n)), (22, .val (.int .i64 x22_2)), (25, .val (.int .i64 n)), (26, .val (.int .i64 x26_3)), (29, .val (.int .i64 n)), (30, .val (.int .i64 x30_4))] [(0, .map (kvs vv53 vB ways_4))] 1) hg ((by exact Sub.lists [(0, 0)] rfl rfl ⟨⟨_, rfl, .val _⟩, ⟨_, rfl, .row rfl⟩, ⟨_, rfl, .val _⟩, ⟨_, rfl, .val _⟩, ⟨_, rfl, .val _⟩, ⟨_, rfl, .val _⟩, ⟨_, rfl, .val _⟩, ⟨_, rfl, .val _⟩, ⟨_, rfl, .val _⟩, ⟨_, rfl, .val _⟩, trivial⟩ ⟨.inl ⟨0, _, rfl, rfl, rfl⟩, trivial⟩)) ?_
    rintro ⟨x30_4, ways_4⟩ m4 o4 hg hn4
    replace hg : g_need_reach.l4 n x22_2 x26_3 x30_4 ways_4 = some o4 := hg
    show awp _ _ _ _ (mk _ _ _)
    unfold g_need_reach.l4 at hg
    refine sr_ 1 9 mk_U ?_
    refine go_ ?_
    refine ch_n fun hU => ?_
    refine awp_seq ?_
    refine cg_ rfl hg (fun h19 hg => ?_) fun h19 hg => ?_
    ·refine awp_skip ?_
     repeat first | refine st_ ?_ | refine sn_ ?_
     refine awp_cut (ι := (List (api_Required × Bool))) (fun (ways_6 : (List (api_Required × Bool))) => mk [(0, .val (.int .i64 n)), (5, .row 0), (8, .val (.int .i64 x22_2)), (9, .val (.int .i64 x26_3)), (21, .val (.int .i64 n)), (22, .val (.int .i64 x22_2)), (25, .val (.int .i64 n)), (26, .val (.int .i64 x26_3)), (29, .val (.int .i64 n)), (30, .val (.int .i64 x30_4))] [(0, .map (kvs vv53 vB ways_6))] 1) (fun (ways_6 : (List (api_Required × Bool))) => g_need_reach.j6 x30_4 ways_6 = some o4) ?_ ?_
     ·refine awp_block ?_
      refine sr_ 9 25 hU ?_
      refine go_ ?_
      refine ch_n fun hU => ?_
      refine awp_cut (ι := Bool) (fun (x44_5 : Bool) => mk [(0, .val (.int .i64 n)), (5, .row 0), (8, .val (.int .i64 x22_2)), (9, .val (.int .i64 x26_3)), (10, .val (.int .i64 x30_4)), (21, .val (.int .i64 n)), (22, .val (.int .i64 x22_2)), (25, .val (.int .i64 n)), (26, .val (.int .i64 x26_3)), (29, .val (.int .i64 n)), (30, .val (.int .i64 x30_4)), (44, .val (.bool x44_5))] [(0, .map (kvs vv53 vB ways_4))] 1) (fun (x44_5 : Bool) => g_need_reach.j5 x26_3 x30_4 ways_4 x44_5 = some o4) ?_ ?_
      ·refine awp_region (sys _ _ []) 25 121 hU rfl rfl ?_
       refine go_ ?_
       refine c0_ rfl rfl (.build (r := [.val (.int .i64 x26_3), .val (.int .i64 x22_2)]) und53 pl53 z53 (by kernel_rfl) rfl) rfl rfl ?_
       refine ch_x (rd := [0]) rfl rfl (x_mapGet (f := vv53) (g := vB) (l := ways_4) (key := (api_Required.mk x26_3 x22_2)) (z := false) undm96 keyt53 zv4 rfl rfl (.head _)) rfl rfl (fun _ => ⟨_, rfl⟩) ?_
       rintro _ rfl
       refine go_ ?_
       rcases bc_ hg with ⟨h21, hg⟩ | ⟨h21, hg⟩
       ·refine go_ ?_
        refine c0_ (gdv_t rfl rfl h21) rfl (.build (r := [.val (.int .i64 x22_2), .val (.int .i64 x30_4)]) und53 pl53 z53 (by kernel_rfl) rfl) rfl rfl ?_
        refine ch_x (rd := [0]) (gdv_t rfl rfl h21) rfl (x_mapGet (f := vv53) (g := vB) (l := ways_4) (key := (api_Required.mk x22_2 x30_4)) (z := false) undm96 keyt53 zv4 rfl rfl (.head _)) rfl rfl (fun _ => ⟨_, rfl⟩) ?_
        rintro _ rfl
        refine go_ ?_
        refine ch_n fun hU => ?_
        exact ⟨(mapGet ways_4 (api_Required.mk x22_2 x30_4) false), hg, (by exact Sub.lists [(0, 0)] rfl rfl ⟨⟨_, rfl, .val _⟩, ⟨_, rfl, .row rfl⟩, ⟨_, rfl, .val _⟩, ⟨_, rfl, .val _⟩, ⟨_, rfl, .val _⟩, ⟨_, rfl, .val _⟩, ⟨_, rfl, .val _⟩, ⟨_, rfl, .val _⟩, ⟨_, rfl, .val _⟩, ⟨_, rfl, .val _⟩, ⟨_, rfl, .val _⟩, ⟨_, rfl, .val _⟩, trivial⟩ ⟨.inl ⟨0, _, rfl, rfl, rfl⟩, trivial⟩)⟩
       ·refine go_ ?_
        refine ch_n fun hU => ?_
        exact ⟨false, hg, (by exact Sub.lists [(0, 0)] rfl rfl ⟨⟨_, rfl, .val _⟩, ⟨_, rfl, .row rfl⟩, ⟨_, rfl, .val _⟩, ⟨_, rfl, .val _⟩, ⟨_, rfl, .val _⟩, ⟨_, rfl, .val _⟩, ⟨_, rfl, .val _⟩, ⟨_, rfl, .val _⟩, ⟨_, rfl, .val _⟩, ⟨_, rfl, .val _⟩, ⟨_, rfl, .val _⟩, ⟨_, rfl, .val _⟩, trivial⟩ ⟨.inl ⟨0, _, rfl, rfl, rfl⟩, trivial⟩)⟩
      ·rintro x44_5 hg
       replace hg : g_need_reach.j5 x26_3 x30_4 ways_4 x44_5 = some o4 := hg
       show awp _ _ _ _ (mk _ _ _)
       unfold g_need_reach.j5 at hg
       refine cg_ rfl hg (fun h24 hg => ?_) fun h24 hg => ?_
       ·refine awp_region (sys _ _ []) 1 41 mk_U rfl rfl ?_
        refine go_ ?_
        refine c0_ rfl rfl (.build (r := [.val (.int .i64 x26_3), .val (.int .i64 x30_4)]) und53 pl53 z53 (by kernel_rfl) rfl) rfl rfl ?_
        refine ch_x (rd := [0]) rfl rfl (x_mapPut (f := vv53) (g := vB) (l := ways_4) (key := (api_Required.mk x26_3 x30_4)) (v := true) undm96 keyt53 rfl rfl (.head _)) rfl rfl (fun _ => ⟨_, rfl⟩) ?_
        rintro _ rfl
        refine ch_n fun hU => ?_
        exact ⟨mapPut ways_4 (api_Required.mk x26_3 x30_4) true, hg, (by exact Sub.lists [(0, 0)] rfl rfl ⟨⟨_, rfl, .val _⟩, ⟨_, rfl, .row rfl⟩, ⟨_, rfl, .val _⟩, ⟨_, rfl, .val _⟩, ⟨_, rfl, .val _⟩, ⟨_, rfl, .val _⟩, ⟨_, rfl, .val _⟩, ⟨_, rfl, .val _⟩, ⟨_, rfl, .val _⟩, ⟨_, rfl, .val _⟩, trivial⟩ ⟨.inl ⟨0, _, rfl, rfl, rfl⟩, trivial⟩)⟩
       ·refine awp_skip ?_
        repeat first | refine st_ ?_ | refine sn_ ?_
        exact ⟨ways_4, hg, (by exact Sub.lists [(0, 0)] rfl rfl ⟨⟨_, rfl, .val _⟩, ⟨_, rfl, .row rfl⟩, ⟨_, rfl, .val _⟩, ⟨_, rfl, .val _⟩, ⟨_, rfl, .val _⟩, ⟨_, rfl, .val _⟩, ⟨_, rfl, .val _⟩, ⟨_, rfl, .val _⟩, ⟨_, rfl, .val _⟩, ⟨_, rfl, .val _⟩, trivial⟩ ⟨.inl ⟨0, _, rfl, rfl, rfl⟩, trivial⟩)⟩
     ·rintro ways_6 hg
      replace hg : g_need_reach.j6 x30_4 ways_6 = some o4 := hg
      show awp _ _ _ _ (mk _ _ _)
      unfold g_need_reach.j6 at hg
      refine awp_region (sys _ _ []) 1 17 mk_U rfl rfl ?_
      refine go_ ?_
      refine ch_n fun hU => ?_
      obtain rfl := Option.some.inj hg
      exact ⟨((W (x30_4 + 1), ways_6), m4), Nat.lt_succ_self _, hn4, (by exact Sub.lists [(0, 0)] rfl rfl ⟨⟨_, rfl, .val _⟩, ⟨_, rfl, .row rfl⟩, ⟨_, rfl, .val _⟩, ⟨_, rfl, .val _⟩, ⟨_, rfl, .val _⟩, ⟨_, rfl, .val _⟩, ⟨_, rfl, .val _⟩, ⟨_, rfl, .val _⟩, ⟨_, rfl, .val _⟩, ⟨_, rfl, .val _⟩, trivial⟩ ⟨.inl ⟨0, _, rfl, rfl, rfl⟩, trivial⟩)⟩
    ·refine awp_exit ?_
     repeat first | refine st_ ?_ | refine sn_ ?_
     replace hg := leave hg hn4
     refine awp_region (sys _ _ []) 9 25 hU rfl rfl ?_
     refine go_ ?_
     refine ch_n fun hU => ?_
     obtain rfl := Option.some.inj hg
     exact ⟨((W (x26_3 + 1), ways_4), m3), Nat.lt_succ_self _, hn3, (by exact Sub.lists [(0, 0)] rfl rfl ⟨⟨_, rfl, .val _⟩, ⟨_, rfl, .row rfl⟩, ⟨_, rfl, .val _⟩, ⟨_, rfl, .val _⟩, ⟨_, rfl, .val _⟩, ⟨_, rfl, .val _⟩, ⟨_, rfl, .val _⟩, trivial⟩ ⟨.inl ⟨0, _, rfl, rfl, rfl⟩, trivial⟩)⟩
   ·refine awp_exit ?_
    repeat first | refine st_ ?_ | refine sn_ ?_
    replace hg := leave hg hn3
    refine awp_region (sys _ _ []) 9 25 hU rfl rfl ?_
    refine go_ ?_
    refine ch_n fun hU => ?_
    obtain rfl := Option.some.inj hg
    exact ⟨((W (x22_2 + 1), ways_3), m2), Nat.lt_succ_self _, hn2, (by exact Sub.lists [(0, 0)] rfl rfl ⟨⟨_, rfl, .val _⟩, ⟨_, rfl, .row rfl⟩, ⟨_, rfl, .val _⟩, ⟨_, rfl, .val _⟩, trivial⟩ ⟨.inl ⟨0, _, rfl, rfl, rfl⟩, trivial⟩)⟩
  ·refine awp_exit ?_
   repeat first | refine st_ ?_ | refine sn_ ?_
   replace hg := leave hg hn2
   refine sr_ 9 25 hU ?_
   refine go_ ?_
   refine ch_n fun hU => ?_
   refine aw_r ?_
   obtain rfl := Option.some.inj hg
   exact fin_ [] ⟨rfl, rfl⟩
theorem w_need_Reduce (n : Int) (l : (List api_Required)) (r : (List api_Required) × Int) (hg : g_need_Reduce n l = some r) : Fn Tryz.prog 13 0 [.val (.int .i64 n), .sl 2 (encL api_Required.enc l)] [] (fun d' b' => d' = .tup [.sl 2 (encL api_Required.enc r.1), .val (.int .i64 r.2)] ∧ b' = []) := by
 unfold g_need_Reduce at hg
 refine Fn.of Tryz.func13 rfl rfl rfl fun w0 I ρ0 => ?_
 show awp _ ⟨w0, I, ρ0, 0, 0, 81⟩ _ _ _
 refine sr_ 0 24 mk_U ?_
 refine go_ ?_
 refine ch_n fun hU => ?_
 refine awp_seq ?_
 refine awp_sub (σ' := mk [(1, .sl 2 (encL api_Required.enc l)), (2, .elt (([.int .i64 n] : List C).drop 0))] [] 0) ((by exact Sub.lists [] rfl rfl ⟨⟨_, rfl, .sl _ _⟩, ⟨_, rfl, .frzb (ks := [none]) rfl (.cons .int .nil) (look_ne rfl)⟩, trivial⟩ trivial)) ?_
 refine awp_region (sys _ _ []) 0 16 mk_U rfl rfl ?_
 refine go_ ?_
 refine ch_n fun hU => ?_
 refine awp_seq ?_
 refine awp_block ?_
 refine awp_cut (ι := Bool) (fun (x15_2 : Bool) => mk [(1, .sl 2 (encL api_Required.enc l)), (2, .elt (([.int .i64 n] : List C).drop 0)), (6, .clo 44 0 [.elt (([.int .i64 n] : List C).drop 0)]), (15, .val (.bool x15_2))] [] 0) (fun (x15_2 : Bool) => g_need_Reduce.j2 n l x15_2 = some r) ?_ ?_
 ·refine awp_region (sys _ _ []) 16 72 hU rfl rfl ?_
  refine c0_ rfl rfl (r_loadE1 ty3 (c := .int .i64 n) rfl) rfl rfl ?_
  refine go_ ?_
  rcases bc_ hg with ⟨h3, hg⟩ | ⟨h3, hg⟩
  ·refine go_ ?_
   refine ch_n fun hU => ?_
   exact ⟨true, hg, sub_ []⟩
  ·refine c0_ (gdv_t rfl rfl h3) rfl (r_loadE1 ty3 (c := .int .i64 n) rfl) rfl rfl ?_
   refine go_ ?_
   refine ch_n fun hU => ?_
   exact ⟨decide (24 < n), hg, sub_ []⟩
 ·rintro x15_2 hg
  replace hg : g_need_Reduce.j2 n l x15_2 = some r := hg
  show awp _ _ _ _ (mk _ _ _)
  unfold g_need_Reduce.j2 at hg
  refine cg_ rfl hg (fun h6 hg => ?_) fun h6 hg => ?_
  ·refine awp_seq ?_
   refine awp_region (sys _ _ []) 0 16 mk_U rfl rfl ?_
   refine go_ ?_
   refine ch_n fun hU => ?_
   refine aw_r ?_
   obtain rfl := Option.some.inj hg
   exact fin_ [] ⟨rfl, rfl⟩
  ·refine awp_seq ?_
   refine awp_region (sys _ _ []) 0 32 mk_U rfl rfl ?_
   refine go_ ?_
   obtain ⟨y, hy, hg⟩ := bind_some hg
   refine ca_ (w_slices_ContainsFunc_api_Required_clo_44_0_ref_3 l (fun x0 => g_need_Reduce_c1 x0 n) n (fun x0 y h => w_need_Reduce_c1 x0 n y h) _ hy) ?_
   refine go_ ?_
   refine ch_n fun hU => ?_
   refine cg_ rfl hg (fun h9 hg => ?_) fun h9 hg => ?_
   ·refine awp_seq ?_
    refine awp_region (sys _ _ []) 32 48 hU rfl rfl ?_
    refine go_ ?_
    refine ch_n fun hU => ?_
    refine aw_r ?_
    obtain rfl := Option.some.inj hg
    exact fin_ [] ⟨rfl, rfl⟩
   ·refine awp_seq ?_
    refine awp_region (sys _ _ []) 32 80 hU rfl rfl ?_
    refine go_ ?_
    obtain ⟨y_2, hy_2, hg⟩ := bind_some hg
    refine ca_ (w_need_sorted _ _ hy_2) ?_
    refine go_ ?_
    obtain ⟨y_3, hy_3, hg⟩ := bind_some hg
    refine ca_ (w_slices_Equal_api_Required _ _ _ hy_3) ?_
    refine go_ ?_
    refine ch_n fun hU => ?_
    refine cg_ rfl hg (fun h12 hg => ?_) fun h12 hg => ?_
    ·refine awp_seq ?_
     refine awp_region (sys _ _ []) 80 96 hU rfl rfl ?_
     refine go_ ?_
     refine ch_n fun hU => ?_
     refine aw_r ?_
     obtain rfl := Option.some.inj hg
     exact fin_ [] ⟨rfl, rfl⟩
    ·refine awp_skip ?_
     repeat first | refine st_ ?_ | refine sn_ ?_
     refine sr_ 80 112 hU ?_
     refine c0_ rfl rfl (r_loadE1 ty3 (c := .int .i64 n) rfl) rfl rfl ?_
     refine go_ ?_
     obtain ⟨y_4, hy_4, hg⟩ := bind_some hg
     refine ca_ (w_need_reach _ _ _ hy_4) ?_
     refine go_ ?_
     refine ch_n fun hU => ?_
     refine awp_seq ?_
     refine sr_ 112 128 hU ?_
     refine c0_ rfl rfl (r_loadE1 ty3 (c := .int .i64 n) rfl) rfl rfl ?_
     refine go_ ?_
     refine ch_n fun hU => ?_
     refine awp_block ?_
     refine lp_ (fun (x36_3 : Int) => mk [(1, .sl 2 (encL api_Required.enc l)), (2, .elt (([.int .i64 n] : List C).drop 0)), (7, .mp (kvs vv53 vB y_4)), (35, .val (.int .i64 n)), (36, .val (.int .i64 x36_3))] [] 0) hg (sub_ []) ?_
     rintro x36_3 m3 o3 hg hn3
     replace hg : g_need_Reduce.l3 n l y_4 x36_3 = some o3 := hg
     show awp _ _ _ _ (mk _ _ _)
     unfold g_need_Reduce.l3 at hg
     refine sr_ 0 8 mk_U ?_
     refine go_ ?_
     refine ch_n fun hU => ?_
     refine awp_seq ?_
     refine cg_ rfl hg (fun h17 hg => ?_) fun h17 hg => ?_
     ·refine awp_skip ?_
      repeat first | refine st_ ?_ | refine sn_ ?_
      refine awp_seq ?_
      refine awp_block ?_
      refine sr_ 8 24 hU ?_
      refine go_ ?_
      refine ch_n fun hU => ?_
      refine sr_ 24 64 hU ?_
      refine go_ ?_
      refine c0_ rfl rfl (.build (r := [.val (.int .i64 x36_3), .val (.int .i64 x36_3)]) und53 pl53 z53 (by kernel_rfl) rfl) rfl rfl ?_
      refine ch_x (rd := []) rfl rfl (x_mpGet (f := vv53) (g := vB) (l := y_4) (key := (api_Required.mk x36_3 x36_3)) (z := false) undm96 keyt53 zv4 rfl rfl) rfl rfl (fun _ => ⟨_, rfl⟩) ?_
      rintro _ rfl
      refine ch_n fun hU => ?_
      refine cg_ rfl hg (fun h20 hg => ?_) fun h20 hg => ?_
      ·refine awp_seq ?_
       refine awp_region (sys _ _ []) 64 80 hU rfl rfl ?_
       refine go_ ?_
       refine ch_n fun hU => ?_
       refine aw_r ?_
       replace hg := leave hg hn3
       obtain rfl := Option.some.inj hg
       exact fin_ [] ⟨rfl, rfl⟩
      ·refine awp_skip ?_
       repeat first | refine st_ ?_ | refine sn_ ?_
       refine awp_region (sys _ _ []) 64 80 hU rfl rfl ?_
       refine go_ ?_
       refine ch_n fun hU => ?_
       obtain rfl := Option.some.inj hg
       exact ⟨(W (x36_3 + 1), m3), Nat.lt_succ_self _, hn3, sub_ []⟩
     ·refine awp_exit ?_
      repeat first | refine st_ ?_ | refine sn_ ?_
      replace hg := leave hg hn3
      refine sr_ 8 16 hU ?_
      refine go_ ?_
      refine ch_n fun hU => ?_
      refine awp_seq ?_
      refine sr_ 16 40 hU ?_
      refine go_ ?_
      refine ch_n fun hU => ?_
      refine awp_block ?_
      refine lp_ (fun ((x47_4, out_4) : Int × List api_Required) => mk [(2, .elt (([.int .i64 n] : List C).drop 0)), (7, .mp (kvs vv53 vB y_4)), (9, .row 0), (45, .sl 2 (encL api_Required.enc l)), (46, .val (.int .i64 (l.length : Int))), (47, .val (.int .i64 x47_4))] [(0, .row 53 2 (encL api_Required.enc out_4))] 1) hg (sub_ []) ?_
      rintro ⟨x47_4, out_4⟩ m4 o4 hg hn4
      replace hg : g_need_Reduce.l4 n l y_4 x47_4 out_4 = some o4 := hg
      show awp _ _ _ _ (mk _ _ _)
      unfold g_need_Reduce.l4 at hg
      refine sr_ 1 9 mk_U ?_
      refine go_ ?_
      refine ch_n fun hU => ?_
      refine awp_seq ?_
      refine cg_ rfl hg (fun h26 hg => ?_) fun h26 hg => ?_
      ·refine awp_skip ?_
       repeat first | refine st_ ?_ | refine sn_ ?_
       refine awp_cut (ι := List api_Required) (fun (out_7 : List api_Required) => mk [(2, .elt (([.int .i64 n] : List C).drop 0)), (7, .mp (kvs vv53 vB y_4)), (9, .row 0), (45, .sl 2 (encL api_Required.enc l)), (46, .val (.int .i64 (l.length : Int))), (47, .val (.int .i64 x47_4))] [(0, .row 53 2 (encL api_Required.enc out_7))] 1) (fun (out_7 : List api_Required) => g_need_Reduce.j7 x47_4 out_7 = some o4) ?_ ?_
       ·refine awp_block ?_
        refine sr_ 9 41 hU ?_
        obtain ⟨e, he, hg⟩ := bind_some hg
        refine go_ ?_
        refine c0_ rfl rfl (r_loadEA ty53 (enc_cells api_Required.enc_len (getI_at he) (o := 0) (m := 2) (cs := [.int .i64 e.First, .int .i64 e.Then]) rfl (by decide) rfl) (enc_cells_le api_Required.enc_len (getI_at he) (o := 0) (m := 2) (by decide) rfl)) rfl rfl ?_
        refine go_ ?_
        refine ch_n fun hU => ?_
        refine sr_ 41 49 hU ?_
        refine go_ ?_
        refine ch_n fun hU => ?_
        refine awp_seq ?_
        refine sr_ 49 65 hU ?_
        refine c0_ rfl rfl (r_loadE1 ty3 (c := .int .i64 n) rfl) rfl rfl ?_
        refine go_ ?_
        refine ch_n fun hU => ?_
        refine awp_block ?_
        refine lp_ (fun ((longer_5, x52_5) : Bool × Int) => mk [(2, .elt (([.int .i64 n] : List C).drop 0)), (7, .mp (kvs vv53 vB y_4)), (9, .row 0), (11, .ptr 1 0), (12, .val (.bool longer_5)), (45, .sl 2 (encL api_Required.enc l)), (46, .val (.int .i64 (l.length : Int))), (47, .val (.int .i64 x47_4)), (51, .val (.int .i64 n)), (52, .val (.int .i64 x52_5))] [(0, .row 53 2 (encL api_Required.enc out_4)), (1, .box [.val (.int .i64 e.First), .val (.int .i64 e.Then)] 53)] 2) hg (sub_ [(0, 0), (1, 25)]) ?_
        rintro ⟨longer_5, x52_5⟩ m5 o5 hg hn5
        replace hg : g_need_Reduce.l5 n y_4 x47_4 out_4 e longer_5 x52_5 = some o5 := hg
        show awp _ _ _ _ (mk _ _ _)
        unfold g_need_Reduce.l5 at hg
        refine sr_ 2 10 mk_U ?_
        refine go_ ?_
        refine ch_n fun hU => ?_
        refine awp_seq ?_
        refine cg_ rfl hg (fun h31 hg => ?_) fun h31 hg => ?_
        ·refine awp_skip ?_
         repeat first | refine st_ ?_ | refine sn_ ?_
         refine awp_cut (ι := Bool) (fun (longer_6 : Bool) => mk [(2, .elt (([.int .i64 n] : List C).drop 0)), (7, .mp (kvs vv53 vB y_4)), (9, .row 0), (11, .ptr 1 0), (12, .val (.bool longer_6)), (45, .sl 2 (encL api_Required.enc l)), (46, .val (.int .i64 (l.length : Int))), (47, .val (.int .i64 x47_4)), (51, .val (.int .i64 n)), (52, .val (.int .i64 x52_5))] [(0, .row 53 2 (encL api_Required.enc out_4)), (1, .box [.val (.int .i64 e.First), .val (.int .i64 e.Then)] 53)] 2) (fun (longer_6 : Bool) => g_need_Reduce.j6 x52_5 longer_6 = some o5) ?_ ?_
         ·refine awp_block ?_
          refine sr_ 10 26 hU ?_
          refine go_ ?_
          refine ch_n fun hU => ?_
          refine awp_region (sys _ _ []) 26 170 hU rfl rfl ?_
          refine go_ ?_
          rcases bc_ hg with ⟨h33, hg⟩ | ⟨h33, hg⟩
          ·refine go_ ?_
           refine ch_n fun hU => ?_
           exact ⟨true, hg, sub_ [(0, 0), (1, 1)]⟩
          ·refine go_ ?_
           refine c0_ (gdv_t rfl rfl h33) rfl (.build (r := [.val (.int .i64 e.First), .val (.int .i64 x52_5)]) und53 pl53 z53 (by kernel_rfl) rfl) rfl rfl ?_
           refine ch_x (rd := []) (gdv_t rfl rfl h33) rfl (x_mpGet (f := vv53) (g := vB) (l := y_4) (key := (api_Required.mk e.First x52_5)) (z := false) undm96 keyt53 zv4 rfl rfl) rfl rfl (fun _ => ⟨_, rfl⟩) ?_
           rintro _ rfl
           refine go_ ?_
           rcases bc_ hg with ⟨h35, hg⟩ | ⟨h35, hg⟩
           ·refine go_ ?_
            refine c0_ (gdv_t rfl rfl h35) rfl (.build (r := [.val (.int .i64 x52_5), .val (.int .i64 e.Then)]) und53 pl53 z53 (by kernel_rfl) rfl) rfl rfl ?_
            refine ch_x (rd := []) (gdv_t rfl rfl h35) rfl (x_mpGet (f := vv53) (g := vB) (l := y_4) (key := (api_Required.mk x52_5 e.Then)) (z := false) undm96 keyt53 zv4 rfl rfl) rfl rfl (fun _ => ⟨_, rfl⟩) ?_
            rintro _ rfl
            refine go_ ?_
            refine ch_n fun hU => ?_
            exact ⟨(mapGet y_4 (api_Required.mk x52_5 e.Then) false), hg, sub_ [(0, 0), (1, 1)]⟩
           ·refine go_ ?_
            refine ch_n fun hU => ?_
            exact ⟨false, hg, sub_ [(0, 0), (1, 1)]⟩
         ·rintro longer_6 hg
          replace hg : g_need_Reduce.j6 x52_5 longer_6 = some o5 := hg
          show awp _ _ _ _ (mk _ _ _)
          unfold g_need_Reduce.j6 at hg
          refine awp_region (sys _ _ []) 2 18 mk_U rfl rfl ?_
          refine go_ ?_
          refine ch_n fun hU => ?_
          obtain rfl := Option.some.inj hg
          exact ⟨((longer_6, W (x52_5 + 1)), m5), Nat.lt_succ_self _, hn5, sub_ [(0, 0), (1, 1)]⟩
        ·refine awp_exit ?_
         repeat first | refine st_ ?_ | refine sn_ ?_
         replace hg := leave hg hn5
         refine sr_ 10 26 hU ?_
         refine go_ ?_
         refine ch_n fun hU => ?_
         refine cg_ rfl hg (fun h40 hg => ?_) fun h40 hg => ?_
         ·refine awp_region (sys _ _ []) 26 66 hU rfl rfl ?_
          refine go_ ?_
          refine c0_ rfl rfl (r_buildFull sl48 z53 (by decide) rfl rfl rfl rfl ck53 (cs := [.int .i64 e.First, .int .i64 e.Then]) (.cons .int (.cons .int .nil)) rfl (l := ([e] : List api_Required)) (f := api_Required.enc) rfl) rfl rfl ?_
          obtain ⟨l_2, hl_2, hg⟩ := bind_some hg
          refine ch_s (rd := [0, 42]) rfl rfl (r_append sl48 api_Required.enc_len .row rfl .row rfl hl_2 rfl) rfl rfl ?_
          refine go_ ?_
          refine ch_n fun hU => ?_
          exact ⟨l_2, hg, sub_ [(0, 50)]⟩
         ·refine awp_skip ?_
          repeat first | refine st_ ?_ | refine sn_ ?_
          exact ⟨out_4, hg, sub_ [(0, 0)]⟩
       ·rintro out_7 hg
        replace hg : g_need_Reduce.j7 x47_4 out_7 = some o4 := hg
        show awp _ _ _ _ (mk _ _ _)
        unfold g_need_Reduce.j7 at hg
        refine awp_region (sys _ _ []) 1 17 mk_U rfl rfl ?_
        refine go_ ?_
        refine ch_n fun hU => ?_
        obtain rfl := Option.some.inj hg
        exact ⟨((W (x47_4 + 1), out_7), m4), Nat.lt_succ_self _, hn4, sub_ [(0, 0)]⟩
      ·refine awp_exit ?_
       repeat first | refine st_ ?_ | refine sn_ ?_
       replace hg := leave hg hn4
       refine sr_ 9 33 hU ?_
       refine go_ ?_
       refine ch_n fun hU => ?_
       refine aw_r ?_
       obtain rfl := Option.some.inj hg
       exact fin_ [] ⟨rfl, rfl⟩
theorem w_law28_NeedAnchors (t : (List Int)) (r : Bool) (hg : g_law28_NeedAnchors t = some r) : Fn Tryz.prog 3 0 [.sl 1 (encL eI t)] [] (fun d' b' => d' = .val (.bool r) ∧ b' = []) := by
 unfold g_law28_NeedAnchors at hg
 refine Fn.of Tryz.func3 rfl rfl rfl fun w0 I ρ0 => ?_
 show awp _ ⟨w0, I, ρ0, 0, 0, 128⟩ _ _ _
 refine sr_ 0 8 mk_U ?_
 refine go_ ?_
 refine ch_n fun hU => ?_
 refine awp_seq ?_
 refine sr_ 8 32 hU ?_
 refine go_ ?_
 obtain ⟨y, hy, hg⟩ := bind_some hg
 refine ca_ (w_make_Light _ _ hy) ?_
 refine go_ ?_
 refine ch_n fun hU => ?_
 refine cg_ rfl hg (fun h3 hg => ?_) fun h3 hg => ?_
 ·refine awp_seq ?_
  refine awp_region (sys _ _ []) 32 48 hU rfl rfl ?_
  obtain ⟨y_2, hy_2, hg⟩ := bind_some hg
  refine ca_ (w_law28_awake _ hy_2) ?_
  refine go_ ?_
  refine ch_n fun hU => ?_
  refine aw_r ?_
  obtain rfl := Option.some.inj hg
  exact fin_ [] ⟨rfl, rfl⟩
 ·refine awp_skip ?_
  repeat first | refine st_ ?_ | refine sn_ ?_
  refine sr_ 32 72 hU ?_
  refine go_ ?_
  obtain ⟨y_3, hy_3, hg⟩ := bind_some hg
  refine ch_call (rd := []) (ps := []) (gs := []) false rfl (w_make_Roll _ _ hy_3) rfl rfl (.cons .sl .nil) rfl rfl (by intro h; cases h) rfl (by intro h; first | (cases h; done) | exact ⟨_, _, ⟨rfl, rfl⟩, by simp, by simp⟩) ?_
  rintro _ _ ⟨rfl, rfl⟩
  obtain ⟨y_4, hy_4, hg⟩ := bind_some hg
  refine cb_ [40] [40] [] false (w_move_Sound _ _ hy_4) ?_
  refine go_ ?_
  refine ch_n fun hU => ?_
  refine sr_ 72 120 hU ?_
  refine go_ ?_
  obtain ⟨e, he, hg⟩ := bind_some hg
  refine go_ ?_
  refine c0_ rfl rfl (r_loadEA ty34 (enc_cells api_Edge.enc_len (getI_at he) (o := 0) (m := 2) (cs := [.int .i64 e.Client, .int .i64 e.Server]) rfl (by decide) rfl) (enc_cells_le api_Edge.enc_len (getI_at he) (o := 0) (m := 2) (by decide) rfl)) rfl rfl ?_
  refine go_ ?_
  refine ch_n fun hU => ?_
  refine sr_ 120 184 hU ?_
  refine go_ ?_
  obtain ⟨e_2, he_2, hg⟩ := bind_some hg
  refine go_ ?_
  refine c0_ rfl rfl (r_loadEA ty37 (enc_cells api_Endpoint.enc_len (getI_at he_2) (o := 0) (m := 9) (cs := [.str e_2.Name, .int .i64 e_2.Least, .int .i64 e_2.Most, .sl 1 (encL eI e_2.Suites), .bool e_2.OwnOrder, .sl 4 (encL api_Identity.enc e_2.Identities), .sl 1 (encL eI e_2.Anchors), .sl 1 (encL eI e_2.Hashes), .bool e_2.Fallback]) rfl (by decide) rfl) (enc_cells_le api_Endpoint.enc_len (getI_at he_2) (o := 0) (m := 9) (by decide) rfl)) rfl rfl ?_
  refine go_ ?_
  refine ch_n fun hU => ?_
  refine awp_seq ?_
  refine awp_draw (sys _ _ []) (by kernel_rfl) [0, 1, 0, 4, 12, 31, 0, 64, 0, 256, 0, 1792, 4032, 0, 8192, 24576, 0, 65536, 196608, 524287, 1048575] 184 352 hU rfl rfl (by kernel_rfl) ?_
  refine go_ ?_
  refine c0_ rfl rfl (.build (r := [.val (.int .i64 e.Server), .val (.int .i64 6), .val (.int .i64 (W (100 + e.Server))), .val (.int .i64 0), .val (.int .i64 0), .val (.int .i64 0), .val (.int .i64 0), .val (.slice none 0 0)]) und44 pl44 z44 (by kernel_rfl) rfl) rfl rfl ?_
  refine go_ ?_
  obtain ⟨y_5, hy_5, hg⟩ := bind_some hg
  refine ca_ (w_move_EC _ hy_5) ?_
  obtain ⟨y_6, hy_6, hg⟩ := bind_some hg
  refine ca_ (w_move_Leaf _ _ _ _ _ _ hy_6) ?_
  refine c0_ rfl rfl (.build (r := [.val (.int .i64 e.Server), .val (.int .i64 5), .val (.int .i64 0), .val (.int .i64 0), .val (.int .i64 y_6.Key.Alg), .val (.int .i64 y_6.Key.Bits), .val (.int .i64 y_6.KeyId), .sl 15 (encL api_Certificate.enc y_6.Chain)]) und44 pl44 z44 (by kernel_rfl) rfl) rfl rfl ?_
  refine go_ ?_
  refine c0_ rfl rfl (.build (r := [.val (.int .i64 e.Client), .val (.int .i64 7), .val (.int .i64 2), .val (.int .i64 0), .val (.int .i64 0), .val (.int .i64 0), .val (.int .i64 0), .val (.slice none 0 0)]) und44 pl44 z44 (by kernel_rfl) rfl) rfl rfl ?_
  refine go_ ?_
  refine c0_ rfl rfl (.build (r := [.val (.int .i64 e.Client), .val (.int .i64 2), .val (.int .i64 2), .val (.int .i64 0), .val (.int .i64 0), .val (.int .i64 0), .val (.int .i64 0), .val (.slice none 0 0)]) und44 pl44 z44 (by kernel_rfl) rfl) rfl rfl ?_
  refine c0_ rfl rfl (r_buildFull sl47 z44 (by decide) rfl rfl rfl rfl ck44 (cs := [.int .i64 e.Server, .int .i64 6, .int .i64 (W (100 + e.Server)), .int .i64 0, .int .i64 0, .int .i64 0, .int .i64 0, .sl 15 (encL api_Certificate.enc []), .int .i64 e.Server, .int .i64 5, .int .i64 0, .int .i64 0, .int .i64 y_6.Key.Alg, .int .i64 y_6.Key.Bits, .int .i64 y_6.KeyId, .sl 15 (encL api_Certificate.enc y_6.Chain), .int .i64 e.Client, .int .i64 7, .int .i64 2, .int .i64 0, .int .i64 0, .int .i64 0, .int .i64 0, .sl 15 (encL api_Certificate.enc []), .int .i64 e.Client, .int .i64 2, .int .i64 2, .int .i64 0, .int .i64 0, .int .i64 0, .int .i64 0, .sl 15 (encL api_Certificate.enc [])]) (.cons .int (.cons .int (.cons .int (.cons .int (.cons .int (.cons .int (.cons .int (.cons .nil (.cons .int (.cons .int (.cons .int (.cons .int (.cons .int (.cons .int (.cons .int (.cons .sl (.cons .int (.cons .int (.cons .int (.cons .int (.cons .int (.cons .int (.cons .int (.cons .nil (.cons .int (.cons .int (.cons .int (.cons .int (.cons .int (.cons .int (.cons .int (.cons .nil .nil)))))))))))))))))))))))))))))))) rfl (l := ([(api_Change.mk e.Server 6 (W (100 + e.Server)) 0 (api_Identity.mk (api_Use.mk 0 0) 0 ([] : (List api_Certificate)))), (api_Change.mk e.Server 5 0 0 y_6), (api_Change.mk e.Client 7 2 0 (api_Identity.mk (api_Use.mk 0 0) 0 ([] : (List api_Certificate)))), (api_Change.mk e.Client 2 2 0 (api_Identity.mk (api_Use.mk 0 0) 0 ([] : (List api_Certificate))))] : List api_Change)) (f := api_Change.enc) rfl) rfl rfl ?_
  refine go_ ?_
  refine ch_n fun hU => ?_
  refine awp_seq ?_
  refine awp_sub (σ' := mk [(3, .ptr 0 0), (6, .sl 8 (encL api_Change.enc ([(api_Change.mk e.Server 6 (W (100 + e.Server)) 0 (api_Identity.mk (api_Use.mk 0 0) 0 ([] : (List api_Certificate)))), (api_Change.mk e.Server 5 0 0 y_6), (api_Change.mk e.Client 7 2 0 (api_Identity.mk (api_Use.mk 0 0) 0 ([] : (List api_Certificate)))), (api_Change.mk e.Client 2 2 0 (api_Identity.mk (api_Use.mk 0 0) 0 ([] : (List api_Certificate))))] : List api_Change)))] [(0, .box (api_Estate.dv y_4.1) 29)] 1) (sub_ [(0, 56)]) ?_
  refine awp_region (sys _ _ []) 1 65 mk_U rfl rfl ?_
  refine go_ ?_
  obtain ⟨y_7, hy_7, hg⟩ := bind_some hg
  refine ca_ (w_need_Derive _ _ _ hy_7) ?_
  refine go_ ?_
  refine ch_n fun hU => ?_
  refine awp_seq ?_
  refine sr_ 65 81 hU ?_
  refine go_ ?_
  refine ch_n fun hU => ?_
  refine cg_ rfl hg (fun h11 hg => ?_) fun h11 hg => ?_
  ·refine awp_seq ?_
   refine awp_region (sys _ _ []) 81 89 hU rfl rfl ?_
   refine go_ ?_
   refine ch_n fun hU => ?_
   refine aw_r ?_
   obtain rfl := Option.some.inj hg
   exact fin_ [] ⟨rfl, rfl⟩
  ·refine awp_skip ?_
   repeat first | refine st_ ?_ | refine sn_ ?_
   refine awp_seq ?_
   refine sr_ 81 145 hU ?_
   refine c0_ rfl rfl (.build (r := [.val (.int .i64 2), .val (.int .i64 1)]) und53 pl53 z53 (by kernel_rfl) rfl) rfl rfl ?_
   refine c0_ rfl rfl (.build (r := [.val (.int .i64 1), .val (.int .i64 0)]) und53 pl53 z53 (by kernel_rfl) rfl) rfl rfl ?_
   refine c0_ rfl rfl (.build (r := [.val (.int .i64 1), .val (.int .i64 3)]) und53 pl53 z53 (by kernel_rfl) rfl) rfl rfl ?_
   refine c0_ rfl rfl (.build (r := [.val (.int .i64 2), .val (.int .i64 0)]) und53 pl53 z53 (by kernel_rfl) rfl) rfl rfl ?_
   refine c0_ rfl rfl (.build (r := [.val (.int .i64 2), .val (.int .i64 3)]) und53 pl53 z53 (by kernel_rfl) rfl) rfl rfl ?_
   refine c0_ rfl rfl (r_buildFull sl48 z53 (by decide) rfl rfl rfl rfl ck53 (cs := [.int .i64 2, .int .i64 1, .int .i64 1, .int .i64 0, .int .i64 1, .int .i64 3, .int .i64 2, .int .i64 0, .int .i64 2, .int .i64 3]) (.cons .int (.cons .int (.cons .int (.cons .int (.cons .int (.cons .int (.cons .int (.cons .int (.cons .int (.cons .int .nil)))))))))) rfl (l := ([(api_Required.mk 2 1), (api_Required.mk 1 0), (api_Required.mk 1 3), (api_Required.mk 2 0), (api_Required.mk 2 3)] : List api_Required)) (f := api_Required.enc) rfl) rfl rfl ?_
   refine go_ ?_
   refine ch_n fun hU => ?_
   refine awp_block ?_
   refine lp_ (fun (x71_2 : Int) => mk [(3, .ptr 0 0), (6, .sl 8 (encL api_Change.enc ([(api_Change.mk e.Server 6 (W (100 + e.Server)) 0 (api_Identity.mk (api_Use.mk 0 0) 0 ([] : (List api_Certificate)))), (api_Change.mk e.Server 5 0 0 y_6), (api_Change.mk e.Client 7 2 0 (api_Identity.mk (api_Use.mk 0 0) 0 ([] : (List api_Certificate)))), (api_Change.mk e.Client 2 2 0 (api_Identity.mk (api_Use.mk 0 0) 0 ([] : (List api_Certificate))))] : List api_Change))), (7, .sl 2 (encL api_Required.enc y_7.1)), (69, .row 1), (70, .val (.int .i64 (([(api_Required.mk 2 1), (api_Required.mk 1 0), (api_Required.mk 1 3), (api_Required.mk 2 0), (api_Required.mk 2 3)] : List api_Required).length : Int))), (71, .val (.int .i64 x71_2))] [(0, .box (api_Estate.dv y_4.1) 29), (1, .row 53 2 (encL api_Required.enc ([(api_Required.mk 2 1), (api_Required.mk 1 0), (api_Required.mk 1 3), (api_Required.mk 2 0), (api_Required.mk 2 3)] : List api_Required)))] 2) hg (sub_ [(0, 0), (1, 121)]) ?_
   rintro x71_2 m2 o2 hg hn2
   replace hg : g_law28_NeedAnchors.l2 y_4 e y_6 y_7 x71_2 = some o2 := hg
   show awp _ _ _ _ (mk _ _ _)
   unfold g_law28_NeedAnchors.l2 at hg
   refine sr_ 2 10 mk_U ?_
   refine go_ ?_
   refine ch_n fun hU => ?_
   refine awp_seq ?_
   refine cg_ rfl hg (fun h15 hg => ?_) fun h15 hg => ?_
   ·refine awp_skip ?_
    repeat first | refine st_ ?_ | refine sn_ ?_
    refine awp_seq ?_
    refine awp_block ?_
    refine sr_ 10 42 hU ?_
    obtain ⟨e_3, he_3, hg⟩ := bind_some hg
    refine go_ ?_
    refine ch_s (rd := [1]) rfl rfl (r_loadRA ty53 (enc_cells api_Required.enc_len (getI_at he_3) (o := 0) (m := 2) (cs := [.int .i64 e_3.First, .int .i64 e_3.Then]) rfl (by decide) rfl) (enc_cells_le api_Required.enc_len (getI_at he_3) (o := 0) (m := 2) (by decide) rfl)) rfl rfl ?_
    refine go_ ?_
    refine ch_n fun hU => ?_
    refine sr_ 42 50 hU ?_
    refine go_ ?_
    refine ch_n fun hU => ?_
    refine awp_seq ?_
    refine sr_ 50 74 hU ?_
    refine go_ ?_
    refine ch_n fun hU => ?_
    refine awp_block ?_
    refine lp_ (fun ((found_3, x77_3) : Bool × Int) => mk [(3, .ptr 0 0), (6, .sl 8 (encL api_Change.enc ([(api_Change.mk e.Server 6 (W (100 + e.Server)) 0 (api_Identity.mk (api_Use.mk 0 0) 0 ([] : (List api_Certificate)))), (api_Change.mk e.Server 5 0 0 y_6), (api_Change.mk e.Client 7 2 0 (api_Identity.mk (api_Use.mk 0 0) 0 ([] : (List api_Certificate)))), (api_Change.mk e.Client 2 2 0 (api_Identity.mk (api_Use.mk 0 0) 0 ([] : (List api_Certificate))))] : List api_Change))), (7, .sl 2 (encL api_Required.enc y_7.1)), (10, .ptr 1 0), (11, .val (.bool found_3)), (69, .row 2), (70, .val (.int .i64 (([(api_Required.mk 2 1), (api_Required.mk 1 0), (api_Required.mk 1 3), (api_Required.mk 2 0), (api_Required.mk 2 3)] : List api_Required).length : Int))), (71, .val (.int .i64 x71_2)), (75, .sl 2 (encL api_Required.enc y_7.1)), (76, .val (.int .i64 (y_7.1.length : Int))), (77, .val (.int .i64 x77_3))] [(0, .box (api_Estate.dv y_4.1) 29), (1, .box [.val (.int .i64 e_3.First), .val (.int .i64 e_3.Then)] 53), (2, .row 53 2 (encL api_Required.enc ([(api_Required.mk 2 1), (api_Required.mk 1 0), (api_Required.mk 1 3), (api_Required.mk 2 0), (api_Required.mk 2 3)] : List api_Required)))] 3) hg (sub_ [(0, 0), (1, 26), (2, 1)]) ?_
    rintro ⟨found_3, x77_3⟩ m3 o3 hg hn3
    replace hg : g_law28_NeedAnchors.l3 y_7 x71_2 e_3 found_3 x77_3 = some o3 := hg
    show awp _ _ _ _ (mk _ _ _)
    unfold g_law28_NeedAnchors.l3 at hg
    refine sr_ 3 11 mk_U ?_
    refine go_ ?_
    refine ch_n fun hU => ?_
    refine awp_seq ?_
    refine cg_ rfl hg (fun h20 hg => ?_) fun h20 hg => ?_
    ·refine awp_skip ?_
     repeat first | refine st_ ?_ | refine sn_ ?_
     refine awp_cut (ι := Bool) (fun (found_4 : Bool) => mk [(3, .ptr 0 0), (6, .sl 8 (encL api_Change.enc ([(api_Change.mk e.Server 6 (W (100 + e.Server)) 0 (api_Identity.mk (api_Use.mk 0 0) 0 ([] : (List api_Certificate)))), (api_Change.mk e.Server 5 0 0 y_6), (api_Change.mk e.Client 7 2 0 (api_Identity.mk (api_Use.mk 0 0) 0 ([] : (List api_Certificate)))), (api_Change.mk e.Client 2 2 0 (api_Identity.mk (api_Use.mk 0 0) 0 ([] : (List api_Certificate))))] : List api_Change))), (7, .sl 2 (encL api_Required.enc y_7.1)), (10, .ptr 1 0), (11, .val (.bool found_4)), (69, .row 2), (70, .val (.int .i64 (([(api_Required.mk 2 1), (api_Required.mk 1 0), (api_Required.mk 1 3), (api_Required.mk 2 0), (api_Required.mk 2 3)] : List api_Required).length : Int))), (71, .val (.int .i64 x71_2)), (75, .sl 2 (encL api_Required.enc y_7.1)), (76, .val (.int .i64 (y_7.1.length : Int))), (77, .val (.int .i64 x77_3))] [(0, .box (api_Estate.dv y_4.1) 29), (1, .box [.val (.int .i64 e_3.First), .val (.int .i64 e_3.Then)] 53), (2, .row 53 2 (encL api_Required.enc ([(api_Required.mk 2 1), (api_Required.mk 1 0), (api_Required.mk 1 3), (api_Required.mk 2 0), (api_Required.mk 2 3)] : List api_Required)))] 3) (fun (found_4 : Bool) => g_law28_NeedAnchors.j4 x77_3 found_4 = some o3) ?_ ?_
     ·refine awp_block ?_
      refine sr_ 11 43 hU ?_
      obtain ⟨e_4, he_4, hg⟩ := bind_some hg
      refine go_ ?_
      refine c0_ rfl rfl (r_loadEA ty53 (enc_cells api_Required.enc_len (getI_at he_4) (o := 0) (m := 2) (cs := [.int .i64 e_4.First, .int .i64 e_4.Then]) rfl (by decide) rfl) (enc_cells_le api_Required.enc_len (getI_at he_4) (o := 0) (m := 2) (by decide) rfl)) rfl rfl ?_
      refine go_ ?_
      refine ch_n fun hU => ?_
      refine awp_region (sys _ _ []) 43 99 hU rfl rfl ?_
      refine go_ ?_
      rcases bc_ hg with ⟨h22, hg⟩ | ⟨h22, hg⟩
      ·refine go_ ?_
       refine ch_n fun hU => ?_
       exact ⟨true, hg, sub_ [(0, 0), (1, 1), (2, 2)]⟩
      ·refine go_ ?_
       refine c0_ (gdv_t rfl rfl h22) rfl (steq53_eql e_4 e_3) rfl rfl ?_
       refine go_ ?_
       refine ch_n fun hU => ?_
       exact ⟨decide (e_4 = e_3), hg, sub_ [(0, 0), (1, 1), (2, 2)]⟩
     ·rintro found_4 hg
      replace hg : g_law28_NeedAnchors.j4 x77_3 found_4 = some o3 := hg
      show awp _ _ _ _ (mk _ _ _)
      unfold g_law28_NeedAnchors.j4 at hg
      refine awp_region (sys _ _ []) 3 19 mk_U rfl rfl ?_
      refine go_ ?_
      refine ch_n fun hU => ?_
      obtain rfl := Option.some.inj hg
      exact ⟨((found_4, W (x77_3 + 1)), m3), Nat.lt_succ_self _, hn3, sub_ [(0, 0), (1, 1), (2, 2)]⟩
    ·refine awp_exit ?_
     repeat first | refine st_ ?_ | refine sn_ ?_
     replace hg := leave hg hn3
     refine sr_ 11 27 hU ?_
     refine go_ ?_
     refine ch_n fun hU => ?_
     refine cg_ rfl hg (fun h27 hg => ?_) fun h27 hg => ?_
     ·refine awp_seq ?_
      refine awp_region (sys _ _ []) 27 35 hU rfl rfl ?_
      refine go_ ?_
      refine ch_n fun hU => ?_
      refine aw_r ?_
      replace hg := leave hg hn2
      obtain rfl := Option.some.inj hg
      exact fin_ [] ⟨rfl, rfl⟩
     ·refine awp_skip ?_
      repeat first | refine st_ ?_ | refine sn_ ?_
      refine awp_region (sys _ _ []) 27 43 hU rfl rfl ?_
      refine go_ ?_
      refine ch_n fun hU => ?_
      obtain rfl := Option.some.inj hg
      exact ⟨(W (x71_2 + 1), m2), Nat.lt_succ_self _, hn2, sub_ [(0, 0), (1, 2)]⟩
   ·refine awp_exit ?_
    repeat first | refine st_ ?_ | refine sn_ ?_
    replace hg := leave hg hn2
    refine sr_ 10 34 hU ?_
    refine go_ ?_
    refine ch_n fun hU => ?_
    refine sr_ 34 50 hU ?_
    refine go_ ?_
    refine ch_n fun hU => ?_
    refine sr_ 50 114 hU ?_
    refine go_ ?_
    obtain ⟨y_8, hy_8, hg⟩ := bind_some hg
    refine ca_ (w_need_Derive _ _ _ hy_8) ?_
    refine go_ ?_
    refine ch_n fun hU => ?_
    refine sr_ 114 170 hU ?_
    refine go_ ?_
    obtain ⟨y_9, hy_9, hg⟩ := bind_some hg
    refine ca_ (w_need_Reduce _ _ _ hy_9) ?_
    refine go_ ?_
    refine ch_n fun hU => ?_
    refine sr_ 170 370 hU ?_
    refine go_ ?_
    rcases bc_ hg with ⟨h34, hg⟩ | ⟨h34, hg⟩
    ·refine go_ ?_
     rcases bc_ hg with ⟨h35, hg⟩ | ⟨h35, hg⟩
     ·refine go_ ?_
      rcases bc_ hg with ⟨h36, hg⟩ | ⟨h36, hg⟩
      ·refine go_ ?_
       rcases bc_ hg with ⟨h37, hg⟩ | ⟨h37, hg⟩
       ·refine go_ ?_
        rcases bc_ hg with ⟨h38, hg⟩ | ⟨h38, hg⟩
        ·obtain ⟨y_10, hy_10, hg⟩ := bind_some hg
         refine ca_ (w_law28_awake _ hy_10) ?_
         refine go_ ?_
         refine ch_n fun hU => ?_
         refine aw_r ?_
         obtain rfl := Option.some.inj hg
         exact fin_ [] ⟨rfl, rfl⟩
        ·refine go_ ?_
         refine ch_n fun hU => ?_
         refine aw_r ?_
         obtain rfl := Option.some.inj hg
         exact fin_ [] ⟨rfl, rfl⟩
       ·refine go_ ?_
        refine ch_n fun hU => ?_
        refine aw_r ?_
        obtain rfl := Option.some.inj hg
        exact fin_ [] ⟨rfl, rfl⟩
      ·refine go_ ?_
       refine ch_n fun hU => ?_
       refine aw_r ?_
       obtain rfl := Option.some.inj hg
       exact fin_ [] ⟨rfl, rfl⟩
     ·refine go_ ?_
      refine ch_n fun hU => ?_
      refine aw_r ?_
      obtain rfl := Option.some.inj hg
      exact fin_ [] ⟨rfl, rfl⟩
    ·refine go_ ?_
     refine ch_n fun hU => ?_
     refine aw_r ?_
     obtain rfl := Option.some.inj hg
     exact fin_ [] ⟨rfl, rfl⟩
end Go.Proofs.YtkpcbnnlefcebaaGreat
