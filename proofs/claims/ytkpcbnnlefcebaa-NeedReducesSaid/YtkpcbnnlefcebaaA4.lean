/- The program computes the plain functions. -/
import Derived.Test.YtkpcbnnlefcebaaT1
import Derived.Test.YtkpcbnnlefcebaaA1
import Derived.Test.YtkpcbnnlefcebaaA3
set_option linter.unusedVariables false
set_option linter.unusedSimpArgs false
set_option maxRecDepth 100000
set_option maxHeartbeats 1600000
namespace Go.Proofs.Ytkpcbnnlefcebaa
open Go.RowKit
theorem w_need_Reduce_c1 (r' : api_Required) (c0 : Int) (r : Bool) (hg : g_need_Reduce_c1 r' c0 = some r) : Fn Try.prog 20 0 [.agg [.val (.int .i64 r'.First), .val (.int .i64 r'.Then)], .elt (([.int .i64 c0] : List C).drop 0)] [] (fun d' b' => d' = .val (.bool r) ∧ b' = []) := by
 unfold g_need_Reduce_c1 at hg
 refine Fn.of Try.func20 rfl rfl rfl fun w0 I ρ0 => ?_
 show awp _ ⟨w0, I, ρ0, 0, 0, 31⟩ _ _ _
 refine sr_ 0 16 mk_U ?_
 refine go_ ?_
 refine ch_n fun hU => ?_
 refine sr_ 16 240 hU ?_
 refine go_ ?_
 rcases bc_ hg with ⟨h2, hg⟩ | ⟨h2, hg⟩
 ·refine go_ ?_
  refine ch_n fun hU => ?_
  refine aw_r ?_
  obtain rfl := Option.some.inj hg
  exact fin_ [] ⟨rfl, rfl⟩
 ·refine go_ ?_
  refine c0_ (gdv_t rfl rfl h2) rfl (r_loadE1 ty3 (c := .int .i64 c0) rfl) rfl rfl ?_
  refine go_ ?_
  rcases bc_ hg with ⟨h4, hg⟩ | ⟨h4, hg⟩
  ·refine go_ ?_
   refine ch_n fun hU => ?_
   refine aw_r ?_
   obtain rfl := Option.some.inj hg
   exact fin_ [] ⟨rfl, rfl⟩
  ·refine go_ ?_
   rcases bc_ hg with ⟨h6, hg⟩ | ⟨h6, hg⟩
   ·refine go_ ?_
    refine ch_n fun hU => ?_
    refine aw_r ?_
    obtain rfl := Option.some.inj hg
    exact fin_ [] ⟨rfl, rfl⟩
   ·refine go_ ?_
    refine c0_ (gdv_t rfl rfl h6) rfl (r_loadE1 ty3 (c := .int .i64 c0) rfl) rfl rfl ?_
    refine go_ ?_
    rcases bc_ hg with ⟨h8, hg⟩ | ⟨h8, hg⟩
    ·refine go_ ?_
     refine ch_n fun hU => ?_
     refine aw_r ?_
     obtain rfl := Option.some.inj hg
     exact fin_ [] ⟨rfl, rfl⟩
    ·refine go_ ?_
     refine ch_n fun hU => ?_
     refine aw_r ?_
     obtain rfl := Option.some.inj hg
     exact fin_ [] ⟨rfl, rfl⟩
theorem w_slices_IndexFunc_api_Required_clo_20_0_ref_3 (s : (List api_Required)) (f : api_Required → Option (Bool)) (f_c0 : Int) (hf_f : ∀ (x0 : api_Required) (y : Bool), f x0 = some y → Fn Try.prog 20 0 [.agg [.val (.int .i64 x0.First), .val (.int .i64 x0.Then)], .elt (([.int .i64 f_c0] : List C).drop 0)] [] (fun d' b' => d' = .val (.bool y) ∧ b' = [])) (r : Int) (hg : g_slices_IndexFunc_api_Required s f = some r) : Fn Try.prog 29 0 [.sl 2 (encL api_Required.enc s), .clo 20 0 [.elt (([.int .i64 f_c0] : List C).drop 0)]] [] (fun d' b' => d' = .val (.int .i64 r) ∧ b' = []) := by
 unfold g_slices_IndexFunc_api_Required at hg
 refine Fn.of Try.func29 rfl rfl rfl fun w0 I ρ0 => ?_
 show awp _ ⟨w0, I, ρ0, 0, 0, 19⟩ _ _ _
 refine sr_ 0 8 mk_U ?_
 refine go_ ?_
 refine ch_n fun hU => ?_
 refine awp_seq ?_
 refine sr_ 8 32 hU ?_
 refine go_ ?_
 refine ch_n fun hU => ?_
 refine awp_block ?_
 refine lp_ (fun (x8_1 : Int) => mk [(0, .sl 2 (encL api_Required.enc s)), (1, .clo 20 0 [.elt (([.int .i64 f_c0] : List C).drop 0)]), (7, .val (.int .i64 (s.length : Int))), (8, .val (.int .i64 x8_1))] [] 0) hg (sub_ []) ?_
 rintro x8_1 m1 o1 hg hn1
 replace hg : g_slices_IndexFunc_api_Required.l1 s f x8_1 = some o1 := hg
 show awp _ _ _ _ (mk _ _ _)
 unfold g_slices_IndexFunc_api_Required.l1 at hg
 refine sr_ 0 8 mk_U ?_
 refine go_ ?_
 refine ch_n fun hU => ?_
 refine awp_seq ?_
 refine cg_ rfl hg (fun h4 hg => ?_) fun h4 hg => ?_
 ·refine awp_skip ?_
  repeat first | refine st_ ?_ | refine sn_ ?_
  refine awp_seq ?_
  refine awp_block ?_
  refine sr_ 8 24 hU ?_
  refine go_ ?_
  refine ch_n fun hU => ?_
  refine sr_ 24 72 hU ?_
  refine go_ ?_
  obtain ⟨e, he, hg⟩ := bind_some hg
  refine go_ ?_
  refine c0_ rfl rfl (r_loadEA ty54 (enc_cells api_Required.enc_len (getI_at he) (o := 0) (m := 2) (cs := [.int .i64 e.First, .int .i64 e.Then]) rfl (by decide) rfl) (enc_cells_le api_Required.enc_len (getI_at he) (o := 0) (m := 2) (by decide) rfl)) rfl rfl ?_
  obtain ⟨y, hy, hg⟩ := bind_some hg
  refine ch_callCP (rd := []) (ps := []) (gs := []) false rfl rfl (hf_f e _ hy) rfl rfl (.cons (.agg (.cons .val (.cons .val .nil))) (.cons .elt .nil)) rfl rfl (by intro h; cases h) rfl rfl rfl rfl ?_
  refine ch_n fun hU => ?_
  refine cg_ rfl hg (fun h7 hg => ?_) fun h7 hg => ?_
  ·refine awp_seq ?_
   refine awp_region (sys _ _ []) 72 88 hU rfl rfl ?_
   refine go_ ?_
   refine ch_n fun hU => ?_
   refine aw_r ?_
   replace hg := leave hg hn1
   obtain rfl := Option.some.inj hg
   exact fin_ [] ⟨rfl, rfl⟩
  ·refine awp_skip ?_
   repeat first | refine st_ ?_ | refine sn_ ?_
   refine awp_region (sys _ _ []) 72 88 hU rfl rfl ?_
   refine go_ ?_
   refine ch_n fun hU => ?_
   obtain rfl := Option.some.inj hg
   exact ⟨(W (x8_1 + 1), m1), Nat.lt_succ_self _, hn1, sub_ []⟩
 ·refine awp_exit ?_
  repeat first | refine st_ ?_ | refine sn_ ?_
  replace hg := leave hg hn1
  refine sr_ 8 16 hU ?_
  refine go_ ?_
  refine ch_n fun hU => ?_
  refine aw_r ?_
  obtain rfl := Option.some.inj hg
  exact fin_ [] ⟨rfl, rfl⟩
theorem w_slices_ContainsFunc_api_Required_clo_20_0_ref_3 (s : (List api_Required)) (f : api_Required → Option (Bool)) (f_c0 : Int) (hf_f : ∀ (x0 : api_Required) (y : Bool), f x0 = some y → Fn Try.prog 20 0 [.agg [.val (.int .i64 x0.First), .val (.int .i64 x0.Then)], .elt (([.int .i64 f_c0] : List C).drop 0)] [] (fun d' b' => d' = .val (.bool y) ∧ b' = [])) (r : Bool) (hg : g_slices_ContainsFunc_api_Required s f = some r) : Fn Try.prog 21 0 [.sl 2 (encL api_Required.enc s), .clo 20 0 [.elt (([.int .i64 f_c0] : List C).drop 0)]] [] (fun d' b' => d' = .val (.bool r) ∧ b' = []) := by
 unfold g_slices_ContainsFunc_api_Required at hg
 refine Fn.of Try.func21 rfl rfl rfl fun w0 I ρ0 => ?_
 show awp _ ⟨w0, I, ρ0, 0, 0, 9⟩ _ _ _
 refine sr_ 0 8 mk_U ?_
 refine go_ ?_
 refine ch_n fun hU => ?_
 refine sr_ 8 48 hU ?_
 refine go_ ?_
 obtain ⟨y, hy, hg⟩ := bind_some hg
 refine ca_ (w_slices_IndexFunc_api_Required_clo_20_0_ref_3 s f f_c0 hf_f _ hy) ?_
 refine go_ ?_
 refine ch_n fun hU => ?_
 refine aw_r ?_
 obtain rfl := Option.some.inj hg
 exact fin_ [] ⟨rfl, rfl⟩
theorem w_slices_Equal_api_Required (s1 : (List api_Required)) (s2 : (List api_Required)) (r : Bool) (hg : g_slices_Equal_api_Required s1 s2 = some r) : Fn Try.prog 22 0 [.sl 2 (encL api_Required.enc s1), .sl 2 (encL api_Required.enc s2)] [] (fun d' b' => d' = .val (.bool r) ∧ b' = []) := by
 unfold g_slices_Equal_api_Required at hg
 refine Fn.of Try.func22 rfl rfl rfl fun w0 I ρ0 => ?_
 show awp _ ⟨w0, I, ρ0, 0, 0, 26⟩ _ _ _
 refine sr_ 0 8 mk_U ?_
 refine go_ ?_
 refine ch_n fun hU => ?_
 refine awp_seq ?_
 refine sr_ 8 48 hU ?_
 refine go_ ?_
 refine ch_n fun hU => ?_
 refine cg_ rfl hg (fun h3 hg => ?_) fun h3 hg => ?_
 ·refine awp_seq ?_
  refine awp_region (sys _ _ []) 48 56 hU rfl rfl ?_
  refine go_ ?_
  refine ch_n fun hU => ?_
  refine aw_r ?_
  obtain rfl := Option.some.inj hg
  exact fin_ [] ⟨rfl, rfl⟩
 ·refine awp_skip ?_
  repeat first | refine st_ ?_ | refine sn_ ?_
  refine awp_seq ?_
  refine sr_ 48 72 hU ?_
  refine go_ ?_
  refine ch_n fun hU => ?_
  refine awp_block ?_
  refine lp_ (fun (x13_1 : Int) => mk [(0, .sl 2 (encL api_Required.enc s1)), (1, .sl 2 (encL api_Required.enc s2)), (12, .val (.int .i64 (s1.length : Int))), (13, .val (.int .i64 x13_1))] [] 0) hg (sub_ []) ?_
  rintro x13_1 m1 o1 hg hn1
  replace hg : g_slices_Equal_api_Required.l1 s1 s2 x13_1 = some o1 := hg
  show awp _ _ _ _ (mk _ _ _)
  unfold g_slices_Equal_api_Required.l1 at hg
  refine sr_ 0 8 mk_U ?_
  refine go_ ?_
  refine ch_n fun hU => ?_
  refine awp_seq ?_
  refine cg_ rfl hg (fun h7 hg => ?_) fun h7 hg => ?_
  ·refine awp_skip ?_
   repeat first | refine st_ ?_ | refine sn_ ?_
   refine awp_seq ?_
   refine awp_block ?_
   refine sr_ 8 24 hU ?_
   refine go_ ?_
   refine ch_n fun hU => ?_
   refine awp_seq ?_
   refine awp_draw (sys _ _ []) (by kernel_rfl) [0, 0, 3, 7, 0, 0, 48, 112, 255] 24 96 hU rfl rfl (by kernel_rfl) ?_
   refine go_ ?_
   obtain ⟨e, he, hg⟩ := bind_some hg
   refine go_ ?_
   refine c0_ rfl rfl (r_loadEA ty54 (enc_cells api_Required.enc_len (getI_at he) (o := 0) (m := 2) (cs := [.int .i64 e.First, .int .i64 e.Then]) rfl (by decide) rfl) (enc_cells_le api_Required.enc_len (getI_at he) (o := 0) (m := 2) (by decide) rfl)) rfl rfl ?_
   refine go_ ?_
   obtain ⟨e_2, he_2, hg⟩ := bind_some hg
   refine go_ ?_
   refine c0_ rfl rfl (r_loadEA ty54 (enc_cells api_Required.enc_len (getI_at he_2) (o := 0) (m := 2) (cs := [.int .i64 e_2.First, .int .i64 e_2.Then]) rfl (by decide) rfl) (enc_cells_le api_Required.enc_len (getI_at he_2) (o := 0) (m := 2) (by decide) rfl)) rfl rfl ?_
   refine c0_ rfl rfl (steq54_neq e e_2) rfl rfl ?_
   refine ch_n fun hU => ?_
   refine cg_ rfl hg (fun h10 hg => ?_) fun h10 hg => ?_
   ·refine awp_seq ?_
    refine awp_region (sys _ _ []) 96 104 hU rfl rfl ?_
    refine go_ ?_
    refine ch_n fun hU => ?_
    refine aw_r ?_
    replace hg := leave hg hn1
    obtain rfl := Option.some.inj hg
    exact fin_ [] ⟨rfl, rfl⟩
   ·refine awp_skip ?_
    repeat first | refine st_ ?_ | refine sn_ ?_
    refine awp_region (sys _ _ []) 96 112 hU rfl rfl ?_
    refine go_ ?_
    refine ch_n fun hU => ?_
    obtain rfl := Option.some.inj hg
    exact ⟨(W (x13_1 + 1), m1), Nat.lt_succ_self _, hn1, sub_ []⟩
  ·refine awp_exit ?_
   repeat first | refine st_ ?_ | refine sn_ ?_
   replace hg := leave hg hn1
   refine sr_ 8 16 hU ?_
   refine go_ ?_
   refine ch_n fun hU => ?_
   refine aw_r ?_
   obtain rfl := Option.some.inj hg
   exact fin_ [] ⟨rfl, rfl⟩
theorem w_need_reach (n : Int) (l : (List api_Required)) (r : (List (api_Required × Bool))) (hg : g_need_reach n l = some r) : Fn Try.prog 23 0 [.val (.int .i64 n), .sl 2 (encL api_Required.enc l)] [] (fun d' b' => d' = .mp (kvs vv54 vB r) ∧ b' = []) := by
 unfold g_need_reach at hg
 refine Fn.of Try.func23 rfl rfl rfl fun w0 I ρ0 => ?_
 show awp _ ⟨w0, I, ρ0, 0, 0, 53⟩ _ _ _
 refine sr_ 0 8 mk_U ?_
 refine go_ ?_
 refine ch_n fun hU => ?_
 refine sr_ 8 24 hU ?_
 refine ch_x (rd := []) rfl rfl .makeMap rfl rfl (fun _ => ⟨_, rfl⟩) ?_
 rintro _ rfl
 refine go_ ?_
 refine ch_n fun hU => ?_
 refine awp_seq ?_
 refine sr_ 24 48 hU ?_
 refine go_ ?_
 refine ch_n fun hU => ?_
 refine awp_block ?_
 refine lp_ (fun ((x14_1, ways_1) : Int × (List (api_Required × Bool))) => mk [(0, .val (.int .i64 n)), (5, .row 0), (12, .sl 2 (encL api_Required.enc l)), (13, .val (.int .i64 (l.length : Int))), (14, .val (.int .i64 x14_1))] [(0, .map (kvs vv54 vB ways_1))] 1) hg ((by exact Sub.lists [(0, 8)] rfl rfl ⟨⟨_, rfl, .val _⟩, ⟨_, rfl, .row rfl⟩, ⟨_, rfl, .sl _ _⟩, ⟨_, rfl, .val _⟩, ⟨_, rfl, .val _⟩, trivial⟩ ⟨.inl ⟨8, _, rfl, rfl, rfl⟩, trivial⟩)) ?_
 rintro ⟨x14_1, ways_1⟩ m1 o1 hg hn1
 replace hg : g_need_reach.l1 n l x14_1 ways_1 = some o1 := hg
 show awp _ _ _ _ (mk _ _ _)
 unfold g_need_reach.l1 at hg
 refine sr_ 1 9 mk_U ?_
 refine go_ ?_
 refine ch_n fun hU => ?_
 refine awp_seq ?_
 refine cg_ rfl hg (fun h5 hg => ?_) fun h5 hg => ?_
 ·refine awp_skip ?_
  repeat first | refine st_ ?_ | refine sn_ ?_
  refine awp_seq ?_
  refine awp_block ?_
  refine sr_ 9 41 hU ?_
  obtain ⟨e, he, hg⟩ := bind_some hg
  refine go_ ?_
  refine c0_ rfl rfl (r_loadEA ty54 (enc_cells api_Required.enc_len (getI_at he) (o := 0) (m := 2) (cs := [.int .i64 e.First, .int .i64 e.Then]) rfl (by decide) rfl) (enc_cells_le api_Required.enc_len (getI_at he) (o := 0) (m := 2) (by decide) rfl)) rfl rfl ?_
  refine go_ ?_
  refine ch_n fun hU => ?_
  refine awp_region (sys _ _ []) 41 65 hU rfl rfl ?_
  refine go_ ?_
  refine ch_x (rd := [0]) rfl rfl (x_mapPut (f := vv54) (g := vB) (l := ways_1) (key := e) (v := true) undm58 keyt54 rfl rfl (.head _)) rfl rfl (fun _ => ⟨_, rfl⟩) ?_
  rintro _ rfl
  refine ch_n fun hU => ?_
  refine awp_region (sys _ _ []) 65 81 hU rfl rfl ?_
  refine go_ ?_
  refine ch_n fun hU => ?_
  obtain rfl := Option.some.inj hg
  exact ⟨((W (x14_1 + 1), mapPut ways_1 e true), m1), Nat.lt_succ_self _, hn1, (by exact Sub.lists [(0, 0)] rfl rfl ⟨⟨_, rfl, .val _⟩, ⟨_, rfl, .row rfl⟩, ⟨_, rfl, .sl _ _⟩, ⟨_, rfl, .val _⟩, ⟨_, rfl, .val _⟩, trivial⟩ ⟨.inl ⟨0, _, rfl, rfl, rfl⟩, trivial⟩)⟩
 ·refine awp_exit ?_
  repeat first | refine st_ ?_ | refine sn_ ?_
  replace hg := leave hg hn1
  refine awp_seq ?_
  refine sr_ 9 25 hU ?_
  refine go_ ?_
  refine ch_n fun hU => ?_
  refine awp_block ?_
  refine lp_ (fun ((x22_2, ways_2) : Int × (List (api_Required × Bool))) => mk [(0, .val (.int .i64 n)), (5, .row 0), (21, .val (.int .i64 n)), (22, .val (.int .i64 x22_2))] [(0, .map (kvs vv54 vB ways_2))] 1) hg ((by exact Sub.lists [(0, 0)] rfl rfl ⟨⟨_, rfl, .val _⟩, ⟨_, rfl, .row rfl⟩, ⟨_, rfl, .val _⟩, ⟨_, rfl, .val _⟩, trivial⟩ ⟨.inl ⟨0, _, rfl, rfl, rfl⟩, trivial⟩)) ?_
  rintro ⟨x22_2, ways_2⟩ m2 o2 hg hn2
  replace hg : g_need_reach.l2 n x22_2 ways_2 = some o2 := hg
  show awp _ _ _ _ (mk _ _ _)
  unfold g_need_reach.l2 at hg
  refine sr_ 1 9 mk_U ?_
  refine go_ ?_
  refine ch_n fun hU => ?_
  refine awp_seq ?_
  refine cg_ rfl hg (fun h11 hg => ?_) fun h11 hg => ?_
  ·refine awp_skip ?_
   repeat first | refine st_ ?_ | refine sn_ ?_
   refine awp_seq ?_
   refine awp_block ?_
   refine sr_ 9 25 hU ?_
   refine go_ ?_
   refine ch_n fun hU => ?_
   refine sr_ 25 41 hU ?_
   refine go_ ?_
   refine ch_n fun hU => ?_
   refine awp_block ?_
   refine lp_ (fun ((x26_3, ways_3) : Int × (List (api_Required × Bool))) => mk [(0, .val (.int .i64 n)), (5, .row 0), (8, .val (.int .i64 x22_2)), (21, .val (.int .i64 n)), (22, .val (.int .i64 x22_2)), (25, .val (.int .i64 n)), (26, .val (.int .i64 x26_3))] [(0, .map (kvs vv54 vB ways_3))] 1) hg ((by exact Sub.lists [(0, 0)] rfl rfl ⟨⟨_, rfl, .val _⟩, ⟨_, rfl, .row rfl⟩, ⟨_, rfl, .val _⟩, ⟨_, rfl, .val _⟩, ⟨_, rfl, .val _⟩, ⟨_, rfl, .val _⟩, ⟨_, rfl, .val _⟩, trivial⟩ ⟨.inl ⟨0, _, rfl, rfl, rfl⟩, trivial⟩)) ?_
   rintro ⟨x26_3, ways_3⟩ m3 o3 hg hn3
   replace hg : g_need_reach.l3 n x22_2 x26_3 ways_3 = some o3 := hg
   show awp _ _ _ _ (mk _ _ _)
   unfold g_need_reach.l3 at hg
   refine sr_ 1 9 mk_U ?_
   refine go_ ?_
   refine ch_n fun hU => ?_
   refine awp_seq ?_
   refine cg_ rfl hg (fun h15 hg => ?_) fun h15 hg => ?_
   ·refine awp_skip ?_
    repeat first | refine st_ ?_ | refine sn_ ?_
    refine awp_seq ?_
    refine awp_block ?_
    refine sr_ 9 25 hU ?_
    refine go_ ?_
    refine ch_n fun hU => ?_
    refine sr_ 25 41 hU ?_
    refine go_ ?_
    refine ch_n fun hU => ?_
    refine awp_block ?_
    refine lp_ (fun ((x30_4, ways_4) : Int × (List (api_Required × Bool))) => mk [(0, .val (.int .i64 n)), (5, .row 0), (8, .val (.int .i64 x22_2)), (9, .val (.int .i64 x26_3)), (21, .val (.int .i64 n)), (22, .val (.int .i64 x22_2)), (25, .val (.int .i64 n)), (26, .val (.int .i64 x26_3)), (29, .val (.int .i64 n)), (30, .val (.int .i64 x30_4))] [(0, .map (kvs vv54 vB ways_4))] 1) hg ((by exact Sub.lists [(0, 0)] rfl rfl ⟨⟨_, rfl, .val _⟩, ⟨_, rfl, .row rfl⟩, ⟨_, rfl, .val _⟩, ⟨_, rfl, .val _⟩, ⟨_, rfl, .val _⟩, ⟨_, rfl, .val _⟩, ⟨_, rfl, .val _⟩, ⟨_, rfl, .val _⟩, ⟨_, rfl, .val _⟩, ⟨_, rfl, .val _⟩, trivial⟩ ⟨.inl ⟨0, _, rfl, rfl, rfl⟩, trivial⟩)) ?_
    rintro ⟨x30_4, ways_4⟩ m4 o4 hg hn4
    replace hg : g_need_reach.l4 n x22_2 x26_3 x30_4 ways_4 = some o4 := hg
    show awp _ _ _ _ (mk _ _ _)
    unfold g_need_reach.l4 at hg
    refine sr_ 1 9 mk_U ?_
    refine go_ ?_
    refine ch_n fun hU => ?_
    refine awp_seq ?_
    refine cg_ rfl hg (fun h19 hg => ?_) fun h19 hg => ?_
    ·refine awp_skip ?_
     repeat first | refine st_ ?_ | refine sn_ ?_
     refine awp_cut (ι := (List (api_Required × Bool))) (fun (ways_6 : (List (api_Required × Bool))) => mk [(0, .val (.int .i64 n)), (5, .row 0), (8, .val (.int .i64 x22_2)), (9, .val (.int .i64 x26_3)), (21, .val (.int .i64 n)), (22, .val (.int .i64 x22_2)), (25, .val (.int .i64 n)), (26, .val (.int .i64 x26_3)), (29, .val (.int .i64 n)), (30, .val (.int .i64 x30_4))] [(0, .map (kvs vv54 vB ways_6))] 1) (fun (ways_6 : (List (api_Required × Bool))) => g_need_reach.j6 x30_4 ways_6 = some o4) ?_ ?_
     ·refine awp_block ?_
      refine sr_ 9 25 hU ?_
      refine go_ ?_
      refine ch_n fun hU => ?_
      refine awp_cut (ι := Bool) (fun (x44_5 : Bool) => mk [(0, .val (.int .i64 n)), (5, .row 0), (8, .val (.int .i64 x22_2)), (9, .val (.int .i64 x26_3)), (10, .val (.int .i64 x30_4)), (21, .val (.int .i64 n)), (22, .val (.int .i64 x22_2)), (25, .val (.int .i64 n)), (26, .val (.int .i64 x26_3)), (29, .val (.int .i64 n)), (30, .val (.int .i64 x30_4)), (44, .val (.bool x44_5))] [(0, .map (kvs vv54 vB ways_4))] 1) (fun (x44_5 : Bool) => g_need_reach.j5 x26_3 x30_4 ways_4 x44_5 = some o4) ?_ ?_
      ·refine awp_region (sys _ _ []) 25 121 hU rfl rfl ?_
       refine go_ ?_
       refine c0_ rfl rfl (.build (r := [.val (.int .i64 x26_3), .val (.int .i64 x22_2)]) und54 pl54 z54 (by kernel_rfl) rfl) rfl rfl ?_
       refine ch_x (rd := [0]) rfl rfl (x_mapGet (f := vv54) (g := vB) (l := ways_4) (key := (api_Required.mk x26_3 x22_2)) (z := false) undm58 keyt54 zv4 rfl rfl (.head _)) rfl rfl (fun _ => ⟨_, rfl⟩) ?_
       rintro _ rfl
       refine go_ ?_
       rcases bc_ hg with ⟨h21, hg⟩ | ⟨h21, hg⟩
       ·refine go_ ?_
        refine c0_ (gdv_t rfl rfl h21) rfl (.build (r := [.val (.int .i64 x22_2), .val (.int .i64 x30_4)]) und54 pl54 z54 (by kernel_rfl) rfl) rfl rfl ?_
        refine ch_x (rd := [0]) (gdv_t rfl rfl h21) rfl (x_mapGet (f := vv54) (g := vB) (l := ways_4) (key := (api_Required.mk x22_2 x30_4)) (z := false) undm58 keyt54 zv4 rfl rfl (.head _)) rfl rfl (fun _ => ⟨_, rfl⟩) ?_
        rintro _ rfl
        refine go_ ?_
        refine ch_n fun hU => ?_
        exact ⟨(mapGet ways_4 (api_Required.mk x22_2 x30_4) false), hg, (by exact Sub.lists [(0, 0)] rfl rfl ⟨⟨_, rfl, .val _⟩, ⟨_, rfl, .row rfl⟩, ⟨_, rfl, .val _⟩, ⟨_, rfl, .val _⟩, ⟨_, rfl, .val _⟩, ⟨_, rfl, .val _⟩, ⟨_, rfl, .val _⟩, ⟨_, rfl, .val _⟩, ⟨_, rfl, .val _⟩, ⟨_, rfl, .val _⟩, ⟨_, rfl, .val _⟩, ⟨_, rfl, .val _⟩, trivial⟩ ⟨.inl ⟨0, _, rfl, rfl, rfl⟩, trivial⟩)⟩
       ·refine go_ ?_
        refine ch_n fun hU => ?_
        exact ⟨false, hg, (by exact Sub.lists [(0, 0)] rfl rfl ⟨⟨_, rfl, .val _⟩, ⟨_, rfl, .row rfl⟩, ⟨_, rfl, .val _⟩, ⟨_, rfl, .val _⟩, ⟨_, rfl, .val _⟩, ⟨_, rfl, .val _⟩, ⟨_, rfl, .val _⟩, ⟨_, rfl, .val _⟩, ⟨_, rfl, .val _⟩, ⟨_, rfl, .val _⟩, ⟨_, rfl, .val _⟩, ⟨_, rfl, .val _⟩, trivial⟩ ⟨.inl ⟨0, _, rfl, rfl, rfl⟩, trivial⟩)⟩
      ·rintro x44_5 hg
       replace hg : g_need_reach.j5 x26_3 x30_4 ways_4 x44_5 = some o4 := hg
       show awp _ _ _ _ (mk _ _ _)
       unfold g_need_reach.j5 at hg
       refine cg_ rfl hg (fun h24 hg => ?_) fun h24 hg => ?_
       ·refine awp_region (sys _ _ []) 1 41 mk_U rfl rfl ?_
        refine go_ ?_
        refine c0_ rfl rfl (.build (r := [.val (.int .i64 x26_3), .val (.int .i64 x30_4)]) und54 pl54 z54 (by kernel_rfl) rfl) rfl rfl ?_
        refine ch_x (rd := [0]) rfl rfl (x_mapPut (f := vv54) (g := vB) (l := ways_4) (key := (api_Required.mk x26_3 x30_4)) (v := true) undm58 keyt54 rfl rfl (.head _)) rfl rfl (fun _ => ⟨_, rfl⟩) ?_
        rintro _ rfl
        refine ch_n fun hU => ?_
        exact ⟨mapPut ways_4 (api_Required.mk x26_3 x30_4) true, hg, (by exact Sub.lists [(0, 0)] rfl rfl ⟨⟨_, rfl, .val _⟩, ⟨_, rfl, .row rfl⟩, ⟨_, rfl, .val _⟩, ⟨_, rfl, .val _⟩, ⟨_, rfl, .val _⟩, ⟨_, rfl, .val _⟩, ⟨_, rfl, .val _⟩, ⟨_, rfl, .val _⟩, ⟨_, rfl, .val _⟩, ⟨_, rfl, .val _⟩, trivial⟩ ⟨.inl ⟨0, _, rfl, rfl, rfl⟩, trivial⟩)⟩
       ·refine awp_skip ?_
        repeat first | refine st_ ?_ | refine sn_ ?_
        exact ⟨ways_4, hg, (by exact Sub.lists [(0, 0)] rfl rfl ⟨⟨_, rfl, .val _⟩, ⟨_, rfl, .row rfl⟩, ⟨_, rfl, .val _⟩, ⟨_, rfl, .val _⟩, ⟨_, rfl, .val _⟩, ⟨_, rfl, .val _⟩, ⟨_, rfl, .val _⟩, ⟨_, rfl, .val _⟩, ⟨_, rfl, .val _⟩, ⟨_, rfl, .val _⟩, trivial⟩ ⟨.inl ⟨0, _, rfl, rfl, rfl⟩, trivial⟩)⟩
     ·rintro ways_6 hg
      replace hg : g_need_reach.j6 x30_4 ways_6 = some o4 := hg
      show awp _ _ _ _ (mk _ _ _)
      unfold g_need_reach.j6 at hg
      refine awp_region (sys _ _ []) 1 17 mk_U rfl rfl ?_
      refine go_ ?_
      refine ch_n fun hU => ?_
      obtain rfl := Option.some.inj hg
      exact ⟨((W (x30_4 + 1), ways_6), m4), Nat.lt_succ_self _, hn4, (by exact Sub.lists [(0, 0)] rfl rfl ⟨⟨_, rfl, .val _⟩, ⟨_, rfl, .row rfl⟩, ⟨_, rfl, .val _⟩, ⟨_, rfl, .val _⟩, ⟨_, rfl, .val _⟩, ⟨_, rfl, .val _⟩, ⟨_, rfl, .val _⟩, ⟨_, rfl, .val _⟩, ⟨_, rfl, .val _⟩, ⟨_, rfl, .val _⟩, trivial⟩ ⟨.inl ⟨0, _, rfl, rfl, rfl⟩, trivial⟩)⟩
    ·refine awp_exit ?_
     repeat first | refine st_ ?_ | refine sn_ ?_
     replace hg := leave hg hn4
     refine awp_region (sys _ _ []) 9 25 hU rfl rfl ?_
     refine go_ ?_
     refine ch_n fun hU => ?_
     obtain rfl := Option.some.inj hg
     exact ⟨((W (x26_3 + 1), ways_4), m3), Nat.lt_succ_self _, hn3, (by exact Sub.lists [(0, 0)] rfl rfl ⟨⟨_, rfl, .val _⟩, ⟨_, rfl, .row rfl⟩, ⟨_, rfl, .val _⟩, ⟨_, rfl, .val _⟩, ⟨_, rfl, .val _⟩, ⟨_, rfl, .val _⟩, ⟨_, rfl, .val _⟩, trivial⟩ ⟨.inl ⟨0, _, rfl, rfl, rfl⟩, trivial⟩)⟩
   ·refine awp_exit ?_
    repeat first | refine st_ ?_ | refine sn_ ?_
    replace hg := leave hg hn3
    refine awp_region (sys _ _ []) 9 25 hU rfl rfl ?_
    refine go_ ?_
    refine ch_n fun hU => ?_
    obtain rfl := Option.some.inj hg
    exact ⟨((W (x22_2 + 1), ways_3), m2), Nat.lt_succ_self _, hn2, (by exact Sub.lists [(0, 0)] rfl rfl ⟨⟨_, rfl, .val _⟩, ⟨_, rfl, .row rfl⟩, ⟨_, rfl, .val _⟩, ⟨_, rfl, .val _⟩, trivial⟩ ⟨.inl ⟨0, _, rfl, rfl, rfl⟩, trivial⟩)⟩
  ·refine awp_exit ?_
   repeat first | refine st_ ?_ | refine sn_ ?_
   replace hg := leave hg hn2
   refine sr_ 9 25 hU ?_
   refine go_ ?_
   refine ch_n fun hU => ?_
   refine aw_r ?_
   obtain rfl := Option.some.inj hg
   exact fin_ [] ⟨rfl, rfl⟩
theorem w_need_Reduce (n : Int) (l : (List api_Required)) (r : (List api_Required) × Int) (hg : g_need_Reduce n l = some r) : Fn Try.prog 13 0 [.val (.int .i64 n), .sl 2 (encL api_Required.enc l)] [] (fun d' b' => d' = .tup [.sl 2 (encL api_Required.enc r.1), .val (.int .i64 r.2)] ∧ b' = []) := by
 unfold g_need_Reduce at hg
 refine Fn.of Try.func13 rfl rfl rfl fun w0 I ρ0 => ?_
 show awp _ ⟨w0, I, ρ0, 0, 0, 81⟩ _ _ _
 refine sr_ 0 24 mk_U ?_
 refine go_ ?_
 refine ch_n fun hU => ?_
 refine awp_seq ?_
 refine awp_sub (σ' := mk [(1, .sl 2 (encL api_Required.enc l)), (2, .elt (([.int .i64 n] : List C).drop 0))] [] 0) ((by exact Sub.lists [] rfl rfl ⟨⟨_, rfl, .sl _ _⟩, ⟨_, rfl, .frzb (ks := [none]) rfl (.cons .int .nil) (look_ne rfl)⟩, trivial⟩ trivial)) ?_
 refine awp_region (sys _ _ []) 0 16 mk_U rfl rfl ?_
 refine go_ ?_
 refine ch_n fun hU => ?_
 refine awp_seq ?_
 refine awp_block ?_
 refine awp_cut (ι := Bool) (fun (x15_2 : Bool) => mk [(1, .sl 2 (encL api_Required.enc l)), (2, .elt (([.int .i64 n] : List C).drop 0)), (6, .clo 20 0 [.elt (([.int .i64 n] : List C).drop 0)]), (15, .val (.bool x15_2))] [] 0) (fun (x15_2 : Bool) => g_need_Reduce.j2 n l x15_2 = some r) ?_ ?_
 ·refine awp_region (sys _ _ []) 16 72 hU rfl rfl ?_
  refine c0_ rfl rfl (r_loadE1 ty3 (c := .int .i64 n) rfl) rfl rfl ?_
  refine go_ ?_
  rcases bc_ hg with ⟨h3, hg⟩ | ⟨h3, hg⟩
  ·refine go_ ?_
   refine ch_n fun hU => ?_
   exact ⟨true, hg, sub_ []⟩
  ·refine c0_ (gdv_t rfl rfl h3) rfl (r_loadE1 ty3 (c := .int .i64 n) rfl) rfl rfl ?_
   refine go_ ?_
   refine ch_n fun hU => ?_
   exact ⟨decide (24 < n), hg, sub_ []⟩
 ·rintro x15_2 hg
  replace hg : g_need_Reduce.j2 n l x15_2 = some r := hg
  show awp _ _ _ _ (mk _ _ _)
  unfold g_need_Reduce.j2 at hg
  refine cg_ rfl hg (fun h6 hg => ?_) fun h6 hg => ?_
  ·refine awp_seq ?_
   refine awp_region (sys _ _ []) 0 16 mk_U rfl rfl ?_
   refine go_ ?_
   refine ch_n fun hU => ?_
   refine aw_r ?_
   obtain rfl := Option.some.inj hg
   exact fin_ [] ⟨rfl, rfl⟩
  ·refine awp_seq ?_
   refine awp_region (sys _ _ []) 0 32 mk_U rfl rfl ?_
   refine go_ ?_
   obtain ⟨y, hy, hg⟩ := bind_some hg
   refine ca_ (w_slices_ContainsFunc_api_Required_clo_20_0_ref_3 l (fun x0 => g_need_Reduce_c1 x0 n) n (fun x0 y h => w_need_Reduce_c1 x0 n y h) _ hy) ?_
   refine go_ ?_
   refine ch_n fun hU => ?_
   refine cg_ rfl hg (fun h9 hg => ?_) fun h9 hg => ?_
   ·refine awp_seq ?_
    refine awp_region (sys _ _ []) 32 48 hU rfl rfl ?_
    refine go_ ?_
    refine ch_n fun hU => ?_
    refine aw_r ?_
    obtain rfl := Option.some.inj hg
    exact fin_ [] ⟨rfl, rfl⟩
   ·refine awp_seq ?_
    refine awp_region (sys _ _ []) 32 80 hU rfl rfl ?_
    refine go_ ?_
    obtain ⟨y_2, hy_2, hg⟩ := bind_some hg
    refine ca_ (w_need_sorted _ _ hy_2) ?_
    refine go_ ?_
    obtain ⟨y_3, hy_3, hg⟩ := bind_some hg
    refine ca_ (w_slices_Equal_api_Required _ _ _ hy_3) ?_
    refine go_ ?_
    refine ch_n fun hU => ?_
    refine cg_ rfl hg (fun h12 hg => ?_) fun h12 hg => ?_
    ·refine awp_seq ?_
     refine awp_region (sys _ _ []) 80 96 hU rfl rfl ?_
     refine go_ ?_
     refine ch_n fun hU => ?_
     refine aw_r ?_
     obtain rfl := Option.some.inj hg
     exact fin_ [] ⟨rfl, rfl⟩
    ·refine awp_skip ?_
     repeat first | refine st_ ?_ | refine sn_ ?_
     refine sr_ 80 112 hU ?_
     refine c0_ rfl rfl (r_loadE1 ty3 (c := .int .i64 n) rfl) rfl rfl ?_
     refine go_ ?_
     obtain ⟨y_4, hy_4, hg⟩ := bind_some hg
     refine ca_ (w_need_reach _ _ _ hy_4) ?_
     refine go_ ?_
     refine ch_n fun hU => ?_
     refine awp_seq ?_
     refine sr_ 112 128 hU ?_
     refine c0_ rfl rfl (r_loadE1 ty3 (c := .int .i64 n) rfl) rfl rfl ?_
     refine go_ ?_
     refine ch_n fun hU => ?_
     refine awp_block ?_
     refine lp_ (fun (x36_3 : Int) => mk [(1, .sl 2 (encL api_Required.enc l)), (2, .elt (([.int .i64 n] : List C).drop 0)), (7, .mp (kvs vv54 vB y_4)), (35, .val (.int .i64 n)), (36, .val (.int .i64 x36_3))] [] 0) hg (sub_ []) ?_
     rintro x36_3 m3 o3 hg hn3
     replace hg : g_need_Reduce.l3 n l y_4 x36_3 = some o3 := hg
     show awp _ _ _ _ (mk _ _ _)
     unfold g_need_Reduce.l3 at hg
     refine sr_ 0 8 mk_U ?_
     refine go_ ?_
     refine ch_n fun hU => ?_
     refine awp_seq ?_
     refine cg_ rfl hg (fun h17 hg => ?_) fun h17 hg => ?_
     ·refine awp_skip ?_
      repeat first | refine st_ ?_ | refine sn_ ?_
      refine awp_seq ?_
      refine awp_block ?_
      refine sr_ 8 24 hU ?_
      refine go_ ?_
      refine ch_n fun hU => ?_
      refine sr_ 24 64 hU ?_
      refine go_ ?_
      refine c0_ rfl rfl (.build (r := [.val (.int .i64 x36_3), .val (.int .i64 x36_3)]) und54 pl54 z54 (by kernel_rfl) rfl) rfl rfl ?_
      refine ch_x (rd := []) rfl rfl (x_mpGet (f := vv54) (g := vB) (l := y_4) (key := (api_Required.mk x36_3 x36_3)) (z := false) undm58 keyt54 zv4 rfl rfl) rfl rfl (fun _ => ⟨_, rfl⟩) ?_
      rintro _ rfl
      refine ch_n fun hU => ?_
      refine cg_ rfl hg (fun h20 hg => ?_) fun h20 hg => ?_
      ·refine awp_seq ?_
       refine awp_region (sys _ _ []) 64 80 hU rfl rfl ?_
       refine go_ ?_
       refine ch_n fun hU => ?_
       refine aw_r ?_
       replace hg := leave hg hn3
       obtain rfl := Option.some.inj hg
       exact fin_ [] ⟨rfl, rfl⟩
      ·refine awp_skip ?_
       repeat first | refine st_ ?_ | refine sn_ ?_
       refine awp_region (sys _ _ []) 64 80 hU rfl rfl ?_
       refine go_ ?_
       refine ch_n fun hU => ?_
       obtain rfl := Option.some.inj hg
       exact ⟨(W (x36_3 + 1), m3), Nat.lt_succ_self _, hn3, sub_ []⟩
     ·refine awp_exit ?_
      repeat first | refine st_ ?_ | refine sn_ ?_
      replace hg := leave hg hn3
      refine sr_ 8 16 hU ?_
      refine go_ ?_
      refine ch_n fun hU => ?_
      refine awp_seq ?_
      refine sr_ 16 40 hU ?_
      refine go_ ?_
      refine ch_n fun hU => ?_
      refine awp_block ?_
      refine lp_ (fun ((x47_4, out_4) : Int × List api_Required) => mk [(2, .elt (([.int .i64 n] : List C).drop 0)), (7, .mp (kvs vv54 vB y_4)), (9, .row 0), (45, .sl 2 (encL api_Required.enc l)), (46, .val (.int .i64 (l.length : Int))), (47, .val (.int .i64 x47_4))] [(0, .row 54 2 (encL api_Required.enc out_4))] 1) hg (sub_ []) ?_
      rintro ⟨x47_4, out_4⟩ m4 o4 hg hn4
      replace hg : g_need_Reduce.l4 n l y_4 x47_4 out_4 = some o4 := hg
      show awp _ _ _ _ (mk _ _ _)
      unfold g_need_Reduce.l4 at hg
      refine sr_ 1 9 mk_U ?_
      refine go_ ?_
      refine ch_n fun hU => ?_
      refine awp_seq ?_
      refine cg_ rfl hg (fun h26 hg => ?_) fun h26 hg => ?_
      ·refine awp_skip ?_
       repeat first | refine st_ ?_ | refine sn_ ?_
       refine awp_cut (ι := List api_Required) (fun (out_7 : List api_Required) => mk [(2, .elt (([.int .i64 n] : List C).drop 0)), (7, .mp (kvs vv54 vB y_4)), (9, .row 0), (45, .sl 2 (encL api_Required.enc l)), (46, .val (.int .i64 (l.length : Int))), (47, .val (.int .i64 x47_4))] [(0, .row 54 2 (encL api_Required.enc out_7))] 1) (fun (out_7 : List api_Required) => g_need_Reduce.j7 x47_4 out_7 = some o4) ?_ ?_
       ·refine awp_block ?_
        refine sr_ 9 41 hU ?_
        obtain ⟨e, he, hg⟩ := bind_some hg
        refine go_ ?_
        refine c0_ rfl rfl (r_loadEA ty54 (enc_cells api_Required.enc_len (getI_at he) (o := 0) (m := 2) (cs := [.int .i64 e.First, .int .i64 e.Then]) rfl (by decide) rfl) (enc_cells_le api_Required.enc_len (getI_at he) (o := 0) (m := 2) (by decide) rfl)) rfl rfl ?_
        refine go_ ?_
        refine ch_n fun hU => ?_
        refine sr_ 41 49 hU ?_
        refine go_ ?_
        refine ch_n fun hU => ?_
        refine awp_seq ?_
        refine sr_ 49 65 hU ?_
        refine c0_ rfl rfl (r_loadE1 ty3 (c := .int .i64 n) rfl) rfl rfl ?_
        refine go_ ?_
        refine ch_n fun hU => ?_
        refine awp_block ?_
        refine lp_ (fun ((longer_5, x52_5) : Bool × Int) => mk [(2, .elt (([.int .i64 n] : List C).drop 0)), (7, .mp (kvs vv54 vB y_4)), (9, .row 0), (11, .ptr 1 0), (12, .val (.bool longer_5)), (45, .sl 2 (encL api_Required.enc l)), (46, .val (.int .i64 (l.length : Int))), (47, .val (.int .i64 x47_4)), (51, .val (.int .i64 n)), (52, .val (.int .i64 x52_5))] [(0, .row 54 2 (encL api_Required.enc out_4)), (1, .box [.val (.int .i64 e.First), .val (.int .i64 e.Then)] 54)] 2) hg (sub_ [(0, 0), (1, 25)]) ?_
        rintro ⟨longer_5, x52_5⟩ m5 o5 hg hn5
        replace hg : g_need_Reduce.l5 n y_4 x47_4 out_4 e longer_5 x52_5 = some o5 := hg
        show awp _ _ _ _ (mk _ _ _)
        unfold g_need_Reduce.l5 at hg
        refine sr_ 2 10 mk_U ?_
        refine go_ ?_
        refine ch_n fun hU => ?_
        refine awp_seq ?_
        refine cg_ rfl hg (fun h31 hg => ?_) fun h31 hg => ?_
        ·refine awp_skip ?_
         repeat first | refine st_ ?_ | refine sn_ ?_
         refine awp_cut (ι := Bool) (fun (longer_6 : Bool) => mk [(2, .elt (([.int .i64 n] : List C).drop 0)), (7, .mp (kvs vv54 vB y_4)), (9, .row 0), (11, .ptr 1 0), (12, .val (.bool longer_6)), (45, .sl 2 (encL api_Required.enc l)), (46, .val (.int .i64 (l.length : Int))), (47, .val (.int .i64 x47_4)), (51, .val (.int .i64 n)), (52, .val (.int .i64 x52_5))] [(0, .row 54 2 (encL api_Required.enc out_4)), (1, .box [.val (.int .i64 e.First), .val (.int .i64 e.Then)] 54)] 2) (fun (longer_6 : Bool) => g_need_Reduce.j6 x52_5 longer_6 = some o5) ?_ ?_
         ·refine awp_block ?_
          refine sr_ 10 26 hU ?_
          refine go_ ?_
          refine ch_n fun hU => ?_
          refine awp_region (sys _ _ []) 26 170 hU rfl rfl ?_
          refine go_ ?_
          rcases bc_ hg with ⟨h33, hg⟩ | ⟨h33, hg⟩
          ·refine go_ ?_
           refine ch_n fun hU => ?_
           exact ⟨true, hg, sub_ [(0, 0), (1, 1)]⟩
          ·refine go_ ?_
           refine c0_ (gdv_t rfl rfl h33) rfl (.build (r := [.val (.int .i64 e.First), .val (.int .i64 x52_5)]) und54 pl54 z54 (by kernel_rfl) rfl) rfl rfl ?_
           refine ch_x (rd := []) (gdv_t rfl rfl h33) rfl (x_mpGet (f := vv54) (g := vB) (l := y_4) (key := (api_Required.mk e.First x52_5)) (z := false) undm58 keyt54 zv4 rfl rfl) rfl rfl (fun _ => ⟨_, rfl⟩) ?_
           rintro _ rfl
           refine go_ ?_
           rcases bc_ hg with ⟨h35, hg⟩ | ⟨h35, hg⟩
           ·refine go_ ?_
            refine c0_ (gdv_t rfl rfl h35) rfl (.build (r := [.val (.int .i64 x52_5), .val (.int .i64 e.Then)]) und54 pl54 z54 (by kernel_rfl) rfl) rfl rfl ?_
            refine ch_x (rd := []) (gdv_t rfl rfl h35) rfl (x_mpGet (f := vv54) (g := vB) (l := y_4) (key := (api_Required.mk x52_5 e.Then)) (z := false) undm58 keyt54 zv4 rfl rfl) rfl rfl (fun _ => ⟨_, rfl⟩) ?_
            rintro _ rfl
            refine go_ ?_
            refine ch_n fun hU => ?_
            exact ⟨(mapGet y_4 (api_Required.mk x52_5 e.Then) false), hg, sub_ [(0, 0), (1, 1)]⟩
           ·refine go_ ?_
            refine ch_n fun hU => ?_
            exact ⟨false, hg, sub_ [(0, 0), (1, 1)]⟩
         ·rintro longer_6 hg
          replace hg : g_need_Reduce.j6 x52_5 longer_6 = some o5 := hg
          show awp _ _ _ _ (mk _ _ _)
          unfold g_need_Reduce.j6 at hg
          refine awp_region (sys _ _ []) 2 18 mk_U rfl rfl ?_
          refine go_ ?_
          refine ch_n fun hU => ?_
          obtain rfl := Option.some.inj hg
          exact ⟨((longer_6, W (x52_5 + 1)), m5), Nat.lt_succ_self _, hn5, sub_ [(0, 0), (1, 1)]⟩
        ·refine awp_exit ?_
         repeat first | refine st_ ?_ | refine sn_ ?_
         replace hg := leave hg hn5
         refine sr_ 10 26 hU ?_
         refine go_ ?_
         refine ch_n fun hU => ?_
         refine cg_ rfl hg (fun h40 hg => ?_) fun h40 hg => ?_
         ·refine awp_region (sys _ _ []) 26 66 hU rfl rfl ?_
          refine go_ ?_
          refine c0_ rfl rfl (r_buildFull sl27 z54 (by decide) rfl rfl rfl rfl ck54 (cs := [.int .i64 e.First, .int .i64 e.Then]) (.cons .int (.cons .int .nil)) rfl (l := ([e] : List api_Required)) (f := api_Required.enc) rfl) rfl rfl ?_
          obtain ⟨l_2, hl_2, hg⟩ := bind_some hg
          refine ch_s (rd := [0, 42]) rfl rfl (r_append sl27 api_Required.enc_len .row rfl .row rfl hl_2 rfl) rfl rfl ?_
          refine go_ ?_
          refine ch_n fun hU => ?_
          exact ⟨l_2, hg, sub_ [(0, 50)]⟩
         ·refine awp_skip ?_
          repeat first | refine st_ ?_ | refine sn_ ?_
          exact ⟨out_4, hg, sub_ [(0, 0)]⟩
       ·rintro out_7 hg
        replace hg : g_need_Reduce.j7 x47_4 out_7 = some o4 := hg
        show awp _ _ _ _ (mk _ _ _)
        unfold g_need_Reduce.j7 at hg
        refine awp_region (sys _ _ []) 1 17 mk_U rfl rfl ?_
        refine go_ ?_
        refine ch_n fun hU => ?_
        obtain rfl := Option.some.inj hg
        exact ⟨((W (x47_4 + 1), out_7), m4), Nat.lt_succ_self _, hn4, sub_ [(0, 0)]⟩
      ·refine awp_exit ?_
       repeat first | refine st_ ?_ | refine sn_ ?_
       replace hg := leave hg hn4
       refine sr_ 9 33 hU ?_
       refine go_ ?_
       refine ch_n fun hU => ?_
       refine aw_r ?_
       obtain rfl := Option.some.inj hg
       exact fin_ [] ⟨rfl, rfl⟩
theorem w_law28_same (a : (List (List Bool))) (b : (List (List Bool))) (r : Bool) (hg : g_law28_same a b = some r) : Fn Try.prog 14 0 [.sl 1 (encL (eL 1 eB) a), .sl 1 (encL (eL 1 eB) b)] [] (fun d' b' => d' = .val (.bool r) ∧ b' = []) := by
 unfold g_law28_same at hg
 refine Fn.of Try.func14 rfl rfl rfl fun w0 I ρ0 => ?_
 show awp _ ⟨w0, I, ρ0, 0, 0, 37⟩ _ _ _
 refine sr_ 0 8 mk_U ?_
 refine go_ ?_
 refine ch_n fun hU => ?_
 refine awp_seq ?_
 refine sr_ 8 32 hU ?_
 refine go_ ?_
 refine ch_n fun hU => ?_
 refine awp_block ?_
 refine lp_ (fun (x9_1 : Int) => mk [(0, .sl 1 (encL (eL 1 eB) a)), (1, .sl 1 (encL (eL 1 eB) b)), (8, .val (.int .i64 (a.length : Int))), (9, .val (.int .i64 x9_1))] [] 0) hg (sub_ []) ?_
 rintro x9_1 m1 o1 hg hn1
 replace hg : g_law28_same.l1 a b x9_1 = some o1 := hg
 show awp _ _ _ _ (mk _ _ _)
 unfold g_law28_same.l1 at hg
 refine sr_ 0 8 mk_U ?_
 refine go_ ?_
 refine ch_n fun hU => ?_
 refine awp_seq ?_
 refine cg_ rfl hg (fun h4 hg => ?_) fun h4 hg => ?_
 ·refine awp_skip ?_
  repeat first | refine st_ ?_ | refine sn_ ?_
  refine awp_seq ?_
  refine awp_block ?_
  refine sr_ 8 24 hU ?_
  refine go_ ?_
  refine ch_n fun hU => ?_
  refine sr_ 24 72 hU ?_
  refine go_ ?_
  obtain ⟨e, he, hg⟩ := bind_some hg
  refine go_ ?_
  refine c0_ rfl rfl (r_loadE1 ty34 (enc_cell (eL_len _ _) (getI_at he) (o := 0) (c := .sl 1 (encL eB e)) rfl rfl)) rfl rfl ?_
  refine go_ ?_
  refine ch_n fun hU => ?_
  refine awp_block ?_
  refine lp_ (fun (x17_2 : Int) => mk [(0, .sl 1 (encL (eL 1 eB) a)), (1, .sl 1 (encL (eL 1 eB) b)), (5, .val (.int .i64 x9_1)), (8, .val (.int .i64 (a.length : Int))), (9, .val (.int .i64 x9_1)), (16, .val (.int .i64 (e.length : Int))), (17, .val (.int .i64 x17_2))] [] 0) hg (sub_ []) ?_
  rintro x17_2 m2 o2 hg hn2
  replace hg : g_law28_same.l2 b x9_1 e x17_2 = some o2 := hg
  show awp _ _ _ _ (mk _ _ _)
  unfold g_law28_same.l2 at hg
  refine sr_ 0 8 mk_U ?_
  refine go_ ?_
  refine ch_n fun hU => ?_
  refine awp_seq ?_
  refine cg_ rfl hg (fun h8 hg => ?_) fun h8 hg => ?_
  ·refine awp_skip ?_
   repeat first | refine st_ ?_ | refine sn_ ?_
   refine awp_seq ?_
   refine awp_block ?_
   refine sr_ 8 24 hU ?_
   refine go_ ?_
   refine ch_n fun hU => ?_
   refine awp_seq ?_
   refine awp_draw (sys _ _ []) (by kernel_rfl) [0, 0, 3, 7, 0, 31, 63, 0, 0, 384, 896, 0, 3968, 8064, 16383] 24 144 hU rfl rfl (by kernel_rfl) ?_
   refine go_ ?_
   refine c0_ rfl rfl (r_loadE1 ty34 (enc_cell (eL_len _ _) (getI_at he) (o := 0) (c := .sl 1 (encL eB e)) rfl rfl)) rfl rfl ?_
   refine go_ ?_
   obtain ⟨e_2, he_2, hg⟩ := bind_some hg
   refine go_ ?_
   refine c0_ rfl rfl (r_loadE1 ty4 (enc_cell eB_len (getI_at he_2) (o := 0) (c := .bool e_2) rfl rfl)) rfl rfl ?_
   refine go_ ?_
   obtain ⟨e_3, he_3, hg⟩ := bind_some hg
   refine go_ ?_
   refine c0_ rfl rfl (r_loadE1 ty34 (enc_cell (eL_len _ _) (getI_at he_3) (o := 0) (c := .sl 1 (encL eB e_3)) rfl rfl)) rfl rfl ?_
   refine go_ ?_
   obtain ⟨e_4, he_4, hg⟩ := bind_some hg
   refine go_ ?_
   refine c0_ rfl rfl (r_loadE1 ty4 (enc_cell eB_len (getI_at he_4) (o := 0) (c := .bool e_4) rfl rfl)) rfl rfl ?_
   refine c0_ rfl rfl (r_bneq und4) rfl rfl ?_
   refine ch_n fun hU => ?_
   refine cg_ rfl hg (fun h11 hg => ?_) fun h11 hg => ?_
   ·refine awp_seq ?_
    refine awp_region (sys _ _ []) 144 152 hU rfl rfl ?_
    refine go_ ?_
    refine ch_n fun hU => ?_
    refine aw_r ?_
    replace hg := leave hg hn2
    replace hg := leave hg hn1
    obtain rfl := Option.some.inj hg
    exact fin_ [] ⟨rfl, rfl⟩
   ·refine awp_skip ?_
    repeat first | refine st_ ?_ | refine sn_ ?_
    refine awp_region (sys _ _ []) 144 160 hU rfl rfl ?_
    refine go_ ?_
    refine ch_n fun hU => ?_
    obtain rfl := Option.some.inj hg
    exact ⟨(W (x17_2 + 1), m2), Nat.lt_succ_self _, hn2, sub_ []⟩
  ·refine awp_exit ?_
   repeat first | refine st_ ?_ | refine sn_ ?_
   replace hg := leave hg hn2
   refine awp_region (sys _ _ []) 8 24 hU rfl rfl ?_
   refine go_ ?_
   refine ch_n fun hU => ?_
   obtain rfl := Option.some.inj hg
   exact ⟨(W (x9_1 + 1), m1), Nat.lt_succ_self _, hn1, sub_ []⟩
 ·refine awp_exit ?_
  repeat first | refine st_ ?_ | refine sn_ ?_
  replace hg := leave hg hn1
  refine sr_ 8 16 hU ?_
  refine go_ ?_
  refine ch_n fun hU => ?_
  refine aw_r ?_
  obtain rfl := Option.some.inj hg
  exact fin_ [] ⟨rfl, rfl⟩
theorem w_law28_NeedReduces (t : (List Int)) (r : Bool) (hg : g_law28_NeedReduces t = some r) : Fn Try.prog 4 0 [.sl 1 (encL eI t)] [] (fun d' b' => d' = .val (.bool r) ∧ b' = []) := by
 unfold g_law28_NeedReduces at hg
 refine Fn.of Try.func4 rfl rfl rfl fun w0 I ρ0 => ?_
 show awp _ ⟨w0, I, ρ0, 0, 0, 68⟩ _ _ _
 refine sr_ 0 8 mk_U ?_
 refine go_ ?_
 refine ch_n fun hU => ?_
 refine awp_seq ?_
 refine sr_ 8 32 hU ?_
 refine go_ ?_
 obtain ⟨y, hy, hg⟩ := bind_some hg
 refine ca_ (w_make_Light _ _ hy) ?_
 refine go_ ?_
 refine ch_n fun hU => ?_
 refine cg_ rfl hg (fun h3 hg => ?_) fun h3 hg => ?_
 ·refine awp_seq ?_
  refine awp_region (sys _ _ []) 32 48 hU rfl rfl ?_
  obtain ⟨y_2, hy_2, hg⟩ := bind_some hg
  refine ca_ (w_law28_awake _ hy_2) ?_
  refine go_ ?_
  refine ch_n fun hU => ?_
  refine aw_r ?_
  obtain rfl := Option.some.inj hg
  exact fin_ [] ⟨rfl, rfl⟩
 ·refine awp_skip ?_
  repeat first | refine st_ ?_ | refine sn_ ?_
  refine sr_ 32 64 hU ?_
  refine go_ ?_
  obtain ⟨y_3, hy_3, hg⟩ := bind_some hg
  refine ch_call (rd := []) (ps := []) (gs := []) false rfl (w_make_Roll _ _ hy_3) rfl rfl (.cons .sl .nil) rfl rfl (by intro h; cases h) rfl (by intro h; first | (cases h; done) | exact ⟨_, _, ⟨rfl, rfl⟩, by simp, by simp⟩) ?_
  rintro _ _ ⟨rfl, rfl⟩
  obtain ⟨y_4, hy_4, hg⟩ := bind_some hg
  refine cb_ [40] [40] [] false (w_move_Needs _ _ _ hy_4) ?_
  refine go_ ?_
  refine ch_n fun hU => ?_
  refine sr_ 64 120 hU ?_
  refine go_ ?_
  obtain ⟨y_5, hy_5, hg⟩ := bind_some hg
  refine ca_ (w_need_Reduce _ _ _ hy_5) ?_
  refine go_ ?_
  refine ch_n fun hU => ?_
  refine sr_ 120 176 hU ?_
  refine go_ ?_
  obtain ⟨y_6, hy_6, hg⟩ := bind_some hg
  refine ca_ (w_need_Reduce _ _ _ hy_6) ?_
  refine go_ ?_
  refine ch_n fun hU => ?_
  refine awp_seq ?_
  refine awp_cut (ι := Bool) (fun (x46_1 : Bool) => mk [(3, .sl 2 (encL api_Required.enc y_4.1)), (4, .sl 2 (encL api_Required.enc y_5.1)), (46, .val (.bool x46_1))] [] 0) (fun (x46_1 : Bool) => g_law28_NeedReduces.j1 y_4 y_5 x46_1 = some r) ?_ ?_
  ·refine awp_region (sys _ _ []) 176 336 hU rfl rfl ?_
   refine go_ ?_
   rcases bc_ hg with ⟨h8, hg⟩ | ⟨h8, hg⟩
   ·refine go_ ?_
    refine ch_n fun hU => ?_
    exact ⟨true, hg, sub_ []⟩
   ·refine go_ ?_
    rcases bc_ hg with ⟨h10, hg⟩ | ⟨h10, hg⟩
    ·refine go_ ?_
     refine ch_n fun hU => ?_
     exact ⟨true, hg, sub_ []⟩
    ·refine go_ ?_
     obtain ⟨y_7, hy_7, hg⟩ := bind_some hg
     refine ca_ (w_ref28_Same _ _ _ hy_7) ?_
     refine go_ ?_
     rcases bc_ hg with ⟨h12, hg⟩ | ⟨h12, hg⟩
     ·refine go_ ?_
      refine ch_n fun hU => ?_
      exact ⟨true, hg, sub_ []⟩
     ·refine go_ ?_
      obtain ⟨y_8, hy_8, hg⟩ := bind_some hg
      refine ca_ (w_ref28_Ways _ _ _ hy_8) ?_
      refine go_ ?_
      obtain ⟨y_9, hy_9, hg⟩ := bind_some hg
      refine ca_ (w_ref28_Ways _ _ _ hy_9) ?_
      obtain ⟨y_10, hy_10, hg⟩ := bind_some hg
      refine ca_ (w_law28_same _ _ _ hy_10) ?_
      refine go_ ?_
      refine ch_n fun hU => ?_
      exact ⟨!y_10, hg, sub_ []⟩
  ·rintro x46_1 hg
   replace hg : g_law28_NeedReduces.j1 y_4 y_5 x46_1 = some r := hg
   show awp _ _ _ _ (mk _ _ _)
   unfold g_law28_NeedReduces.j1 at hg
   refine cg_ rfl hg (fun h15 hg => ?_) fun h15 hg => ?_
   ·refine awp_seq ?_
    refine awp_region (sys _ _ []) 0 8 mk_U rfl rfl ?_
    refine go_ ?_
    refine ch_n fun hU => ?_
    refine aw_r ?_
    obtain rfl := Option.some.inj hg
    exact fin_ [] ⟨rfl, rfl⟩
   ·refine awp_skip ?_
    repeat first | refine st_ ?_ | refine sn_ ?_
    refine awp_seq ?_
    refine sr_ 0 24 mk_U ?_
    refine go_ ?_
    refine ch_n fun hU => ?_
    refine awp_block ?_
    refine lp_ (fun (x49_2 : Int) => mk [(3, .sl 2 (encL api_Required.enc y_4.1)), (4, .sl 2 (encL api_Required.enc y_5.1)), (48, .val (.int .i64 (y_5.1.length : Int))), (49, .val (.int .i64 x49_2))] [] 0) hg (sub_ []) ?_
    rintro x49_2 m2 o2 hg hn2
    replace hg : g_law28_NeedReduces.l2 y_4 y_5 x49_2 = some o2 := hg
    show awp _ _ _ _ (mk _ _ _)
    unfold g_law28_NeedReduces.l2 at hg
    refine sr_ 0 8 mk_U ?_
    refine go_ ?_
    refine ch_n fun hU => ?_
    refine awp_seq ?_
    refine cg_ rfl hg (fun h19 hg => ?_) fun h19 hg => ?_
    ·refine awp_skip ?_
     repeat first | refine st_ ?_ | refine sn_ ?_
     refine awp_seq ?_
     refine awp_block ?_
     refine sr_ 8 24 hU ?_
     refine go_ ?_
     refine ch_n fun hU => ?_
     refine awp_seq ?_
     refine awp_draw (sys _ _ []) (by kernel_rfl) [0, 0, 3, 7, 0, 0, 32, 112, 255, 511] 24 104 hU rfl rfl (by kernel_rfl) ?_
     refine go_ ?_
     obtain ⟨l, hl, hg⟩ := bind_some hg
     refine c0_ rfl rfl (r_sliS_hi sl27 api_Required.enc_len hl) rfl rfl ?_
     obtain ⟨l_2, hl_2, hg⟩ := bind_some hg
     refine c0_ rfl rfl (r_append sl27 api_Required.enc_len .nil rfl .sl rfl hl_2 rfl) rfl rfl ?_
     refine go_ ?_
     obtain ⟨l_3, hl_3, hg⟩ := bind_some hg
     refine c0_ rfl rfl (r_sliS_lo sl27 api_Required.enc_len hl_3) rfl rfl ?_
     obtain ⟨l_4, hl_4, hg⟩ := bind_some hg
     refine ch_s (rd := [48]) rfl rfl (r_append sl27 api_Required.enc_len .row rfl .sl rfl hl_4 rfl) rfl rfl ?_
     refine go_ ?_
     refine ch_n fun hU => ?_
     refine awp_seq ?_
     refine awp_sub (σ' := mk [(3, .sl 2 (encL api_Required.enc y_4.1)), (4, .sl 2 (encL api_Required.enc y_5.1)), (9, .sl 2 (encL api_Required.enc l_4)), (48, .val (.int .i64 (y_5.1.length : Int))), (49, .val (.int .i64 x49_2))] [] 0) (sub_ []) ?_
     refine awp_region (sys _ _ []) 0 40 mk_U rfl rfl ?_
     refine go_ ?_
     obtain ⟨y_12, hy_12, hg⟩ := bind_some hg
     refine ca_ (w_ref28_Ways _ _ _ hy_12) ?_
     refine go_ ?_
     obtain ⟨y_13, hy_13, hg⟩ := bind_some hg
     refine ca_ (w_ref28_Ways _ _ _ hy_13) ?_
     obtain ⟨y_14, hy_14, hg⟩ := bind_some hg
     refine ca_ (w_law28_same _ _ _ hy_14) ?_
     refine ch_n fun hU => ?_
     refine cg_ rfl hg (fun h23 hg => ?_) fun h23 hg => ?_
     ·refine awp_seq ?_
      refine awp_region (sys _ _ []) 40 48 hU rfl rfl ?_
      refine go_ ?_
      refine ch_n fun hU => ?_
      refine aw_r ?_
      replace hg := leave hg hn2
      obtain rfl := Option.some.inj hg
      exact fin_ [] ⟨rfl, rfl⟩
     ·refine awp_skip ?_
      repeat first | refine st_ ?_ | refine sn_ ?_
      refine awp_region (sys _ _ []) 40 56 hU rfl rfl ?_
      refine go_ ?_
      refine ch_n fun hU => ?_
      obtain rfl := Option.some.inj hg
      exact ⟨(W (x49_2 + 1), m2), Nat.lt_succ_self _, hn2, sub_ []⟩
    ·refine awp_exit ?_
     repeat first | refine st_ ?_ | refine sn_ ?_
     replace hg := leave hg hn2
     refine sr_ 8 24 hU ?_
     obtain ⟨y_15, hy_15, hg⟩ := bind_some hg
     refine ca_ (w_law28_awake _ hy_15) ?_
     refine go_ ?_
     refine ch_n fun hU => ?_
     refine aw_r ?_
     obtain rfl := Option.some.inj hg
     exact fin_ [] ⟨rfl, rfl⟩
end Go.Proofs.Ytkpcbnnlefcebaa
