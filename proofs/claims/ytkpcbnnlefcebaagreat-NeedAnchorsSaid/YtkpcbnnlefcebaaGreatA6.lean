/- The program computes the plain functions. -/
import Derived.Test.YtkpcbnnlefcebaaGreatT1
import Derived.Test.YtkpcbnnlefcebaaGreatA1
import Derived.Test.YtkpcbnnlefcebaaGreatA5
set_option linter.unusedVariables false
set_option linter.unusedSimpArgs false
set_option maxRecDepth 100000
set_option maxHeartbeats 1600000
namespace Go.Proofs.YtkpcbnnlefcebaaGreat
open Go.RowKit
theorem w_lifetime_Check (i : api_Item) (r : Int) (hg : g_lifetime_Check i = some r) : Fn Tryz.prog 64 0 [.agg (api_Item.dv i)] [] (fun d' b' => d' = .val (.int .i64 r) ∧ b' = []) := by
 unfold g_lifetime_Check at hg
 refine Fn.of Tryz.func64 rfl rfl rfl fun w0 I ρ0 => ?_
 show awp _ ⟨w0, I, ρ0, 0, 0, 96⟩ _ _ _
 refine sr_ 0 16 mk_U ?_
 refine go_ ?_
 refine ch_n fun hU => ?_
 refine awp_cut (ι := Bool) (fun (known_1 : Bool) => mk [(1, .ptr 0 0), (3, .val (.bool known_1))] [(0, .box (api_Item.dv i) 77)] 1) (fun (known_1 : Bool) => g_lifetime_Check.j1 i known_1 = some r) ?_ ?_
 ·refine awp_region (sys _ _ []) 16 88 hU rfl rfl ?_
  refine go_ ?_
  rcases bc_ hg with ⟨h2, hg⟩ | ⟨h2, hg⟩
  ·refine go_ ?_
   refine ch_n fun hU => ?_
   exact ⟨true, hg, sub_ [(0, 0)]⟩
  ·refine go_ ?_
   refine ch_n fun hU => ?_
   exact ⟨decide (i.Kind = 2), hg, sub_ [(0, 0)]⟩
 ·rintro known_1 hg
  replace hg : g_lifetime_Check.j1 i known_1 = some r := hg
  show awp _ _ _ _ (mk _ _ _)
  unfold g_lifetime_Check.j1 at hg
  refine awp_seq ?_
  refine awp_cut (ι := Bool) (fun (x43_2 : Bool) => mk [(1, .ptr 0 0), (43, .val (.bool x43_2))] [(0, .box (api_Item.dv i) 77)] 1) (fun (x43_2 : Bool) => g_lifetime_Check.j2 i x43_2 = some r) ?_ ?_
  ·refine awp_region (sys _ _ []) 1 241 mk_U rfl rfl ?_
   refine go_ ?_
   obtain ⟨y, hy, hg⟩ := bind_some hg
   refine ca_ (w_catalog_Named _ _ hy) ?_
   refine go_ ?_
   rcases bc_ hg with ⟨h5, hg⟩ | ⟨h5, hg⟩
   ·refine go_ ?_
    refine ch_n fun hU => ?_
    exact ⟨true, hg, sub_ [(0, 0)]⟩
   ·refine go_ ?_
    rcases bc_ hg with ⟨h7, hg⟩ | ⟨h7, hg⟩
    ·refine go_ ?_
     refine ch_n fun hU => ?_
     exact ⟨true, hg, sub_ [(0, 0)]⟩
    ·refine go_ ?_
     rcases bc_ hg with ⟨h9, hg⟩ | ⟨h9, hg⟩
     ·refine go_ ?_
      refine ch_n fun hU => ?_
      exact ⟨true, hg, sub_ [(0, 0)]⟩
     ·refine go_ ?_
      rcases bc_ hg with ⟨h11, hg⟩ | ⟨h11, hg⟩
      ·refine go_ ?_
       refine ch_n fun hU => ?_
       exact ⟨true, hg, sub_ [(0, 0)]⟩
      ·refine go_ ?_
       rcases bc_ hg with ⟨h13, hg⟩ | ⟨h13, hg⟩
       ·refine go_ ?_
        refine ch_n fun hU => ?_
        exact ⟨true, hg, sub_ [(0, 0)]⟩
       ·refine go_ ?_
        refine ch_n fun hU => ?_
        exact ⟨decide (8 < (i.Links.length : Int)), hg, sub_ [(0, 0)]⟩
  ·rintro x43_2 hg
   replace hg : g_lifetime_Check.j2 i x43_2 = some r := hg
   show awp _ _ _ _ (mk _ _ _)
   unfold g_lifetime_Check.j2 at hg
   refine cg_ rfl hg (fun h16 hg => ?_) fun h16 hg => ?_
   ·refine awp_seq ?_
    refine awp_region (sys _ _ []) 1 9 mk_U rfl rfl ?_
    refine go_ ?_
    refine ch_n fun hU => ?_
    refine aw_r ?_
    obtain rfl := Option.some.inj hg
    exact fin_ [] ⟨rfl, rfl⟩
   ·refine awp_skip ?_
    repeat first | refine st_ ?_ | refine sn_ ?_
    refine awp_seq ?_
    refine sr_ 1 33 mk_U ?_
    refine go_ ?_
    refine ch_n fun hU => ?_
    refine awp_block ?_
    refine lp_ (fun (x47_3 : Int) => mk [(1, .ptr 0 0), (45, .sl 3 (encL api_Link.enc i.Links)), (46, .val (.int .i64 (i.Links.length : Int))), (47, .val (.int .i64 x47_3))] [(0, .box (api_Item.dv i) 77)] 1) hg (sub_ [(0, 0)]) ?_
    rintro x47_3 m3 o3 hg hn3
    replace hg : g_lifetime_Check.l3 i x47_3 = some o3 := hg
    show awp _ _ _ _ (mk _ _ _)
    unfold g_lifetime_Check.l3 at hg
    refine sr_ 1 9 mk_U ?_
    refine go_ ?_
    refine ch_n fun hU => ?_
    refine awp_seq ?_
    refine cg_ rfl hg (fun h20 hg => ?_) fun h20 hg => ?_
    ·refine awp_skip ?_
     repeat first | refine st_ ?_ | refine sn_ ?_
     refine awp_seq ?_
     refine awp_block ?_
     refine sr_ 9 57 hU ?_
     refine go_ ?_
     obtain ⟨e, he, hg⟩ := bind_some hg
     refine go_ ?_
     refine c0_ rfl rfl (r_loadEA ty107 (enc_cells api_Link.enc_len (getI_at he) (o := 0) (m := 3) (cs := [.int .i64 e.Use.Alg, .int .i64 e.Use.Bits, .int .i64 e.Day]) rfl (by decide) rfl) (enc_cells_le api_Link.enc_len (getI_at he) (o := 0) (m := 3) (by decide) rfl)) rfl rfl ?_
     refine go_ ?_
     refine ch_n fun hU => ?_
     refine awp_cut (ι := Bool) (fun (x81_4 : Bool) => mk [(1, .ptr 0 0), (45, .sl 3 (encL api_Link.enc i.Links)), (46, .val (.int .i64 (i.Links.length : Int))), (47, .val (.int .i64 x47_3)), (81, .val (.bool x81_4))] [(0, .box (api_Item.dv i) 77)] 1) (fun (x81_4 : Bool) => g_lifetime_Check.j4 x47_3 x81_4 = some o3) ?_ ?_
     ·refine awp_draw (sys _ _ []) (by kernel_rfl) [0, 1, 3, 7, 15, 31, 63, 127, 255, 511, 1023, 2047, 4095, 8191, 16383, 32767, 65535, 131071, 262143, 524287, 262143, 1310719, 4194303, 8388607, 16777215, 262143, 33816575, 134217727, 268435455, 536870911] 57 297 hU rfl rfl (by kernel_rfl) ?_
      refine go_ ?_
      obtain ⟨y_2, hy_2, hg⟩ := bind_some hg
      refine ca_ (w_catalog_Valid _ _ hy_2) ?_
      refine go_ ?_
      rcases bc_ hg with ⟨h22, hg⟩ | ⟨h22, hg⟩
      ·refine go_ ?_
       refine ch_n fun hU => ?_
       exact ⟨true, hg, sub_ [(0, 0)]⟩
      ·refine go_ ?_
       rcases bc_ hg with ⟨h24, hg⟩ | ⟨h24, hg⟩
       ·refine go_ ?_
        refine ch_n fun hU => ?_
        exact ⟨true, hg, sub_ [(0, 0)]⟩
       ·refine go_ ?_
        rcases bc_ hg with ⟨h26, hg⟩ | ⟨h26, hg⟩
        ·refine go_ ?_
         refine ch_n fun hU => ?_
         exact ⟨true, hg, sub_ [(0, 0)]⟩
        ·refine go_ ?_
         rcases bc_ hg with ⟨h28, hg⟩ | ⟨h28, hg⟩
         ·refine go_ ?_
          obtain ⟨e_2, he_2, hg⟩ := bind_some hg
          refine go_ ?_
          refine c0_ (gdv_t rfl rfl h28) rfl (r_fieldE fd107_1 ty3 (by decide) (enc_lt api_Link.enc_len (getI_at he_2) (o := 2) (by decide) rfl)) rfl rfl ?_
          refine c0_ (gdv_t rfl rfl h28) rfl (r_loadE1 ty3 (enc_cell api_Link.enc_len (getI_at he_2) (o := 2) (c := .int .i64 e_2.Day) rfl rfl)) rfl rfl ?_
          refine go_ ?_
          refine ch_n fun hU => ?_
          exact ⟨decide (e.Day ≤ e_2.Day), hg, sub_ [(0, 0)]⟩
         ·refine go_ ?_
          refine ch_n fun hU => ?_
          exact ⟨false, hg, sub_ [(0, 0)]⟩
     ·rintro x81_4 hg
      replace hg : g_lifetime_Check.j4 x47_3 x81_4 = some o3 := hg
      show awp _ _ _ _ (mk _ _ _)
      unfold g_lifetime_Check.j4 at hg
      refine cg_ rfl hg (fun h31 hg => ?_) fun h31 hg => ?_
      ·refine awp_seq ?_
       refine awp_region (sys _ _ []) 1 9 mk_U rfl rfl ?_
       refine go_ ?_
       refine ch_n fun hU => ?_
       refine aw_r ?_
       replace hg := leave hg hn3
       obtain rfl := Option.some.inj hg
       exact fin_ [] ⟨rfl, rfl⟩
      ·refine awp_skip ?_
       repeat first | refine st_ ?_ | refine sn_ ?_
       refine awp_region (sys _ _ []) 1 17 mk_U rfl rfl ?_
       refine go_ ?_
       refine ch_n fun hU => ?_
       obtain rfl := Option.some.inj hg
       exact ⟨(W (x47_3 + 1), m3), Nat.lt_succ_self _, hn3, sub_ [(0, 0)]⟩
    ·refine awp_exit ?_
     repeat first | refine st_ ?_ | refine sn_ ?_
     replace hg := leave hg hn3
     refine awp_seq ?_
     refine awp_cut (ι := Bool) (fun (x95_5 : Bool) => mk [(95, .val (.bool x95_5))] [] 0) (fun (x95_5 : Bool) => g_lifetime_Check.j5 x95_5 = some r) ?_ ?_
     ·refine awp_draw (sys _ _ []) (by kernel_rfl) [0, 1, 0, 4, 12, 28, 60, 127, 255, 511, 1023, 2047, 4095] 9 113 hU rfl rfl (by kernel_rfl) ?_
      refine go_ ?_
      obtain ⟨e_3, he_3, hg⟩ := bind_some hg
      refine go_ ?_
      refine c0_ rfl rfl (r_fieldE fd107_1 ty3 (by decide) (enc_lt api_Link.enc_len (getI_at he_3) (o := 2) (by decide) rfl)) rfl rfl ?_
      refine c0_ rfl rfl (r_loadE1 ty3 (enc_cell api_Link.enc_len (getI_at he_3) (o := 2) (c := .int .i64 e_3.Day) rfl rfl)) rfl rfl ?_
      refine go_ ?_
      rcases bc_ hg with ⟨h34, hg⟩ | ⟨h34, hg⟩
      ·refine go_ ?_
       refine ch_n fun hU => ?_
       exact ⟨true, hg, sub_ []⟩
      ·refine go_ ?_
       refine ch_n fun hU => ?_
       exact ⟨decide (40000 < i.Until), hg, sub_ []⟩
     ·rintro x95_5 hg
      replace hg : g_lifetime_Check.j5 x95_5 = some r := hg
      show awp _ _ _ _ (mk _ _ _)
      unfold g_lifetime_Check.j5 at hg
      refine cg_ rfl hg (fun h37 hg => ?_) fun h37 hg => ?_
      ·refine awp_seq ?_
       refine awp_region (sys _ _ []) 0 8 mk_U rfl rfl ?_
       refine go_ ?_
       refine ch_n fun hU => ?_
       refine aw_r ?_
       obtain rfl := Option.some.inj hg
       exact fin_ [] ⟨rfl, rfl⟩
      ·refine awp_skip ?_
       repeat first | refine st_ ?_ | refine sn_ ?_
       refine sr_ 0 8 mk_U ?_
       refine go_ ?_
       refine ch_n fun hU => ?_
       refine aw_r ?_
       obtain rfl := Option.some.inj hg
       exact fin_ [] ⟨rfl, rfl⟩
theorem w_exposure_Check_c1 (x' : api_Item) (r : Bool) (hg : g_exposure_Check_c1 x' = some r) : Fn Tryz.prog 63 0 [.agg (api_Item.dv x')] [] (fun d' b' => d' = .val (.bool r) ∧ b' = []) := by
 unfold g_exposure_Check_c1 at hg
 refine Fn.of Tryz.func63 rfl rfl rfl fun w0 I ρ0 => ?_
 show awp _ ⟨w0, I, ρ0, 0, 0, 6⟩ _ _ _
 refine sr_ 0 16 mk_U ?_
 refine go_ ?_
 refine ch_n fun hU => ?_
 refine sr_ 16 48 hU ?_
 refine go_ ?_
 obtain ⟨y, hy, hg⟩ := bind_some hg
 refine ca_ (w_lifetime_Check _ _ hy) ?_
 refine go_ ?_
 refine ch_n fun hU => ?_
 refine aw_r ?_
 obtain rfl := Option.some.inj hg
 exact fin_ [] ⟨rfl, rfl⟩
theorem w_slices_IndexFunc_api_Item_clo_63_0_ (s : (List api_Item)) (f : api_Item → Option (Bool)) (hf_f : ∀ (x0 : api_Item) (y : Bool), f x0 = some y → Fn Tryz.prog 63 0 [.agg (api_Item.dv x0)] [] (fun d' b' => d' = .val (.bool y) ∧ b' = [])) (r : Int) (hg : g_slices_IndexFunc_api_Item s f = some r) : Fn Tryz.prog 94 0 [.sl 5 (encL api_Item.enc s), .clo 63 0 []] [] (fun d' b' => d' = .val (.int .i64 r) ∧ b' = []) := by
 unfold g_slices_IndexFunc_api_Item at hg
 refine Fn.of Tryz.func94 rfl rfl rfl fun w0 I ρ0 => ?_
 show awp _ ⟨w0, I, ρ0, 0, 0, 19⟩ _ _ _
 refine sr_ 0 8 mk_U ?_
 refine go_ ?_
 refine ch_n fun hU => ?_
 refine awp_seq ?_
 refine sr_ 8 32 hU ?_
 refine go_ ?_
 refine ch_n fun hU => ?_
 refine awp_block ?_
 refine lp_ (fun (x8_1 : Int) => mk [(0, .sl 5 (encL api_Item.enc s)), (1, .clo 63 0 []), (7, .val (.int .i64 (s.length : Int))), (8, .val (.int .i64 x8_1))] [] 0) hg (sub_ []) ?_
 rintro x8_1 m1 o1 hg hn1
 replace hg : g_slices_IndexFunc_api_Item.l1 s f x8_1 = some o1 := hg
 show awp _ _ _ _ (mk _ _ _)
 unfold g_slices_IndexFunc_api_Item.l1 at hg
 refine sr_ 0 8 mk_U ?_
 refine go_ ?_
 refine ch_n fun hU => ?_
 refine awp_seq ?_
 refine cg_ rfl hg (fun h4 hg => ?_) fun h4 hg => ?_
 ·refine awp_skip ?_
  repeat first | refine st_ ?_ | refine sn_ ?_
  refine awp_seq ?_
  refine awp_block ?_
  refine sr_ 8 24 hU ?_
  refine go_ ?_
  refine ch_n fun hU => ?_
  refine sr_ 24 72 hU ?_
  refine go_ ?_
  obtain ⟨e, he, hg⟩ := bind_some hg
  refine go_ ?_
  refine c0_ rfl rfl (r_loadEA ty77 (enc_cells api_Item.enc_len (getI_at he) (o := 0) (m := 5) (cs := [.str e.Name, .int .i64 e.Kind, .int .i64 e.Purpose, .sl 3 (encL api_Link.enc e.Links), .int .i64 e.Until]) rfl (by decide) rfl) (enc_cells_le api_Item.enc_len (getI_at he) (o := 0) (m := 5) (by decide) rfl)) rfl rfl ?_
  obtain ⟨y, hy, hg⟩ := bind_some hg
  refine ch_callCP (rd := []) (ps := []) (gs := []) false rfl rfl (hf_f e _ hy) rfl rfl (.cons (.agg (.cons .val (.cons .val (.cons .val (.cons .sl (.cons .val .nil)))))) .nil) rfl rfl (by intro h; cases h) rfl rfl rfl rfl ?_
  refine ch_n fun hU => ?_
  refine cg_ rfl hg (fun h7 hg => ?_) fun h7 hg => ?_
  ·refine awp_seq ?_
   refine awp_region (sys _ _ []) 72 88 hU rfl rfl ?_
   refine go_ ?_
   refine ch_n fun hU => ?_
   refine aw_r ?_
   replace hg := leave hg hn1
   obtain rfl := Option.some.inj hg
   exact fin_ [] ⟨rfl, rfl⟩
  ·refine awp_skip ?_
   repeat first | refine st_ ?_ | refine sn_ ?_
   refine awp_region (sys _ _ []) 72 88 hU rfl rfl ?_
   refine go_ ?_
   refine ch_n fun hU => ?_
   obtain rfl := Option.some.inj hg
   exact ⟨(W (x8_1 + 1), m1), Nat.lt_succ_self _, hn1, sub_ []⟩
 ·refine awp_exit ?_
  repeat first | refine st_ ?_ | refine sn_ ?_
  replace hg := leave hg hn1
  refine sr_ 8 16 hU ?_
  refine go_ ?_
  refine ch_n fun hU => ?_
  refine aw_r ?_
  obtain rfl := Option.some.inj hg
  exact fin_ [] ⟨rfl, rfl⟩
theorem w_slices_ContainsFunc_api_Item_clo_63_0_ (s : (List api_Item)) (f : api_Item → Option (Bool)) (hf_f : ∀ (x0 : api_Item) (y : Bool), f x0 = some y → Fn Tryz.prog 63 0 [.agg (api_Item.dv x0)] [] (fun d' b' => d' = .val (.bool y) ∧ b' = [])) (r : Bool) (hg : g_slices_ContainsFunc_api_Item s f = some r) : Fn Tryz.prog 62 0 [.sl 5 (encL api_Item.enc s), .clo 63 0 []] [] (fun d' b' => d' = .val (.bool r) ∧ b' = []) := by
 unfold g_slices_ContainsFunc_api_Item at hg
 refine Fn.of Tryz.func62 rfl rfl rfl fun w0 I ρ0 => ?_
 show awp _ ⟨w0, I, ρ0, 0, 0, 9⟩ _ _ _
 refine sr_ 0 8 mk_U ?_
 refine go_ ?_
 refine ch_n fun hU => ?_
 refine sr_ 8 48 hU ?_
 refine go_ ?_
 obtain ⟨y, hy, hg⟩ := bind_some hg
 refine ca_ (w_slices_IndexFunc_api_Item_clo_63_0_ s f hf_f _ hy) ?_
 refine go_ ?_
 refine ch_n fun hU => ?_
 refine aw_r ?_
 obtain rfl := Option.some.inj hg
 exact fin_ [] ⟨rfl, rfl⟩
theorem w_exposure_linked (l : (List api_Edge)) (size : Int) (r : Bool) (hg : g_exposure_linked l size = some r) : Fn Tryz.prog 65 0 [.sl 2 (encL api_Edge.enc l), .val (.int .i64 size)] [] (fun d' b' => d' = .val (.bool r) ∧ b' = []) := by
 unfold g_exposure_linked at hg
 refine Fn.of Tryz.func65 rfl rfl rfl fun w0 I ρ0 => ?_
 show awp _ ⟨w0, I, ρ0, 0, 0, 80⟩ _ _ _
 refine sr_ 0 8 mk_U ?_
 refine go_ ?_
 refine ch_n fun hU => ?_
 refine awp_seq ?_
 refine sr_ 8 32 hU ?_
 refine go_ ?_
 refine ch_n fun hU => ?_
 refine awp_block ?_
 refine lp_ (fun (x9_1 : Int) => mk [(0, .sl 2 (encL api_Edge.enc l)), (1, .val (.int .i64 size)), (7, .sl 2 (encL api_Edge.enc l)), (8, .val (.int .i64 (l.length : Int))), (9, .val (.int .i64 x9_1))] [] 0) hg (sub_ []) ?_
 rintro x9_1 m1 o1 hg hn1
 replace hg : g_exposure_linked.l1 l size x9_1 = some o1 := hg
 show awp _ _ _ _ (mk _ _ _)
 unfold g_exposure_linked.l1 at hg
 refine sr_ 0 8 mk_U ?_
 refine go_ ?_
 refine ch_n fun hU => ?_
 refine awp_seq ?_
 refine cg_ rfl hg (fun h4 hg => ?_) fun h4 hg => ?_
 ·refine awp_skip ?_
  repeat first | refine st_ ?_ | refine sn_ ?_
  refine awp_seq ?_
  refine awp_block ?_
  refine sr_ 8 56 hU ?_
  refine go_ ?_
  obtain ⟨e, he, hg⟩ := bind_some hg
  refine go_ ?_
  refine c0_ rfl rfl (r_loadEA ty34 (enc_cells api_Edge.enc_len (getI_at he) (o := 0) (m := 2) (cs := [.int .i64 e.Client, .int .i64 e.Server]) rfl (by decide) rfl) (enc_cells_le api_Edge.enc_len (getI_at he) (o := 0) (m := 2) (by decide) rfl)) rfl rfl ?_
  refine go_ ?_
  refine ch_n fun hU => ?_
  refine awp_seq ?_
  refine awp_cut (ι := Bool) (fun (x40_2 : Bool) => mk [(0, .sl 2 (encL api_Edge.enc l)), (1, .val (.int .i64 size)), (5, .val (.int .i64 x9_1)), (6, .ptr 0 0), (7, .sl 2 (encL api_Edge.enc l)), (8, .val (.int .i64 (l.length : Int))), (9, .val (.int .i64 x9_1)), (40, .val (.bool x40_2))] [(0, .box [.val (.int .i64 e.Client), .val (.int .i64 e.Server)] 34)] 1) (fun (x40_2 : Bool) => g_exposure_linked.j2 l x9_1 e x40_2 = some o1) ?_ ?_
  ·refine awp_region (sys _ _ []) 56 272 hU rfl rfl ?_
   refine go_ ?_
   rcases bc_ hg with ⟨h6, hg⟩ | ⟨h6, hg⟩
   ·refine go_ ?_
    refine ch_n fun hU => ?_
    exact ⟨true, hg, sub_ [(0, 32)]⟩
   ·refine go_ ?_
    rcases bc_ hg with ⟨h8, hg⟩ | ⟨h8, hg⟩
    ·refine go_ ?_
     refine ch_n fun hU => ?_
     exact ⟨true, hg, sub_ [(0, 32)]⟩
    ·refine go_ ?_
     rcases bc_ hg with ⟨h10, hg⟩ | ⟨h10, hg⟩
     ·refine go_ ?_
      refine ch_n fun hU => ?_
      exact ⟨true, hg, sub_ [(0, 32)]⟩
     ·refine go_ ?_
      rcases bc_ hg with ⟨h12, hg⟩ | ⟨h12, hg⟩
      ·refine go_ ?_
       refine ch_n fun hU => ?_
       exact ⟨true, hg, sub_ [(0, 32)]⟩
      ·refine go_ ?_
       refine ch_n fun hU => ?_
       exact ⟨decide (e.Client = e.Server), hg, sub_ [(0, 32)]⟩
  ·rintro x40_2 hg
   replace hg : g_exposure_linked.j2 l x9_1 e x40_2 = some o1 := hg
   show awp _ _ _ _ (mk _ _ _)
   unfold g_exposure_linked.j2 at hg
   refine cg_ rfl hg (fun h15 hg => ?_) fun h15 hg => ?_
   ·refine awp_seq ?_
    refine awp_region (sys _ _ []) 1 9 mk_U rfl rfl ?_
    refine go_ ?_
    refine ch_n fun hU => ?_
    refine aw_r ?_
    replace hg := leave hg hn1
    obtain rfl := Option.some.inj hg
    exact fin_ [] ⟨rfl, rfl⟩
   ·refine awp_skip ?_
    repeat first | refine st_ ?_ | refine sn_ ?_
    refine awp_cut (ι := Bool) (fun (x75_3 : Bool) => mk [(0, .sl 2 (encL api_Edge.enc l)), (1, .val (.int .i64 size)), (7, .sl 2 (encL api_Edge.enc l)), (8, .val (.int .i64 (l.length : Int))), (9, .val (.int .i64 x9_1)), (75, .val (.bool x75_3))] [] 0) (fun (x75_3 : Bool) => g_exposure_linked.j3 x9_1 x75_3 = some o1) ?_ ?_
    ·refine awp_draw (sys _ _ []) (by kernel_rfl) [0, 1, 3, 7, 7, 23, 63, 127, 255, 7, 519, 2047, 4095, 8191, 8191, 24575, 65535, 131071, 262143, 8191, 532479, 2097151, 4194303, 8388607, 8388607, 25165823, 67108863, 134217727, 268435455, 8388607, 545259519, 2147483647, 4294967295, 8589934591, 17179869183] 1 281 mk_U rfl rfl (by kernel_rfl) ?_
     refine go_ ?_
     rcases bc_ hg with ⟨h17, hg⟩ | ⟨h17, hg⟩
     ·refine go_ ?_
      obtain ⟨e_2, he_2, hg⟩ := bind_some hg
      refine go_ ?_
      refine c0_ (gdv_t rfl rfl h17) rfl (r_fieldE fd34_0 ty3 (by decide) (enc_lt api_Edge.enc_len (getI_at he_2) (o := 0) (by decide) rfl)) rfl rfl ?_
      refine c0_ (gdv_t rfl rfl h17) rfl (r_loadE1 ty3 (enc_cell api_Edge.enc_len (getI_at he_2) (o := 0) (c := .int .i64 e_2.Client) rfl rfl)) rfl rfl ?_
      refine go_ ?_
      rcases bc_ hg with ⟨h18, hg⟩ | ⟨h18, hg⟩
      ·refine go_ ?_
       refine ch_n fun hU => ?_
       exact ⟨true, hg, sub_ []⟩
      ·refine go_ ?_
       refine c0_ (gdv_t rfl rfl h18) rfl (r_fieldE fd34_0 ty3 (by decide) (enc_lt api_Edge.enc_len (getI_at he_2) (o := 0) (by decide) rfl)) rfl rfl ?_
       refine c0_ (gdv_t rfl rfl h18) rfl (r_loadE1 ty3 (enc_cell api_Edge.enc_len (getI_at he_2) (o := 0) (c := .int .i64 e_2.Client) rfl rfl)) rfl rfl ?_
       refine go_ ?_
       rcases bc_ hg with ⟨h20, hg⟩ | ⟨h20, hg⟩
       ·refine go_ ?_
        refine c0_ (gdv_t rfl rfl h20) rfl (r_fieldE fd34_1 ty3 (by decide) (enc_lt api_Edge.enc_len (getI_at he_2) (o := 1) (by decide) rfl)) rfl rfl ?_
        refine c0_ (gdv_t rfl rfl h20) rfl (r_loadE1 ty3 (enc_cell api_Edge.enc_len (getI_at he_2) (o := 1) (c := .int .i64 e_2.Server) rfl rfl)) rfl rfl ?_
        refine go_ ?_
        refine ch_n fun hU => ?_
        exact ⟨decide (e.Server ≤ e_2.Server), hg, sub_ []⟩
       ·refine go_ ?_
        refine ch_n fun hU => ?_
        exact ⟨false, hg, sub_ []⟩
     ·refine go_ ?_
      refine ch_n fun hU => ?_
      exact ⟨false, hg, sub_ []⟩
    ·rintro x75_3 hg
     replace hg : g_exposure_linked.j3 x9_1 x75_3 = some o1 := hg
     show awp _ _ _ _ (mk _ _ _)
     unfold g_exposure_linked.j3 at hg
     refine cg_ rfl hg (fun h24 hg => ?_) fun h24 hg => ?_
     ·refine awp_seq ?_
      refine awp_region (sys _ _ []) 0 8 mk_U rfl rfl ?_
      refine go_ ?_
      refine ch_n fun hU => ?_
      refine aw_r ?_
      replace hg := leave hg hn1
      obtain rfl := Option.some.inj hg
      exact fin_ [] ⟨rfl, rfl⟩
     ·refine awp_skip ?_
      repeat first | refine st_ ?_ | refine sn_ ?_
      refine awp_region (sys _ _ []) 0 16 mk_U rfl rfl ?_
      refine go_ ?_
      refine ch_n fun hU => ?_
      obtain rfl := Option.some.inj hg
      exact ⟨(W (x9_1 + 1), m1), Nat.lt_succ_self _, hn1, sub_ []⟩
 ·refine awp_exit ?_
  repeat first | refine st_ ?_ | refine sn_ ?_
  replace hg := leave hg hn1
  refine sr_ 8 40 hU ?_
  refine go_ ?_
  refine ch_n fun hU => ?_
  refine aw_r ?_
  obtain rfl := Option.some.inj hg
  exact fin_ [] ⟨rfl, rfl⟩
theorem w_exposure_Check (e : api_Estate) (r : Int) (hg : g_exposure_Check e = some r) : Fn Tryz.prog 38 0 [.agg (api_Estate.dv e)] [] (fun d' b' => d' = .val (.int .i64 r) ∧ b' = []) := by
 unfold g_exposure_Check at hg
 refine Fn.of Tryz.func38 rfl rfl rfl fun w0 I ρ0 => ?_
 show awp _ ⟨w0, I, ρ0, 0, 0, 59⟩ _ _ _
 refine sr_ 0 16 mk_U ?_
 refine go_ ?_
 refine ch_n fun hU => ?_
 refine awp_seq ?_
 refine sr_ 16 48 hU ?_
 refine go_ ?_
 refine ch_n fun hU => ?_
 refine awp_block ?_
 refine lp_ (fun (x9_1 : Int) => mk [(1, .ptr 0 0), (7, .sl 9 (encL api_Endpoint.enc e.Endpoints)), (8, .val (.int .i64 (e.Endpoints.length : Int))), (9, .val (.int .i64 x9_1))] [(0, .box (api_Estate.dv e) 29)] 1) hg (sub_ [(0, 0)]) ?_
 rintro x9_1 m1 o1 hg hn1
 replace hg : g_exposure_Check.l1 e x9_1 = some o1 := hg
 show awp _ _ _ _ (mk _ _ _)
 unfold g_exposure_Check.l1 at hg
 refine sr_ 1 9 mk_U ?_
 refine go_ ?_
 refine ch_n fun hU => ?_
 refine awp_seq ?_
 refine cg_ rfl hg (fun h4 hg => ?_) fun h4 hg => ?_
 ·refine awp_skip ?_
  repeat first | refine st_ ?_ | refine sn_ ?_
  refine awp_seq ?_
  refine awp_block ?_
  refine sr_ 9 57 hU ?_
  refine go_ ?_
  obtain ⟨e_2, he_2, hg⟩ := bind_some hg
  refine go_ ?_
  refine c0_ rfl rfl (r_loadEA ty37 (enc_cells api_Endpoint.enc_len (getI_at he_2) (o := 0) (m := 9) (cs := [.str e_2.Name, .int .i64 e_2.Least, .int .i64 e_2.Most, .sl 1 (encL eI e_2.Suites), .bool e_2.OwnOrder, .sl 4 (encL api_Identity.enc e_2.Identities), .sl 1 (encL eI e_2.Anchors), .sl 1 (encL eI e_2.Hashes), .bool e_2.Fallback]) rfl (by decide) rfl) (enc_cells_le api_Endpoint.enc_len (getI_at he_2) (o := 0) (m := 9) (by decide) rfl)) rfl rfl ?_
  refine go_ ?_
  refine ch_n fun hU => ?_
  refine awp_cut (ι := Bool) (fun (x32_2 : Bool) => mk [(1, .ptr 0 0), (7, .sl 9 (encL api_Endpoint.enc e.Endpoints)), (8, .val (.int .i64 (e.Endpoints.length : Int))), (9, .val (.int .i64 x9_1)), (32, .val (.bool x32_2))] [(0, .box (api_Estate.dv e) 29)] 1) (fun (x32_2 : Bool) => g_exposure_Check.j2 x9_1 x32_2 = some o1) ?_ ?_
  ·refine awp_draw (sys _ _ []) (by kernel_rfl) [0, 1, 3, 7, 15, 31, 63, 127, 255, 127, 639, 2047, 4095, 8191, 127, 16511, 65535, 131071, 262143] 57 209 hU rfl rfl (by kernel_rfl) ?_
   refine go_ ?_
   obtain ⟨y, hy, hg⟩ := bind_some hg
   refine ca_ (w_endpoint_Check _ _ hy) ?_
   refine go_ ?_
   rcases bc_ hg with ⟨h6, hg⟩ | ⟨h6, hg⟩
   ·refine go_ ?_
    refine ch_n fun hU => ?_
    exact ⟨true, hg, sub_ [(0, 0)]⟩
   ·refine go_ ?_
    rcases bc_ hg with ⟨h8, hg⟩ | ⟨h8, hg⟩
    ·refine go_ ?_
     obtain ⟨e_3, he_3, hg⟩ := bind_some hg
     refine go_ ?_
     refine c0_ (gdv_t rfl rfl h8) rfl (r_fieldE fd37_0 ty9 (by decide) (enc_lt api_Endpoint.enc_len (getI_at he_3) (o := 0) (by decide) rfl)) rfl rfl ?_
     refine c0_ (gdv_t rfl rfl h8) rfl (r_loadE1 ty9 (enc_cell api_Endpoint.enc_len (getI_at he_3) (o := 0) (c := .str e_3.Name) rfl rfl)) rfl rfl ?_
     refine go_ ?_
     refine c0_ (gdv_t rfl rfl h8) rfl r_sgeq rfl rfl ?_
     refine go_ ?_
     refine ch_n fun hU => ?_
     exact ⟨!ltT (toB e_3.Name) (toB e_2.Name), hg, sub_ [(0, 0)]⟩
    ·refine go_ ?_
     refine ch_n fun hU => ?_
     exact ⟨false, hg, sub_ [(0, 0)]⟩
  ·rintro x32_2 hg
   replace hg : g_exposure_Check.j2 x9_1 x32_2 = some o1 := hg
   show awp _ _ _ _ (mk _ _ _)
   unfold g_exposure_Check.j2 at hg
   refine cg_ rfl hg (fun h11 hg => ?_) fun h11 hg => ?_
   ·refine awp_seq ?_
    refine awp_region (sys _ _ []) 1 9 mk_U rfl rfl ?_
    refine go_ ?_
    refine ch_n fun hU => ?_
    refine aw_r ?_
    replace hg := leave hg hn1
    obtain rfl := Option.some.inj hg
    exact fin_ [] ⟨rfl, rfl⟩
   ·refine awp_skip ?_
    repeat first | refine st_ ?_ | refine sn_ ?_
    refine awp_region (sys _ _ []) 1 17 mk_U rfl rfl ?_
    refine go_ ?_
    refine ch_n fun hU => ?_
    obtain rfl := Option.some.inj hg
    exact ⟨(W (x9_1 + 1), m1), Nat.lt_succ_self _, hn1, sub_ [(0, 0)]⟩
 ·refine awp_exit ?_
  repeat first | refine st_ ?_ | refine sn_ ?_
  replace hg := leave hg hn1
  refine sr_ 9 41 hU ?_
  refine go_ ?_
  obtain ⟨y_2, hy_2, hg⟩ := bind_some hg
  refine ca_ (w_slices_ContainsFunc_api_Item_clo_63_0_ e.Items (fun x0 => g_exposure_Check_c1 x0) (fun x0 y h => w_exposure_Check_c1 x0 y h) _ hy_2) ?_
  refine go_ ?_
  refine ch_n fun hU => ?_
  refine awp_seq ?_
  refine awp_cut (ι := Bool) (fun (x58_3 : Bool) => mk [(58, .val (.bool x58_3))] [] 0) (fun (x58_3 : Bool) => g_exposure_Check.j3 x58_3 = some r) ?_ ?_
  ·refine awp_region (sys _ _ []) 41 217 hU rfl rfl ?_
   refine go_ ?_
   rcases bc_ hg with ⟨h15, hg⟩ | ⟨h15, hg⟩
   ·refine go_ ?_
    refine ch_n fun hU => ?_
    exact ⟨true, hg, sub_ []⟩
   ·refine go_ ?_
    rcases bc_ hg with ⟨h17, hg⟩ | ⟨h17, hg⟩
    ·refine go_ ?_
     refine ch_n fun hU => ?_
     exact ⟨true, hg, sub_ []⟩
    ·refine go_ ?_
     rcases bc_ hg with ⟨h19, hg⟩ | ⟨h19, hg⟩
     ·refine go_ ?_
      refine ch_n fun hU => ?_
      exact ⟨true, hg, sub_ []⟩
     ·refine go_ ?_
      obtain ⟨y_3, hy_3, hg⟩ := bind_some hg
      refine ca_ (w_exposure_linked _ _ _ hy_3) ?_
      refine go_ ?_
      refine ch_n fun hU => ?_
      exact ⟨!y_3, hg, sub_ []⟩
  ·rintro x58_3 hg
   replace hg : g_exposure_Check.j3 x58_3 = some r := hg
   show awp _ _ _ _ (mk _ _ _)
   unfold g_exposure_Check.j3 at hg
   refine cg_ rfl hg (fun h22 hg => ?_) fun h22 hg => ?_
   ·refine awp_seq ?_
    refine awp_region (sys _ _ []) 0 8 mk_U rfl rfl ?_
    refine go_ ?_
    refine ch_n fun hU => ?_
    refine aw_r ?_
    obtain rfl := Option.some.inj hg
    exact fin_ [] ⟨rfl, rfl⟩
   ·refine awp_skip ?_
    repeat first | refine st_ ?_ | refine sn_ ?_
    refine sr_ 0 8 mk_U ?_
    refine go_ ?_
    refine ch_n fun hU => ?_
    refine aw_r ?_
    obtain rfl := Option.some.inj hg
    exact fin_ [] ⟨rfl, rfl⟩
theorem w_need_named (e : api_Estate) (c : api_Change) (r : Bool) (hg : g_need_named e c = some r) : Fn Tryz.prog 41 0 [.agg (api_Estate.dv e), .agg (api_Change.dv c)] [] (fun d' b' => d' = .val (.bool r) ∧ b' = []) := by
 unfold g_need_named at hg
 refine Fn.of Tryz.func41 rfl rfl rfl fun w0 I ρ0 => ?_
 show awp _ ⟨w0, I, ρ0, 0, 0, 16⟩ _ _ _
 refine sr_ 0 24 mk_U ?_
 refine go_ ?_
 refine ch_n fun hU => ?_
 refine sr_ 24 120 hU ?_
 refine go_ ?_
 rcases bc_ hg with ⟨h2, hg⟩ | ⟨h2, hg⟩
 ·refine go_ ?_
  refine ch_n fun hU => ?_
  refine aw_r ?_
  obtain rfl := Option.some.inj hg
  exact fin_ [] ⟨rfl, rfl⟩
 ·refine go_ ?_
  refine ch_n fun hU => ?_
  refine aw_r ?_
  obtain rfl := Option.some.inj hg
  exact fin_ [] ⟨rfl, rfl⟩
theorem w_need_Derive_c1 (c : api_Change) (c0 : api_Estate) (r : Bool) (hg : g_need_Derive_c1 c c0 = some r) : Fn Tryz.prog 40 0 [.agg (api_Change.dv c), .elt (([.sl 9 (encL api_Endpoint.enc c0.Endpoints), .sl 2 (encL api_Edge.enc c0.Edges), .sl 5 (encL api_Item.enc c0.Items)] : List C).drop 0)] [] (fun d' b' => d' = .val (.bool r) ∧ b' = []) := by
 unfold g_need_Derive_c1 at hg
 refine Fn.of Tryz.func40 rfl rfl rfl fun w0 I ρ0 => ?_
 show awp _ ⟨w0, I, ρ0, 0, 0, 8⟩ _ _ _
 refine sr_ 0 16 mk_U ?_
 refine go_ ?_
 refine ch_n fun hU => ?_
 refine sr_ 16 56 hU ?_
 refine c0_ rfl rfl (r_loadEA ty29 (cs2 := [.sl 9 (encL api_Endpoint.enc c0.Endpoints), .sl 2 (encL api_Edge.enc c0.Edges), .sl 5 (encL api_Item.enc c0.Items)]) rfl (Nat.le_of_ble_eq_true rfl)) rfl rfl ?_
 refine go_ ?_
 obtain ⟨y, hy, hg⟩ := bind_some hg
 refine ca_ (w_need_named _ _ _ hy) ?_
 refine go_ ?_
 refine ch_n fun hU => ?_
 refine aw_r ?_
 obtain rfl := Option.some.inj hg
 exact fin_ [] ⟨rfl, rfl⟩
theorem w_slices_IndexFunc_api_Change_clo_40_0_ref_29 (s : (List api_Change)) (f : api_Change → Option (Bool)) (f_c0 : api_Estate) (hf_f : ∀ (x0 : api_Change) (y : Bool), f x0 = some y → Fn Tryz.prog 40 0 [.agg (api_Change.dv x0), .elt (([.sl 9 (encL api_Endpoint.enc f_c0.Endpoints), .sl 2 (encL api_Edge.enc f_c0.Edges), .sl 5 (encL api_Item.enc f_c0.Items)] : List C).drop 0)] [] (fun d' b' => d' = .val (.bool y) ∧ b' = [])) (r : Int) (hg : g_slices_IndexFunc_api_Change s f = some r) : Fn Tryz.prog 66 0 [.sl 8 (encL api_Change.enc s), .clo 40 0 [.elt (([.sl 9 (encL api_Endpoint.enc f_c0.Endpoints), .sl 2 (encL api_Edge.enc f_c0.Edges), .sl 5 (encL api_Item.enc f_c0.Items)] : List C).drop 0)]] [] (fun d' b' => d' = .val (.int .i64 r) ∧ b' = []) := by
 unfold g_slices_IndexFunc_api_Change at hg
 refine Fn.of Tryz.func66 rfl rfl rfl fun w0 I ρ0 => ?_
 show awp _ ⟨w0, I, ρ0, 0, 0, 19⟩ _ _ _
 refine sr_ 0 8 mk_U ?_
 refine go_ ?_
 refine ch_n fun hU => ?_
 refine awp_seq ?_
 refine sr_ 8 32 hU ?_
 refine go_ ?_
 refine ch_n fun hU => ?_
 refine awp_block ?_
 refine lp_ (fun (x8_1 : Int) => mk [(0, .sl 8 (encL api_Change.enc s)), (1, .clo 40 0 [.elt (([.sl 9 (encL api_Endpoint.enc f_c0.Endpoints), .sl 2 (encL api_Edge.enc f_c0.Edges), .sl 5 (encL api_Item.enc f_c0.Items)] : List C).drop 0)]), (7, .val (.int .i64 (s.length : Int))), (8, .val (.int .i64 x8_1))] [] 0) hg (sub_ []) ?_
 rintro x8_1 m1 o1 hg hn1
 replace hg : g_slices_IndexFunc_api_Change.l1 s f x8_1 = some o1 := hg
 show awp _ _ _ _ (mk _ _ _)
 unfold g_slices_IndexFunc_api_Change.l1 at hg
 refine sr_ 0 8 mk_U ?_
 refine go_ ?_
 refine ch_n fun hU => ?_
 refine awp_seq ?_
 refine cg_ rfl hg (fun h4 hg => ?_) fun h4 hg => ?_
 ·refine awp_skip ?_
  repeat first | refine st_ ?_ | refine sn_ ?_
  refine awp_seq ?_
  refine awp_block ?_
  refine sr_ 8 24 hU ?_
  refine go_ ?_
  refine ch_n fun hU => ?_
  refine sr_ 24 72 hU ?_
  refine go_ ?_
  obtain ⟨e, he, hg⟩ := bind_some hg
  refine go_ ?_
  refine c0_ rfl rfl (r_loadEA ty44 (enc_cells api_Change.enc_len (getI_at he) (o := 0) (m := 8) (cs := [.int .i64 e.Endpoint, .int .i64 e.Kind, .int .i64 e.Number, .int .i64 e.At, .int .i64 e.Identity.Key.Alg, .int .i64 e.Identity.Key.Bits, .int .i64 e.Identity.KeyId, .sl 15 (encL api_Certificate.enc e.Identity.Chain)]) rfl (by decide) rfl) (enc_cells_le api_Change.enc_len (getI_at he) (o := 0) (m := 8) (by decide) rfl)) rfl rfl ?_
  obtain ⟨y, hy, hg⟩ := bind_some hg
  refine ch_callCP (rd := []) (ps := []) (gs := []) false rfl rfl (hf_f e _ hy) rfl rfl (.cons (.agg (.cons .val (.cons .val (.cons .val (.cons .val (.cons .val (.cons .val (.cons .val (.cons .sl .nil))))))))) (.cons .elt .nil)) rfl rfl (by intro h; cases h) rfl rfl rfl rfl ?_
  refine ch_n fun hU => ?_
  refine cg_ rfl hg (fun h7 hg => ?_) fun h7 hg => ?_
  ·refine awp_seq ?_
   refine awp_region (sys _ _ []) 72 88 hU rfl rfl ?_
   refine go_ ?_
   refine ch_n fun hU => ?_
   refine aw_r ?_
   replace hg := leave hg hn1
   obtain rfl := Option.some.inj hg
   exact fin_ [] ⟨rfl, rfl⟩
  ·refine awp_skip ?_
   repeat first | refine st_ ?_ | refine sn_ ?_
   refine awp_region (sys _ _ []) 72 88 hU rfl rfl ?_
   refine go_ ?_
   refine ch_n fun hU => ?_
   obtain rfl := Option.some.inj hg
   exact ⟨(W (x8_1 + 1), m1), Nat.lt_succ_self _, hn1, sub_ []⟩
 ·refine awp_exit ?_
  repeat first | refine st_ ?_ | refine sn_ ?_
  replace hg := leave hg hn1
  refine sr_ 8 16 hU ?_
  refine go_ ?_
  refine ch_n fun hU => ?_
  refine aw_r ?_
  obtain rfl := Option.some.inj hg
  exact fin_ [] ⟨rfl, rfl⟩
theorem w_slices_ContainsFunc_api_Change_clo_40_0_ref_29 (s : (List api_Change)) (f : api_Change → Option (Bool)) (f_c0 : api_Estate) (hf_f : ∀ (x0 : api_Change) (y : Bool), f x0 = some y → Fn Tryz.prog 40 0 [.agg (api_Change.dv x0), .elt (([.sl 9 (encL api_Endpoint.enc f_c0.Endpoints), .sl 2 (encL api_Edge.enc f_c0.Edges), .sl 5 (encL api_Item.enc f_c0.Items)] : List C).drop 0)] [] (fun d' b' => d' = .val (.bool y) ∧ b' = [])) (r : Bool) (hg : g_slices_ContainsFunc_api_Change s f = some r) : Fn Tryz.prog 39 0 [.sl 8 (encL api_Change.enc s), .clo 40 0 [.elt (([.sl 9 (encL api_Endpoint.enc f_c0.Endpoints), .sl 2 (encL api_Edge.enc f_c0.Edges), .sl 5 (encL api_Item.enc f_c0.Items)] : List C).drop 0)]] [] (fun d' b' => d' = .val (.bool r) ∧ b' = []) := by
 unfold g_slices_ContainsFunc_api_Change at hg
 refine Fn.of Tryz.func39 rfl rfl rfl fun w0 I ρ0 => ?_
 show awp _ ⟨w0, I, ρ0, 0, 0, 9⟩ _ _ _
 refine sr_ 0 8 mk_U ?_
 refine go_ ?_
 refine ch_n fun hU => ?_
 refine sr_ 8 48 hU ?_
 refine go_ ?_
 obtain ⟨y, hy, hg⟩ := bind_some hg
 refine ca_ (w_slices_IndexFunc_api_Change_clo_40_0_ref_29 s f f_c0 hf_f _ hy) ?_
 refine go_ ?_
 refine ch_n fun hU => ?_
 refine aw_r ?_
 obtain rfl := Option.some.inj hg
 exact fin_ [] ⟨rfl, rfl⟩
theorem w_slices_Index_api_Edge (s : (List api_Edge)) (v : api_Edge) (r : Int) (hg : g_slices_Index_api_Edge s v = some r) : Fn Tryz.prog 97 0 [.sl 2 (encL api_Edge.enc s), .agg [.val (.int .i64 v.Client), .val (.int .i64 v.Server)]] [] (fun d' b' => d' = .val (.int .i64 r) ∧ b' = []) := by
 unfold g_slices_Index_api_Edge at hg
 refine Fn.of Tryz.func97 rfl rfl rfl fun w0 I ρ0 => ?_
 show awp _ ⟨w0, I, ρ0, 0, 0, 19⟩ _ _ _
 refine sr_ 0 16 mk_U ?_
 refine go_ ?_
 refine ch_n fun hU => ?_
 refine awp_seq ?_
 refine sr_ 16 40 hU ?_
 refine go_ ?_
 refine ch_n fun hU => ?_
 refine awp_block ?_
 refine lp_ (fun (x8_1 : Int) => mk [(0, .sl 2 (encL api_Edge.enc s)), (3, .ptr 0 0), (7, .val (.int .i64 (s.length : Int))), (8, .val (.int .i64 x8_1))] [(0, .box [.val (.int .i64 v.Client), .val (.int .i64 v.Server)] 34)] 1) hg (sub_ [(0, 0)]) ?_
 rintro x8_1 m1 o1 hg hn1
 replace hg : g_slices_Index_api_Edge.l1 s v x8_1 = some o1 := hg
 show awp _ _ _ _ (mk _ _ _)
 unfold g_slices_Index_api_Edge.l1 at hg
 refine sr_ 1 9 mk_U ?_
 refine go_ ?_
 refine ch_n fun hU => ?_
 refine awp_seq ?_
 refine cg_ rfl hg (fun h4 hg => ?_) fun h4 hg => ?_
 ·refine awp_skip ?_
  repeat first | refine st_ ?_ | refine sn_ ?_
  refine awp_seq ?_
  refine awp_block ?_
  refine sr_ 9 25 hU ?_
  refine go_ ?_
  refine ch_n fun hU => ?_
  refine awp_seq ?_
  refine awp_draw (sys _ _ []) (by kernel_rfl) [0, 0, 0, 6, 14, 31] 25 73 hU rfl rfl (by kernel_rfl) ?_
  refine go_ ?_
  obtain ⟨e, he, hg⟩ := bind_some hg
  refine go_ ?_
  refine c0_ rfl rfl (r_loadEA ty34 (enc_cells api_Edge.enc_len (getI_at he) (o := 0) (m := 2) (cs := [.int .i64 e.Client, .int .i64 e.Server]) rfl (by decide) rfl) (enc_cells_le api_Edge.enc_len (getI_at he) (o := 0) (m := 2) (by decide) rfl)) rfl rfl ?_
  refine c0_ rfl rfl (steq34_eql v e) rfl rfl ?_
  refine ch_n fun hU => ?_
  refine cg_ rfl hg (fun h7 hg => ?_) fun h7 hg => ?_
  ·refine awp_seq ?_
   refine awp_region (sys _ _ []) 73 89 hU rfl rfl ?_
   refine go_ ?_
   refine ch_n fun hU => ?_
   refine aw_r ?_
   replace hg := leave hg hn1
   obtain rfl := Option.some.inj hg
   exact fin_ [] ⟨rfl, rfl⟩
  ·refine awp_skip ?_
   repeat first | refine st_ ?_ | refine sn_ ?_
   refine awp_region (sys _ _ []) 73 89 hU rfl rfl ?_
   refine go_ ?_
   refine ch_n fun hU => ?_
   obtain rfl := Option.some.inj hg
   exact ⟨(W (x8_1 + 1), m1), Nat.lt_succ_self _, hn1, sub_ [(0, 0)]⟩
 ·refine awp_exit ?_
  repeat first | refine st_ ?_ | refine sn_ ?_
  replace hg := leave hg hn1
  refine sr_ 9 17 hU ?_
  refine go_ ?_
  refine ch_n fun hU => ?_
  refine aw_r ?_
  obtain rfl := Option.some.inj hg
  exact fin_ [] ⟨rfl, rfl⟩
theorem w_slices_Contains_api_Edge (s : (List api_Edge)) (v : api_Edge) (r : Bool) (hg : g_slices_Contains_api_Edge s v = some r) : Fn Tryz.prog 67 0 [.sl 2 (encL api_Edge.enc s), .agg [.val (.int .i64 v.Client), .val (.int .i64 v.Server)]] [] (fun d' b' => d' = .val (.bool r) ∧ b' = []) := by
 unfold g_slices_Contains_api_Edge at hg
 refine Fn.of Tryz.func67 rfl rfl rfl fun w0 I ρ0 => ?_
 show awp _ ⟨w0, I, ρ0, 0, 0, 9⟩ _ _ _
 refine sr_ 0 16 mk_U ?_
 refine go_ ?_
 refine ch_n fun hU => ?_
 refine sr_ 16 56 hU ?_
 refine go_ ?_
 obtain ⟨y, hy, hg⟩ := bind_some hg
 refine ca_ (w_slices_Index_api_Edge _ _ _ hy) ?_
 refine go_ ?_
 refine ch_n fun hU => ?_
 refine aw_r ?_
 obtain rfl := Option.some.inj hg
 exact fin_ [] ⟨rfl, rfl⟩
theorem w_need_linked (e : api_Estate) (a : Int) (b : Int) (r : Bool) (hg : g_need_linked e a b = some r) : Fn Tryz.prog 42 0 [.agg (api_Estate.dv e), .val (.int .i64 a), .val (.int .i64 b)] [] (fun d' b' => d' = .val (.bool r) ∧ b' = []) := by
 unfold g_need_linked at hg
 refine Fn.of Tryz.func42 rfl rfl rfl fun w0 I ρ0 => ?_
 show awp _ ⟨w0, I, ρ0, 0, 0, 26⟩ _ _ _
 refine sr_ 0 16 mk_U ?_
 refine go_ ?_
 refine ch_n fun hU => ?_
 refine sr_ 16 176 hU ?_
 refine go_ ?_
 rcases bc_ hg with ⟨h2, hg⟩ | ⟨h2, hg⟩
 ·refine go_ ?_
  refine ch_n fun hU => ?_
  refine aw_r ?_
  obtain rfl := Option.some.inj hg
  exact fin_ [] ⟨rfl, rfl⟩
 ·refine go_ ?_
  refine c0_ (gdv_t rfl rfl h2) rfl (.build (r := [.val (.int .i64 a), .val (.int .i64 b)]) und34 pl34 z34 (by kernel_rfl) rfl) rfl rfl ?_
  obtain ⟨y, hy, hg⟩ := bind_some hg
  refine ca_ (w_slices_Contains_api_Edge _ _ _ hy) ?_
  refine go_ ?_
  rcases bc_ hg with ⟨h4, hg⟩ | ⟨h4, hg⟩
  ·refine go_ ?_
   refine ch_n fun hU => ?_
   refine aw_r ?_
   obtain rfl := Option.some.inj hg
   exact fin_ [] ⟨rfl, rfl⟩
  ·refine go_ ?_
   refine c0_ (gdv_t rfl rfl h4) rfl (.build (r := [.val (.int .i64 b), .val (.int .i64 a)]) und34 pl34 z34 (by kernel_rfl) rfl) rfl rfl ?_
   obtain ⟨y_2, hy_2, hg⟩ := bind_some hg
   refine ca_ (w_slices_Contains_api_Edge _ _ _ hy_2) ?_
   refine go_ ?_
   refine ch_n fun hU => ?_
   refine aw_r ?_
   obtain rfl := Option.some.inj hg
   exact fin_ [] ⟨rfl, rfl⟩
theorem w_need_Derive (e : api_Estate) (l : (List api_Change)) (r : (List api_Required) × Int) (hg : g_need_Derive e l = some r) : Fn Tryz.prog 12 0 [.agg (api_Estate.dv e), .sl 8 (encL api_Change.enc l)] [] (fun d' b' => d' = .tup [.sl 2 (encL api_Required.enc r.1), .val (.int .i64 r.2)] ∧ b' = []) := by
 unfold g_need_Derive at hg
 refine Fn.of Tryz.func12 rfl rfl rfl fun w0 I ρ0 => ?_
 show awp _ ⟨w0, I, ρ0, 0, 0, 72⟩ _ _ _
 refine sr_ 0 24 mk_U ?_
 refine go_ ?_
 refine ch_n fun hU => ?_
 refine awp_seq ?_
 refine awp_block ?_
 refine sr_ 24 56 hU ?_
 refine go_ ?_
 obtain ⟨y, hy, hg⟩ := bind_some hg
 refine ca_ (w_exposure_Check _ _ hy) ?_
 refine go_ ?_
 refine ch_n fun hU => ?_
 refine cg_ rfl hg (fun h3 hg => ?_) fun h3 hg => ?_
 ·refine awp_seq ?_
  refine awp_region (sys _ _ []) 56 72 hU rfl rfl ?_
  refine go_ ?_
  refine ch_n fun hU => ?_
  refine aw_r ?_
  obtain rfl := Option.some.inj hg
  exact fin_ [] ⟨rfl, rfl⟩
 ·refine awp_seq ?_
  refine awp_region (sys _ _ []) 56 88 hU rfl rfl ?_
  refine go_ ?_
  refine ch_n fun hU => ?_
  refine cg_ rfl hg (fun h6 hg => ?_) fun h6 hg => ?_
  ·refine awp_seq ?_
   refine awp_region (sys _ _ []) 88 104 hU rfl rfl ?_
   refine go_ ?_
   refine ch_n fun hU => ?_
   refine aw_r ?_
   obtain rfl := Option.some.inj hg
   exact fin_ [] ⟨rfl, rfl⟩
  ·refine awp_seq ?_
   refine awp_sub (σ' := mk [(1, .sl 8 (encL api_Change.enc l)), (2, .elt (([.sl 9 (encL api_Endpoint.enc e.Endpoints), .sl 2 (encL api_Edge.enc e.Edges), .sl 5 (encL api_Item.enc e.Items)] : List C).drop 0))] [] 0) ((by exact Sub.lists [] rfl rfl ⟨⟨_, rfl, .sl _ _⟩, ⟨_, rfl, .frzb (ks := [some 9, some 2, some 5]) rfl (.cons .sl (.cons .sl (.cons .sl .nil))) (look_ne rfl)⟩, trivial⟩ trivial)) ?_
   refine awp_region (sys _ _ []) 0 32 mk_U rfl rfl ?_
   refine go_ ?_
   obtain ⟨y_2, hy_2, hg⟩ := bind_some hg
   refine ca_ (w_slices_ContainsFunc_api_Change_clo_40_0_ref_29 l (fun x0 => g_need_Derive_c1 x0 e) e (fun x0 y h => w_need_Derive_c1 x0 e y h) _ hy_2) ?_
   refine go_ ?_
   refine ch_n fun hU => ?_
   refine cg_ rfl hg (fun h9 hg => ?_) fun h9 hg => ?_
   ·refine awp_seq ?_
    refine awp_region (sys _ _ []) 32 48 hU rfl rfl ?_
    refine go_ ?_
    refine ch_n fun hU => ?_
    refine aw_r ?_
    obtain rfl := Option.some.inj hg
    exact fin_ [] ⟨rfl, rfl⟩
   ·refine awp_skip ?_
    repeat first | refine st_ ?_ | refine sn_ ?_
    refine sr_ 32 40 hU ?_
    refine go_ ?_
    refine ch_n fun hU => ?_
    refine awp_seq ?_
    refine sr_ 40 64 hU ?_
    refine go_ ?_
    refine ch_n fun hU => ?_
    refine awp_block ?_
    refine lp_ (fun ((x25_2, out_2) : Int × List api_Required) => mk [(1, .sl 8 (encL api_Change.enc l)), (2, .elt (([.sl 9 (encL api_Endpoint.enc e.Endpoints), .sl 2 (encL api_Edge.enc e.Edges), .sl 5 (encL api_Item.enc e.Items)] : List C).drop 0)), (6, .row 0), (23, .sl 8 (encL api_Change.enc l)), (24, .val (.int .i64 (l.length : Int))), (25, .val (.int .i64 x25_2))] [(0, .row 53 2 (encL api_Required.enc out_2))] 1) hg (sub_ []) ?_
    rintro ⟨x25_2, out_2⟩ m2 o2 hg hn2
    replace hg : g_need_Derive.l2 e l x25_2 out_2 = some o2 := hg
    show awp _ _ _ _ (mk _ _ _)
    unfold g_need_Derive.l2 at hg
    refine sr_ 1 9 mk_U ?_
    refine go_ ?_
    refine ch_n fun hU => ?_
    refine awp_seq ?_
    refine cg_ rfl hg (fun h14 hg => ?_) fun h14 hg => ?_
    ·refine awp_skip ?_
     repeat first | refine st_ ?_ | refine sn_ ?_
     refine awp_seq ?_
     refine awp_block ?_
     refine sr_ 9 57 hU ?_
     refine go_ ?_
     obtain ⟨e_2, he_2, hg⟩ := bind_some hg
     refine go_ ?_
     refine c0_ rfl rfl (r_loadEA ty44 (enc_cells api_Change.enc_len (getI_at he_2) (o := 0) (m := 8) (cs := [.int .i64 e_2.Endpoint, .int .i64 e_2.Kind, .int .i64 e_2.Number, .int .i64 e_2.At, .int .i64 e_2.Identity.Key.Alg, .int .i64 e_2.Identity.Key.Bits, .int .i64 e_2.Identity.KeyId, .sl 15 (encL api_Certificate.enc e_2.Identity.Chain)]) rfl (by decide) rfl) (enc_cells_le api_Change.enc_len (getI_at he_2) (o := 0) (m := 8) (by decide) rfl)) rfl rfl ?_
     refine go_ ?_
     refine ch_n fun hU => ?_
     refine sr_ 57 81 hU ?_
     refine go_ ?_
     refine ch_n fun hU => ?_
     refine awp_block ?_
     refine lp_ (fun ((x32_3, out_3) : Int × List api_Required) => mk [(1, .sl 8 (encL api_Change.enc l)), (2, .elt (([.sl 9 (encL api_Endpoint.enc e.Endpoints), .sl 2 (encL api_Edge.enc e.Edges), .sl 5 (encL api_Item.enc e.Items)] : List C).drop 0)), (6, .row 0), (7, .val (.int .i64 x25_2)), (8, .ptr 1 0), (23, .sl 8 (encL api_Change.enc l)), (24, .val (.int .i64 (l.length : Int))), (25, .val (.int .i64 x25_2)), (30, .sl 8 (encL api_Change.enc l)), (31, .val (.int .i64 (l.length : Int))), (32, .val (.int .i64 x32_3))] [(0, .row 53 2 (encL api_Required.enc out_3)), (1, .box (api_Change.dv e_2) 44)] 2) hg (sub_ [(0, 0), (1, 33)]) ?_
     rintro ⟨x32_3, out_3⟩ m3 o3 hg hn3
     replace hg : g_need_Derive.l3 e l x25_2 e_2 x32_3 out_3 = some o3 := hg
     show awp _ _ _ _ (mk _ _ _)
     unfold g_need_Derive.l3 at hg
     refine sr_ 2 10 mk_U ?_
     refine go_ ?_
     refine ch_n fun hU => ?_
     refine awp_seq ?_
     refine cg_ rfl hg (fun h18 hg => ?_) fun h18 hg => ?_
     ·refine awp_skip ?_
      repeat first | refine st_ ?_ | refine sn_ ?_
      refine awp_cut (ι := List api_Required) (fun (out_5 : List api_Required) => mk [(1, .sl 8 (encL api_Change.enc l)), (2, .elt (([.sl 9 (encL api_Endpoint.enc e.Endpoints), .sl 2 (encL api_Edge.enc e.Edges), .sl 5 (encL api_Item.enc e.Items)] : List C).drop 0)), (6, .row 0), (7, .val (.int .i64 x25_2)), (8, .ptr 1 0), (23, .sl 8 (encL api_Change.enc l)), (24, .val (.int .i64 (l.length : Int))), (25, .val (.int .i64 x25_2)), (30, .sl 8 (encL api_Change.enc l)), (31, .val (.int .i64 (l.length : Int))), (32, .val (.int .i64 x32_3))] [(0, .row 53 2 (encL api_Required.enc out_5)), (1, .box (api_Change.dv e_2) 44)] 2) (fun (out_5 : List api_Required) => g_need_Derive.j5 x32_3 out_5 = some o3) ?_ ?_
      ·refine awp_block ?_
       refine sr_ 10 58 hU ?_
       refine go_ ?_
       obtain ⟨e_3, he_3, hg⟩ := bind_some hg
       refine go_ ?_
       refine c0_ rfl rfl (r_loadEA ty44 (enc_cells api_Change.enc_len (getI_at he_3) (o := 0) (m := 8) (cs := [.int .i64 e_3.Endpoint, .int .i64 e_3.Kind, .int .i64 e_3.Number, .int .i64 e_3.At, .int .i64 e_3.Identity.Key.Alg, .int .i64 e_3.Identity.Key.Bits, .int .i64 e_3.Identity.KeyId, .sl 15 (encL api_Certificate.enc e_3.Identity.Chain)]) rfl (by decide) rfl) (enc_cells_le api_Change.enc_len (getI_at he_3) (o := 0) (m := 8) (by decide) rfl)) rfl rfl ?_
       refine go_ ?_
       refine ch_n fun hU => ?_
       refine awp_cut (ι := Bool) (fun (x61_4 : Bool) => mk [(1, .sl 8 (encL api_Change.enc l)), (2, .elt (([.sl 9 (encL api_Endpoint.enc e.Endpoints), .sl 2 (encL api_Edge.enc e.Edges), .sl 5 (encL api_Item.enc e.Items)] : List C).drop 0)), (6, .row 0), (7, .val (.int .i64 x25_2)), (8, .ptr 1 0), (9, .val (.int .i64 x32_3)), (23, .sl 8 (encL api_Change.enc l)), (24, .val (.int .i64 (l.length : Int))), (25, .val (.int .i64 x25_2)), (30, .sl 8 (encL api_Change.enc l)), (31, .val (.int .i64 (l.length : Int))), (32, .val (.int .i64 x32_3)), (61, .val (.bool x61_4))] [(0, .row 53 2 (encL api_Required.enc out_3)), (1, .box (api_Change.dv e_2) 44)] 2) (fun (x61_4 : Bool) => g_need_Derive.j4 x25_2 x32_3 out_3 x61_4 = some o3) ?_ ?_
       ·refine awp_draw (sys _ _ []) (by kernel_rfl) [0, 1, 0, 4, 15, 31, 0, 127, 0, 256, 0, 1024, 3840, 7936, 0, 32767, 65535, 131071, 262143, 262143, 786431, 262143, 2359295, 8388607, 16777215] 58 258 hU rfl rfl (by kernel_rfl) ?_
        refine c0_ rfl rfl (r_fieldE fd29_0 ty25 (by decide) (Nat.le_of_ble_eq_true rfl)) rfl rfl ?_
        refine c0_ rfl rfl (r_loadE1 ty25 (c := .sl 9 (encL api_Endpoint.enc e.Endpoints)) rfl) rfl rfl ?_
        refine go_ ?_
        obtain ⟨e_4, he_4, hg⟩ := bind_some hg
        refine go_ ?_
        refine c0_ rfl rfl (r_loadEA ty37 (enc_cells api_Endpoint.enc_len (getI_at he_4) (o := 0) (m := 9) (cs := [.str e_4.Name, .int .i64 e_4.Least, .int .i64 e_4.Most, .sl 1 (encL eI e_4.Suites), .bool e_4.OwnOrder, .sl 4 (encL api_Identity.enc e_4.Identities), .sl 1 (encL eI e_4.Anchors), .sl 1 (encL eI e_4.Hashes), .bool e_4.Fallback]) rfl (by decide) rfl) (enc_cells_le api_Endpoint.enc_len (getI_at he_4) (o := 0) (m := 9) (by decide) rfl)) rfl rfl ?_
        refine go_ ?_
        obtain ⟨y_3, hy_3, hg⟩ := bind_some hg
        refine ca_ (w_need_Rank _ _ _ hy_3) ?_
        refine c0_ rfl rfl (r_fieldE fd29_0 ty25 (by decide) (Nat.le_of_ble_eq_true rfl)) rfl rfl ?_
        refine c0_ rfl rfl (r_loadE1 ty25 (c := .sl 9 (encL api_Endpoint.enc e.Endpoints)) rfl) rfl rfl ?_
        refine go_ ?_
        obtain ⟨e_5, he_5, hg⟩ := bind_some hg
        refine go_ ?_
        refine c0_ rfl rfl (r_loadEA ty37 (enc_cells api_Endpoint.enc_len (getI_at he_5) (o := 0) (m := 9) (cs := [.str e_5.Name, .int .i64 e_5.Least, .int .i64 e_5.Most, .sl 1 (encL eI e_5.Suites), .bool e_5.OwnOrder, .sl 4 (encL api_Identity.enc e_5.Identities), .sl 1 (encL eI e_5.Anchors), .sl 1 (encL eI e_5.Hashes), .bool e_5.Fallback]) rfl (by decide) rfl) (enc_cells_le api_Endpoint.enc_len (getI_at he_5) (o := 0) (m := 9) (by decide) rfl)) rfl rfl ?_
        refine go_ ?_
        obtain ⟨y_4, hy_4, hg⟩ := bind_some hg
        refine ca_ (w_need_Rank _ _ _ hy_4) ?_
        refine go_ ?_
        rcases bc_ hg with ⟨h20, hg⟩ | ⟨h20, hg⟩
        ·refine c0_ (gdv_t rfl rfl h20) rfl (r_loadEA ty29 (cs2 := [.sl 9 (encL api_Endpoint.enc e.Endpoints), .sl 2 (encL api_Edge.enc e.Edges), .sl 5 (encL api_Item.enc e.Items)]) rfl (Nat.le_of_ble_eq_true rfl)) rfl rfl ?_
         refine go_ ?_
         obtain ⟨y_5, hy_5, hg⟩ := bind_some hg
         refine ca_ (w_need_linked _ _ _ _ hy_5) ?_
         refine go_ ?_
         refine ch_n fun hU => ?_
         exact ⟨y_5, hg, sub_ [(0, 0), (1, 1)]⟩
        ·refine go_ ?_
         refine ch_n fun hU => ?_
         exact ⟨false, hg, sub_ [(0, 0), (1, 1)]⟩
       ·rintro x61_4 hg
        replace hg : g_need_Derive.j4 x25_2 x32_3 out_3 x61_4 = some o3 := hg
        show awp _ _ _ _ (mk _ _ _)
        unfold g_need_Derive.j4 at hg
        refine cg_ rfl hg (fun h23 hg => ?_) fun h23 hg => ?_
        ·refine awp_region (sys _ _ []) 2 58 mk_U rfl rfl ?_
         refine go_ ?_
         refine c0_ rfl rfl (.build (r := [.val (.int .i64 x25_2), .val (.int .i64 x32_3)]) und53 pl53 z53 (by kernel_rfl) rfl) rfl rfl ?_
         refine c0_ rfl rfl (r_buildFull sl48 z53 (by decide) rfl rfl rfl rfl ck53 (cs := [.int .i64 x25_2, .int .i64 x32_3]) (.cons .int (.cons .int .nil)) rfl (l := ([(api_Required.mk x25_2 x32_3)] : List api_Required)) (f := api_Required.enc) rfl) rfl rfl ?_
         obtain ⟨l_2, hl_2, hg⟩ := bind_some hg
         refine ch_s (rd := [0, 34]) rfl rfl (r_append sl48 api_Required.enc_len .row rfl .row rfl hl_2 rfl) rfl rfl ?_
         refine go_ ?_
         refine ch_n fun hU => ?_
         exact ⟨l_2, hg, sub_ [(0, 42), (1, 1)]⟩
        ·refine awp_skip ?_
         repeat first | refine st_ ?_ | refine sn_ ?_
         exact ⟨out_3, hg, sub_ [(0, 0), (1, 1)]⟩
      ·rintro out_5 hg
       replace hg : g_need_Derive.j5 x32_3 out_5 = some o3 := hg
       show awp _ _ _ _ (mk _ _ _)
       unfold g_need_Derive.j5 at hg
       refine awp_region (sys _ _ []) 2 18 mk_U rfl rfl ?_
       refine go_ ?_
       refine ch_n fun hU => ?_
       obtain rfl := Option.some.inj hg
       exact ⟨((W (x32_3 + 1), out_5), m3), Nat.lt_succ_self _, hn3, sub_ [(0, 0), (1, 1)]⟩
     ·refine awp_exit ?_
      repeat first | refine st_ ?_ | refine sn_ ?_
      replace hg := leave hg hn3
      refine awp_region (sys _ _ []) 10 26 hU rfl rfl ?_
      refine go_ ?_
      refine ch_n fun hU => ?_
      obtain rfl := Option.some.inj hg
      exact ⟨((W (x25_2 + 1), out_3), m2), Nat.lt_succ_self _, hn2, sub_ [(0, 0)]⟩
    ·refine awp_exit ?_
     repeat first | refine st_ ?_ | refine sn_ ?_
     replace hg := leave hg hn2
     refine awp_seq ?_
     refine awp_sub (σ' := mk [(6, .sl 2 (encL api_Required.enc out_2))] [] 0) (sub_ []) ?_
     refine awp_region (sys _ _ []) 0 32 mk_U rfl rfl ?_
     refine go_ ?_
     obtain ⟨y_6, hy_6, hg⟩ := bind_some hg
     refine ca_ (w_need_sorted _ _ hy_6) ?_
     refine go_ ?_
     refine ch_n fun hU => ?_
     refine aw_r ?_
     obtain rfl := Option.some.inj hg
     exact fin_ [] ⟨rfl, rfl⟩
end Go.Proofs.YtkpcbnnlefcebaaGreat
