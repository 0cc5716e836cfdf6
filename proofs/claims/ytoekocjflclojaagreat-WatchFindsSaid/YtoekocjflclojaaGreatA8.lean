/- The program computes the plain functions. -/
import Derived.Test.YtoekocjflclojaaGreatT1
import Derived.Test.YtoekocjflclojaaGreatA1
import Derived.Test.YtoekocjflclojaaGreatA3
import Derived.Test.YtoekocjflclojaaGreatA5
import Derived.Test.YtoekocjflclojaaGreatA7
set_option linter.unusedVariables false
set_option linter.unusedSimpArgs false
set_option maxRecDepth 100000
set_option maxHeartbeats 1600000
namespace Go.Proofs.YtoekocjflclojaaGreat
open Go.RowKit
theorem w_lifetime_Check (i : api_Item) (r : Int) (hg : g_lifetime_Check i = some r) : Fn Tryz.prog 40 0 [.agg (api_Item.dv i)] [] (fun d b => d = .val (.int .i64 r) ∧ b = []) := by
 unfold g_lifetime_Check at hg
 refine Fn.of Tryz.func40 rfl rfl rfl fun w0 I ρ0 => ?_
 show awp _ ⟨w0, I, ρ0, 0, 0, 96⟩ _ _ _
 refine sr_ 0 16 mk_U ?_
 refine go_ ?_
 refine ch_n fun hU => ?_
 refine awp_cut (ι := Bool) (fun (known_1 : Bool) => mk [(1, .ptr 0 0), (3, .val (.bool known_1))] [(0, .box (api_Item.dv i) 65)] 1) (fun (known_1 : Bool) => g_lifetime_Check.j1 i known_1 = some r) ?_ ?_
 ·refine awp_region (sys _ _ []) 16 88 hU rfl rfl ?_
  refine go_ ?_
  rcases bc_ hg with ⟨h2, hg⟩ | ⟨h2, hg⟩
  ·refine go_ ?_
   refine ch_n fun hU => ?_
   exact ⟨true, hg, sub_ [(0, 0)]⟩
  ·refine go_ ?_
   refine ch_n fun hU => ?_
   exact ⟨decide (i.Kind = 2), hg, sub_ [(0, 0)]⟩
 ·rintro known_1 hg
  replace hg : g_lifetime_Check.j1 i known_1 = some r := hg
  show awp _ _ _ _ (mk _ _ _)
  unfold g_lifetime_Check.j1 at hg
  refine awp_seq ?_
  refine awp_cut (ι := Bool) (fun (x43_2 : Bool) => mk [(1, .ptr 0 0), (43, .val (.bool x43_2))] [(0, .box (api_Item.dv i) 65)] 1) (fun (x43_2 : Bool) => g_lifetime_Check.j2 i x43_2 = some r) ?_ ?_
  ·refine awp_region (sys _ _ []) 1 241 mk_U rfl rfl ?_
   refine go_ ?_
   obtain ⟨y, hy, hg⟩ := bind_some hg
   refine ca_ (w_catalog_Named _ _ hy) ?_
   refine go_ ?_
   rcases bc_ hg with ⟨h5, hg⟩ | ⟨h5, hg⟩
   ·refine go_ ?_
    refine ch_n fun hU => ?_
    exact ⟨true, hg, sub_ [(0, 0)]⟩
   ·refine go_ ?_
    rcases bc_ hg with ⟨h7, hg⟩ | ⟨h7, hg⟩
    ·refine go_ ?_
     refine ch_n fun hU => ?_
     exact ⟨true, hg, sub_ [(0, 0)]⟩
    ·refine go_ ?_
     rcases bc_ hg with ⟨h9, hg⟩ | ⟨h9, hg⟩
     ·refine go_ ?_
      refine ch_n fun hU => ?_
      exact ⟨true, hg, sub_ [(0, 0)]⟩
     ·refine go_ ?_
      rcases bc_ hg with ⟨h11, hg⟩ | ⟨h11, hg⟩
      ·refine go_ ?_
       refine ch_n fun hU => ?_
       exact ⟨true, hg, sub_ [(0, 0)]⟩
      ·refine go_ ?_
       rcases bc_ hg with ⟨h13, hg⟩ | ⟨h13, hg⟩
       ·refine go_ ?_
        refine ch_n fun hU => ?_
        exact ⟨true, hg, sub_ [(0, 0)]⟩
       ·refine go_ ?_
        refine ch_n fun hU => ?_
        exact ⟨decide (8 < (i.Links.length : Int)), hg, sub_ [(0, 0)]⟩
  ·rintro x43_2 hg
   replace hg : g_lifetime_Check.j2 i x43_2 = some r := hg
   show awp _ _ _ _ (mk _ _ _)
   unfold g_lifetime_Check.j2 at hg
   refine cg_ rfl hg (fun h16 hg => ?_) fun h16 hg => ?_
   ·refine awp_seq ?_
    refine awp_region (sys _ _ []) 1 9 mk_U rfl rfl ?_
    refine go_ ?_
    refine ch_n fun hU => ?_
    refine aw_r ?_
    obtain rfl := Option.some.inj hg
    exact fin_ [] ⟨rfl, rfl⟩
   ·refine awp_skip ?_
    repeat first | refine st_ ?_ | refine sn_ ?_
    refine awp_seq ?_
    refine sr_ 1 33 mk_U ?_
    refine go_ ?_
    refine ch_n fun hU => ?_
    refine awp_block ?_
    refine lp_ (fun (x47_3 : Int) => mk [(1, .ptr 0 0), (45, .sl 3 (encL api_Link.enc i.Links)), (46, .val (.int .i64 (i.Links.length : Int))), (47, .val (.int .i64 x47_3))] [(0, .box (api_Item.dv i) 65)] 1) hg (sub_ [(0, 0)]) ?_
    rintro x47_3 m3 o3 hg hn3
    replace hg : g_lifetime_Check.l3 i x47_3 = some o3 := hg
    show awp _ _ _ _ (mk _ _ _)
    unfold g_lifetime_Check.l3 at hg
    refine sr_ 1 9 mk_U ?_
    refine go_ ?_
    refine ch_n fun hU => ?_
    refine awp_seq ?_
    refine cg_ rfl hg (fun h20 hg => ?_) fun h20 hg => ?_
    ·refine awp_skip ?_
     repeat first | refine st_ ?_ | refine sn_ ?_
     refine awp_seq ?_
     refine awp_block ?_
     refine sr_ 9 57 hU ?_
     refine go_ ?_
     obtain ⟨e, he, hg⟩ := bind_some hg
     refine go_ ?_
     refine c0_ rfl rfl (r_loadEA ty86 (enc_cells api_Link.enc_len (getI_at he) (o := 0) (m := 3) (cs := [.int .i64 e.Use.Alg, .int .i64 e.Use.Bits, .int .i64 e.Day]) rfl (by decide) rfl) (enc_cells_le api_Link.enc_len (getI_at he) (o := 0) (m := 3) (by decide) rfl)) rfl rfl ?_
     refine go_ ?_
     refine ch_n fun hU => ?_
     refine awp_cut (ι := Bool) (fun (x81_4 : Bool) => mk [(1, .ptr 0 0), (45, .sl 3 (encL api_Link.enc i.Links)), (46, .val (.int .i64 (i.Links.length : Int))), (47, .val (.int .i64 x47_3)), (81, .val (.bool x81_4))] [(0, .box (api_Item.dv i) 65)] 1) (fun (x81_4 : Bool) => g_lifetime_Check.j4 x47_3 x81_4 = some o3) ?_ ?_
     ·refine awp_draw (sys _ _ []) (by kernel_rfl) [0, 1, 3, 7, 15, 31, 63, 127, 255, 511, 1023, 2047, 4095, 8191, 16383, 32767, 65535, 131071, 262143, 524287, 262143, 1310719, 4194303, 8388607, 16777215, 262143, 33816575, 134217727, 268435455, 536870911] 57 297 hU rfl rfl (by kernel_rfl) ?_
      refine go_ ?_
      obtain ⟨y_2, hy_2, hg⟩ := bind_some hg
      refine ca_ (w_catalog_Valid _ _ hy_2) ?_
      refine go_ ?_
      rcases bc_ hg with ⟨h22, hg⟩ | ⟨h22, hg⟩
      ·refine go_ ?_
       refine ch_n fun hU => ?_
       exact ⟨true, hg, sub_ [(0, 0)]⟩
      ·refine go_ ?_
       rcases bc_ hg with ⟨h24, hg⟩ | ⟨h24, hg⟩
       ·refine go_ ?_
        refine ch_n fun hU => ?_
        exact ⟨true, hg, sub_ [(0, 0)]⟩
       ·refine go_ ?_
        rcases bc_ hg with ⟨h26, hg⟩ | ⟨h26, hg⟩
        ·refine go_ ?_
         refine ch_n fun hU => ?_
         exact ⟨true, hg, sub_ [(0, 0)]⟩
        ·refine go_ ?_
         rcases bc_ hg with ⟨h28, hg⟩ | ⟨h28, hg⟩
         ·refine go_ ?_
          obtain ⟨e_2, he_2, hg⟩ := bind_some hg
          refine go_ ?_
          refine c0_ (gdv_t rfl rfl h28) rfl (r_fieldE fd86_1 ty3 (by decide) (enc_lt api_Link.enc_len (getI_at he_2) (o := 2) (by decide) rfl)) rfl rfl ?_
          refine c0_ (gdv_t rfl rfl h28) rfl (r_loadE1 ty3 (enc_cell api_Link.enc_len (getI_at he_2) (o := 2) (c := .int .i64 e_2.Day) rfl rfl)) rfl rfl ?_
          refine go_ ?_
          refine ch_n fun hU => ?_
          exact ⟨decide (e.Day ≤ e_2.Day), hg, sub_ [(0, 0)]⟩
         ·refine go_ ?_
          refine ch_n fun hU => ?_
          exact ⟨false, hg, sub_ [(0, 0)]⟩
     ·rintro x81_4 hg
      replace hg : g_lifetime_Check.j4 x47_3 x81_4 = some o3 := hg
      show awp _ _ _ _ (mk _ _ _)
      unfold g_lifetime_Check.j4 at hg
      refine cg_ rfl hg (fun h31 hg => ?_) fun h31 hg => ?_
      ·refine awp_seq ?_
       refine awp_region (sys _ _ []) 1 9 mk_U rfl rfl ?_
       refine go_ ?_
       refine ch_n fun hU => ?_
       refine aw_r ?_
       replace hg := leave hg hn3
       obtain rfl := Option.some.inj hg
       exact fin_ [] ⟨rfl, rfl⟩
      ·refine awp_skip ?_
       repeat first | refine st_ ?_ | refine sn_ ?_
       refine awp_region (sys _ _ []) 1 17 mk_U rfl rfl ?_
       refine go_ ?_
       refine ch_n fun hU => ?_
       obtain rfl := Option.some.inj hg
       exact ⟨(W (x47_3 + 1), m3), Nat.lt_succ_self _, hn3, sub_ [(0, 0)]⟩
    ·refine awp_exit ?_
     repeat first | refine st_ ?_ | refine sn_ ?_
     replace hg := leave hg hn3
     refine awp_seq ?_
     refine awp_cut (ι := Bool) (fun (x95_5 : Bool) => mk [(95, .val (.bool x95_5))] [] 0) (fun (x95_5 : Bool) => g_lifetime_Check.j5 x95_5 = some r) ?_ ?_
     ·refine awp_draw (sys _ _ []) (by kernel_rfl) [0, 1, 0, 4, 12, 28, 60, 127, 255, 511, 1023, 2047, 4095] 9 113 hU rfl rfl (by kernel_rfl) ?_
      refine go_ ?_
      obtain ⟨e_3, he_3, hg⟩ := bind_some hg
      refine go_ ?_
      refine c0_ rfl rfl (r_fieldE fd86_1 ty3 (by decide) (enc_lt api_Link.enc_len (getI_at he_3) (o := 2) (by decide) rfl)) rfl rfl ?_
      refine c0_ rfl rfl (r_loadE1 ty3 (enc_cell api_Link.enc_len (getI_at he_3) (o := 2) (c := .int .i64 e_3.Day) rfl rfl)) rfl rfl ?_
      refine go_ ?_
      rcases bc_ hg with ⟨h34, hg⟩ | ⟨h34, hg⟩
      ·refine go_ ?_
       refine ch_n fun hU => ?_
       exact ⟨true, hg, sub_ []⟩
      ·refine go_ ?_
       refine ch_n fun hU => ?_
       exact ⟨decide (40000 < i.Until), hg, sub_ []⟩
     ·rintro x95_5 hg
      replace hg : g_lifetime_Check.j5 x95_5 = some r := hg
      show awp _ _ _ _ (mk _ _ _)
      unfold g_lifetime_Check.j5 at hg
      refine cg_ rfl hg (fun h37 hg => ?_) fun h37 hg => ?_
      ·refine awp_seq ?_
       refine awp_region (sys _ _ []) 0 8 mk_U rfl rfl ?_
       refine go_ ?_
       refine ch_n fun hU => ?_
       refine aw_r ?_
       obtain rfl := Option.some.inj hg
       exact fin_ [] ⟨rfl, rfl⟩
      ·refine awp_skip ?_
       repeat first | refine st_ ?_ | refine sn_ ?_
       refine sr_ 0 8 mk_U ?_
       refine go_ ?_
       refine ch_n fun hU => ?_
       refine aw_r ?_
       obtain rfl := Option.some.inj hg
       exact fin_ [] ⟨rfl, rfl⟩
theorem w_exposure_Check_c1 (x' : api_Item) (r : Bool) (hg : g_exposure_Check_c1 x' = some r) : Fn Tryz.prog 39 0 [.agg (api_Item.dv x')] [] (fun d b => d = .val (.bool r) ∧ b = []) := by
 unfold g_exposure_Check_c1 at hg
 refine Fn.of Tryz.func39 rfl rfl rfl fun w0 I ρ0 => ?_
 show awp _ ⟨w0, I, ρ0, 0, 0, 6⟩ _ _ _
 refine sr_ 0 16 mk_U ?_
 refine go_ ?_
 refine ch_n fun hU => ?_
 refine sr_ 16 48 hU ?_
 refine go_ ?_
 obtain ⟨y, hy, hg⟩ := bind_some hg
 refine ca_ (w_lifetime_Check _ _ hy) ?_
 refine go_ ?_
 refine ch_n fun hU => ?_
 refine aw_r ?_
 obtain rfl := Option.some.inj hg
 exact fin_ [] ⟨rfl, rfl⟩
theorem w_slices_IndexFunc_api_Item_clo_39_0_ (s : (List api_Item)) (f : api_Item → Option (Bool)) (hf_f : ∀ (x0 : api_Item) (y : Bool), f x0 = some y → Fn Tryz.prog 39 0 [.agg (api_Item.dv x0)] [] (fun d b => d = .val (.bool y) ∧ b = [])) (r : Int) (hg : g_slices_IndexFunc_api_Item s f = some r) : Fn Tryz.prog 65 0 [.sl 5 (encL api_Item.enc s), .clo 39 0 []] [] (fun d b => d = .val (.int .i64 r) ∧ b = []) := by
 unfold g_slices_IndexFunc_api_Item at hg
 refine Fn.of Tryz.func65 rfl rfl rfl fun w0 I ρ0 => ?_
 show awp _ ⟨w0, I, ρ0, 0, 0, 19⟩ _ _ _
 refine sr_ 0 8 mk_U ?_
 refine go_ ?_
 refine ch_n fun hU => ?_
 refine awp_seq ?_
 refine sr_ 8 32 hU ?_
 refine go_ ?_
 refine ch_n fun hU => ?_
 refine awp_block ?_
 refine lp_ (fun (x8_1 : Int) => mk [(0, .sl 5 (encL api_Item.enc s)), (1, .clo 39 0 []), (7, .val (.int .i64 (s.length : Int))), (8, .val (.int .i64 x8_1))] [] 0) hg (sub_ []) ?_
 rintro x8_1 m1 o1 hg hn1
 replace hg : g_slices_IndexFunc_api_Item.l1 s f x8_1 = some o1 := hg
 show awp _ _ _ _ (mk _ _ _)
 unfold g_slices_IndexFunc_api_Item.l1 at hg
 refine sr_ 0 8 mk_U ?_
 refine go_ ?_
 refine ch_n fun hU => ?_
 refine awp_seq ?_
 refine cg_ rfl hg (fun h4 hg => ?_) fun h4 hg => ?_
 ·refine awp_skip ?_
  repeat first | refine st_ ?_ | refine sn_ ?_
  refine awp_seq ?_
  refine awp_block ?_
  refine sr_ 8 24 hU ?_
  refine go_ ?_
  refine ch_n fun hU => ?_
  refine sr_ 24 72 hU ?_
  refine go_ ?_
  obtain ⟨e, he, hg⟩ := bind_some hg
  refine go_ ?_
  refine c0_ rfl rfl (r_loadEA ty65 (enc_cells api_Item.enc_len (getI_at he) (o := 0) (m := 5) (cs := [.str e.Name, .int .i64 e.Kind, .int .i64 e.Purpose, .sl 3 (encL api_Link.enc e.Links), .int .i64 e.Until]) rfl (by decide) rfl) (enc_cells_le api_Item.enc_len (getI_at he) (o := 0) (m := 5) (by decide) rfl)) rfl rfl ?_
  obtain ⟨y, hy, hg⟩ := bind_some hg
  refine ch_callCP (rd := []) (ps := []) (gs := []) false rfl rfl (hf_f e _ hy) rfl rfl (.cons (.agg (.cons .val (.cons .val (.cons .val (.cons .sl (.cons .val .nil)))))) .nil) rfl rfl (by intro h; cases h) rfl rfl rfl rfl ?_
  refine ch_n fun hU => ?_
  refine cg_ rfl hg (fun h7 hg => ?_) fun h7 hg => ?_
  ·refine awp_seq ?_
   refine awp_region (sys _ _ []) 72 88 hU rfl rfl ?_
   refine go_ ?_
   refine ch_n fun hU => ?_
   refine aw_r ?_
   replace hg := leave hg hn1
   obtain rfl := Option.some.inj hg
   exact fin_ [] ⟨rfl, rfl⟩
  ·refine awp_skip ?_
   repeat first | refine st_ ?_ | refine sn_ ?_
   refine awp_region (sys _ _ []) 72 88 hU rfl rfl ?_
   refine go_ ?_
   refine ch_n fun hU => ?_
   obtain rfl := Option.some.inj hg
   exact ⟨(W (x8_1 + 1), m1), Nat.lt_succ_self _, hn1, sub_ []⟩
 ·refine awp_exit ?_
  repeat first | refine st_ ?_ | refine sn_ ?_
  replace hg := leave hg hn1
  refine sr_ 8 16 hU ?_
  refine go_ ?_
  refine ch_n fun hU => ?_
  refine aw_r ?_
  obtain rfl := Option.some.inj hg
  exact fin_ [] ⟨rfl, rfl⟩
theorem w_slices_ContainsFunc_api_Item_clo_39_0_ (s : (List api_Item)) (f : api_Item → Option (Bool)) (hf_f : ∀ (x0 : api_Item) (y : Bool), f x0 = some y → Fn Tryz.prog 39 0 [.agg (api_Item.dv x0)] [] (fun d b => d = .val (.bool y) ∧ b = [])) (r : Bool) (hg : g_slices_ContainsFunc_api_Item s f = some r) : Fn Tryz.prog 38 0 [.sl 5 (encL api_Item.enc s), .clo 39 0 []] [] (fun d b => d = .val (.bool r) ∧ b = []) := by
 unfold g_slices_ContainsFunc_api_Item at hg
 refine Fn.of Tryz.func38 rfl rfl rfl fun w0 I ρ0 => ?_
 show awp _ ⟨w0, I, ρ0, 0, 0, 9⟩ _ _ _
 refine sr_ 0 8 mk_U ?_
 refine go_ ?_
 refine ch_n fun hU => ?_
 refine sr_ 8 48 hU ?_
 refine go_ ?_
 obtain ⟨y, hy, hg⟩ := bind_some hg
 refine ca_ (w_slices_IndexFunc_api_Item_clo_39_0_ s f hf_f _ hy) ?_
 refine go_ ?_
 refine ch_n fun hU => ?_
 refine aw_r ?_
 obtain rfl := Option.some.inj hg
 exact fin_ [] ⟨rfl, rfl⟩
theorem w_exposure_linked (l : (List api_Edge)) (size : Int) (r : Bool) (hg : g_exposure_linked l size = some r) : Fn Tryz.prog 41 0 [.sl 2 (encL api_Edge.enc l), .val (.int .i64 size)] [] (fun d b => d = .val (.bool r) ∧ b = []) := by
 unfold g_exposure_linked at hg
 refine Fn.of Tryz.func41 rfl rfl rfl fun w0 I ρ0 => ?_
 show awp _ ⟨w0, I, ρ0, 0, 0, 80⟩ _ _ _
 refine sr_ 0 8 mk_U ?_
 refine go_ ?_
 refine ch_n fun hU => ?_
 refine awp_seq ?_
 refine sr_ 8 32 hU ?_
 refine go_ ?_
 refine ch_n fun hU => ?_
 refine awp_block ?_
 refine lp_ (fun (x9_1 : Int) => mk [(0, .sl 2 (encL api_Edge.enc l)), (1, .val (.int .i64 size)), (7, .sl 2 (encL api_Edge.enc l)), (8, .val (.int .i64 (l.length : Int))), (9, .val (.int .i64 x9_1))] [] 0) hg (sub_ []) ?_
 rintro x9_1 m1 o1 hg hn1
 replace hg : g_exposure_linked.l1 l size x9_1 = some o1 := hg
 show awp _ _ _ _ (mk _ _ _)
 unfold g_exposure_linked.l1 at hg
 refine sr_ 0 8 mk_U ?_
 refine go_ ?_
 refine ch_n fun hU => ?_
 refine awp_seq ?_
 refine cg_ rfl hg (fun h4 hg => ?_) fun h4 hg => ?_
 ·refine awp_skip ?_
  repeat first | refine st_ ?_ | refine sn_ ?_
  refine awp_seq ?_
  refine awp_block ?_
  refine sr_ 8 56 hU ?_
  refine go_ ?_
  obtain ⟨e, he, hg⟩ := bind_some hg
  refine go_ ?_
  refine c0_ rfl rfl (r_loadEA ty62 (enc_cells api_Edge.enc_len (getI_at he) (o := 0) (m := 2) (cs := [.int .i64 e.Client, .int .i64 e.Server]) rfl (by decide) rfl) (enc_cells_le api_Edge.enc_len (getI_at he) (o := 0) (m := 2) (by decide) rfl)) rfl rfl ?_
  refine go_ ?_
  refine ch_n fun hU => ?_
  refine awp_seq ?_
  refine awp_cut (ι := Bool) (fun (x40_2 : Bool) => mk [(0, .sl 2 (encL api_Edge.enc l)), (1, .val (.int .i64 size)), (5, .val (.int .i64 x9_1)), (6, .ptr 0 0), (7, .sl 2 (encL api_Edge.enc l)), (8, .val (.int .i64 (l.length : Int))), (9, .val (.int .i64 x9_1)), (40, .val (.bool x40_2))] [(0, .box [.val (.int .i64 e.Client), .val (.int .i64 e.Server)] 62)] 1) (fun (x40_2 : Bool) => g_exposure_linked.j2 l x9_1 e x40_2 = some o1) ?_ ?_
  ·refine awp_region (sys _ _ []) 56 272 hU rfl rfl ?_
   refine go_ ?_
   rcases bc_ hg with ⟨h6, hg⟩ | ⟨h6, hg⟩
   ·refine go_ ?_
    refine ch_n fun hU => ?_
    exact ⟨true, hg, sub_ [(0, 32)]⟩
   ·refine go_ ?_
    rcases bc_ hg with ⟨h8, hg⟩ | ⟨h8, hg⟩
    ·refine go_ ?_
     refine ch_n fun hU => ?_
     exact ⟨true, hg, sub_ [(0, 32)]⟩
    ·refine go_ ?_
     rcases bc_ hg with ⟨h10, hg⟩ | ⟨h10, hg⟩
     ·refine go_ ?_
      refine ch_n fun hU => ?_
      exact ⟨true, hg, sub_ [(0, 32)]⟩
     ·refine go_ ?_
      rcases bc_ hg with ⟨h12, hg⟩ | ⟨h12, hg⟩
      ·refine go_ ?_
       refine ch_n fun hU => ?_
       exact ⟨true, hg, sub_ [(0, 32)]⟩
      ·refine go_ ?_
       refine ch_n fun hU => ?_
       exact ⟨decide (e.Client = e.Server), hg, sub_ [(0, 32)]⟩
  ·rintro x40_2 hg
   replace hg : g_exposure_linked.j2 l x9_1 e x40_2 = some o1 := hg
   show awp _ _ _ _ (mk _ _ _)
   unfold g_exposure_linked.j2 at hg
   refine cg_ rfl hg (fun h15 hg => ?_) fun h15 hg => ?_
   ·refine awp_seq ?_
    refine awp_region (sys _ _ []) 1 9 mk_U rfl rfl ?_
    refine go_ ?_
    refine ch_n fun hU => ?_
    refine aw_r ?_
    replace hg := leave hg hn1
    obtain rfl := Option.some.inj hg
    exact fin_ [] ⟨rfl, rfl⟩
   ·refine awp_skip ?_
    repeat first | refine st_ ?_ | refine sn_ ?_
    refine awp_cut (ι := Bool) (fun (x75_3 : Bool) => mk [(0, .sl 2 (encL api_Edge.enc l)), (1, .val (.int .i64 size)), (7, .sl 2 (encL api_Edge.enc l)), (8, .val (.int .i64 (l.length : Int))), (9, .val (.int .i64 x9_1)), (75, .val (.bool x75_3))] [] 0) (fun (x75_3 : Bool) => g_exposure_linked.j3 x9_1 x75_3 = some o1) ?_ ?_
    ·refine awp_draw (sys _ _ []) (by kernel_rfl) [0, 1, 3, 7, 7, 23, 63, 127, 255, 7, 519, 2047, 4095, 8191, 8191, 24575, 65535, 131071, 262143, 8191, 532479, 2097151, 4194303, 8388607, 8388607, 25165823, 67108863, 134217727, 268435455, 8388607, 545259519, 2147483647, 4294967295, 8589934591, 17179869183] 1 281 mk_U rfl rfl (by kernel_rfl) ?_
     refine go_ ?_
     rcases bc_ hg with ⟨h17, hg⟩ | ⟨h17, hg⟩
     ·refine go_ ?_
      obtain ⟨e_2, he_2, hg⟩ := bind_some hg
      refine go_ ?_
      refine c0_ (gdv_t rfl rfl h17) rfl (r_fieldE fd62_0 ty3 (by decide) (enc_lt api_Edge.enc_len (getI_at he_2) (o := 0) (by decide) rfl)) rfl rfl ?_
      refine c0_ (gdv_t rfl rfl h17) rfl (r_loadE1 ty3 (enc_cell api_Edge.enc_len (getI_at he_2) (o := 0) (c := .int .i64 e_2.Client) rfl rfl)) rfl rfl ?_
      refine go_ ?_
      rcases bc_ hg with ⟨h18, hg⟩ | ⟨h18, hg⟩
      ·refine go_ ?_
       refine ch_n fun hU => ?_
       exact ⟨true, hg, sub_ []⟩
      ·refine go_ ?_
       refine c0_ (gdv_t rfl rfl h18) rfl (r_fieldE fd62_0 ty3 (by decide) (enc_lt api_Edge.enc_len (getI_at he_2) (o := 0) (by decide) rfl)) rfl rfl ?_
       refine c0_ (gdv_t rfl rfl h18) rfl (r_loadE1 ty3 (enc_cell api_Edge.enc_len (getI_at he_2) (o := 0) (c := .int .i64 e_2.Client) rfl rfl)) rfl rfl ?_
       refine go_ ?_
       rcases bc_ hg with ⟨h20, hg⟩ | ⟨h20, hg⟩
       ·refine go_ ?_
        refine c0_ (gdv_t rfl rfl h20) rfl (r_fieldE fd62_1 ty3 (by decide) (enc_lt api_Edge.enc_len (getI_at he_2) (o := 1) (by decide) rfl)) rfl rfl ?_
        refine c0_ (gdv_t rfl rfl h20) rfl (r_loadE1 ty3 (enc_cell api_Edge.enc_len (getI_at he_2) (o := 1) (c := .int .i64 e_2.Server) rfl rfl)) rfl rfl ?_
        refine go_ ?_
        refine ch_n fun hU => ?_
        exact ⟨decide (e.Server ≤ e_2.Server), hg, sub_ []⟩
       ·refine go_ ?_
        refine ch_n fun hU => ?_
        exact ⟨false, hg, sub_ []⟩
     ·refine go_ ?_
      refine ch_n fun hU => ?_
      exact ⟨false, hg, sub_ []⟩
    ·rintro x75_3 hg
     replace hg : g_exposure_linked.j3 x9_1 x75_3 = some o1 := hg
     show awp _ _ _ _ (mk _ _ _)
     unfold g_exposure_linked.j3 at hg
     refine cg_ rfl hg (fun h24 hg => ?_) fun h24 hg => ?_
     ·refine awp_seq ?_
      refine awp_region (sys _ _ []) 0 8 mk_U rfl rfl ?_
      refine go_ ?_
      refine ch_n fun hU => ?_
      refine aw_r ?_
      replace hg := leave hg hn1
      obtain rfl := Option.some.inj hg
      exact fin_ [] ⟨rfl, rfl⟩
     ·refine awp_skip ?_
      repeat first | refine st_ ?_ | refine sn_ ?_
      refine awp_region (sys _ _ []) 0 16 mk_U rfl rfl ?_
      refine go_ ?_
      refine ch_n fun hU => ?_
      obtain rfl := Option.some.inj hg
      exact ⟨(W (x9_1 + 1), m1), Nat.lt_succ_self _, hn1, sub_ []⟩
 ·refine awp_exit ?_
  repeat first | refine st_ ?_ | refine sn_ ?_
  replace hg := leave hg hn1
  refine sr_ 8 40 hU ?_
  refine go_ ?_
  refine ch_n fun hU => ?_
  refine aw_r ?_
  obtain rfl := Option.some.inj hg
  exact fin_ [] ⟨rfl, rfl⟩
theorem w_exposure_Check (e : api_Estate) (r : Int) (hg : g_exposure_Check e = some r) : Fn Tryz.prog 23 0 [.agg (api_Estate.dv e)] [] (fun d b => d = .val (.int .i64 r) ∧ b = []) := by
 unfold g_exposure_Check at hg
 refine Fn.of Tryz.func23 rfl rfl rfl fun w0 I ρ0 => ?_
 show awp _ ⟨w0, I, ρ0, 0, 0, 59⟩ _ _ _
 refine sr_ 0 16 mk_U ?_
 refine go_ ?_
 refine ch_n fun hU => ?_
 refine awp_seq ?_
 refine sr_ 16 48 hU ?_
 refine go_ ?_
 refine ch_n fun hU => ?_
 refine awp_block ?_
 refine lp_ (fun (x9_1 : Int) => mk [(1, .ptr 0 0), (7, .sl 9 (encL api_Endpoint.enc e.Endpoints)), (8, .val (.int .i64 (e.Endpoints.length : Int))), (9, .val (.int .i64 x9_1))] [(0, .box (api_Estate.dv e) 31)] 1) hg (sub_ [(0, 0)]) ?_
 rintro x9_1 m1 o1 hg hn1
 replace hg : g_exposure_Check.l1 e x9_1 = some o1 := hg
 show awp _ _ _ _ (mk _ _ _)
 unfold g_exposure_Check.l1 at hg
 refine sr_ 1 9 mk_U ?_
 refine go_ ?_
 refine ch_n fun hU => ?_
 refine awp_seq ?_
 refine cg_ rfl hg (fun h4 hg => ?_) fun h4 hg => ?_
 ·refine awp_skip ?_
  repeat first | refine st_ ?_ | refine sn_ ?_
  refine awp_seq ?_
  refine awp_block ?_
  refine sr_ 9 57 hU ?_
  refine go_ ?_
  obtain ⟨e_2, he_2, hg⟩ := bind_some hg
  refine go_ ?_
  refine c0_ rfl rfl (r_loadEA ty37 (enc_cells api_Endpoint.enc_len (getI_at he_2) (o := 0) (m := 9) (cs := [.str e_2.Name, .int .i64 e_2.Least, .int .i64 e_2.Most, .sl 1 (encL eI e_2.Suites), .bool e_2.OwnOrder, .sl 4 (encL api_Identity.enc e_2.Identities), .sl 1 (encL eI e_2.Anchors), .sl 1 (encL eI e_2.Hashes), .bool e_2.Fallback]) rfl (by decide) rfl) (enc_cells_le api_Endpoint.enc_len (getI_at he_2) (o := 0) (m := 9) (by decide) rfl)) rfl rfl ?_
  refine go_ ?_
  refine ch_n fun hU => ?_
  refine awp_cut (ι := Bool) (fun (x32_2 : Bool) => mk [(1, .ptr 0 0), (7, .sl 9 (encL api_Endpoint.enc e.Endpoints)), (8, .val (.int .i64 (e.Endpoints.length : Int))), (9, .val (.int .i64 x9_1)), (32, .val (.bool x32_2))] [(0, .box (api_Estate.dv e) 31)] 1) (fun (x32_2 : Bool) => g_exposure_Check.j2 x9_1 x32_2 = some o1) ?_ ?_
  ·refine awp_draw (sys _ _ []) (by kernel_rfl) [0, 1, 3, 7, 15, 31, 63, 127, 255, 127, 639, 2047, 4095, 8191, 127, 16511, 65535, 131071, 262143] 57 209 hU rfl rfl (by kernel_rfl) ?_
   refine go_ ?_
   obtain ⟨y, hy, hg⟩ := bind_some hg
   refine ca_ (w_endpoint_Check _ _ hy) ?_
   refine go_ ?_
   rcases bc_ hg with ⟨h6, hg⟩ | ⟨h6, hg⟩
   ·refine go_ ?_
    refine ch_n fun hU => ?_
    exact ⟨true, hg, sub_ [(0, 0)]⟩
   ·refine go_ ?_
    rcases bc_ hg with ⟨h8, hg⟩ | ⟨h8, hg⟩
    ·refine go_ ?_
     obtain ⟨e_3, he_3, hg⟩ := bind_some hg
     refine go_ ?_
     refine c0_ (gdv_t rfl rfl h8) rfl (r_fieldE fd37_0 ty9 (by decide) (enc_lt api_Endpoint.enc_len (getI_at he_3) (o := 0) (by decide) rfl)) rfl rfl ?_
     refine c0_ (gdv_t rfl rfl h8) rfl (r_loadE1 ty9 (enc_cell api_Endpoint.enc_len (getI_at he_3) (o := 0) (c := .str e_3.Name) rfl rfl)) rfl rfl ?_
     refine go_ ?_
     refine c0_ (gdv_t rfl rfl h8) rfl r_sgeq rfl rfl ?_
     refine go_ ?_
     refine ch_n fun hU => ?_
     exact ⟨!ltT (toB e_3.Name) (toB e_2.Name), hg, sub_ [(0, 0)]⟩
    ·refine go_ ?_
     refine ch_n fun hU => ?_
     exact ⟨false, hg, sub_ [(0, 0)]⟩
  ·rintro x32_2 hg
   replace hg : g_exposure_Check.j2 x9_1 x32_2 = some o1 := hg
   show awp _ _ _ _ (mk _ _ _)
   unfold g_exposure_Check.j2 at hg
   refine cg_ rfl hg (fun h11 hg => ?_) fun h11 hg => ?_
   ·refine awp_seq ?_
    refine awp_region (sys _ _ []) 1 9 mk_U rfl rfl ?_
    refine go_ ?_
    refine ch_n fun hU => ?_
    refine aw_r ?_
    replace hg := leave hg hn1
    obtain rfl := Option.some.inj hg
    exact fin_ [] ⟨rfl, rfl⟩
   ·refine awp_skip ?_
    repeat first | refine st_ ?_ | refine sn_ ?_
    refine awp_region (sys _ _ []) 1 17 mk_U rfl rfl ?_
    refine go_ ?_
    refine ch_n fun hU => ?_
    obtain rfl := Option.some.inj hg
    exact ⟨(W (x9_1 + 1), m1), Nat.lt_succ_self _, hn1, sub_ [(0, 0)]⟩
 ·refine awp_exit ?_
  repeat first | refine st_ ?_ | refine sn_ ?_
  replace hg := leave hg hn1
  refine sr_ 9 41 hU ?_
  refine go_ ?_
  obtain ⟨y_2, hy_2, hg⟩ := bind_some hg
  refine ca_ (w_slices_ContainsFunc_api_Item_clo_39_0_ e.Items (fun x0 => g_exposure_Check_c1 x0) (fun x0 y h => w_exposure_Check_c1 x0 y h) _ hy_2) ?_
  refine go_ ?_
  refine ch_n fun hU => ?_
  refine awp_seq ?_
  refine awp_cut (ι := Bool) (fun (x58_3 : Bool) => mk [(58, .val (.bool x58_3))] [] 0) (fun (x58_3 : Bool) => g_exposure_Check.j3 x58_3 = some r) ?_ ?_
  ·refine awp_region (sys _ _ []) 41 217 hU rfl rfl ?_
   refine go_ ?_
   rcases bc_ hg with ⟨h15, hg⟩ | ⟨h15, hg⟩
   ·refine go_ ?_
    refine ch_n fun hU => ?_
    exact ⟨true, hg, sub_ []⟩
   ·refine go_ ?_
    rcases bc_ hg with ⟨h17, hg⟩ | ⟨h17, hg⟩
    ·refine go_ ?_
     refine ch_n fun hU => ?_
     exact ⟨true, hg, sub_ []⟩
    ·refine go_ ?_
     rcases bc_ hg with ⟨h19, hg⟩ | ⟨h19, hg⟩
     ·refine go_ ?_
      refine ch_n fun hU => ?_
      exact ⟨true, hg, sub_ []⟩
     ·refine go_ ?_
      obtain ⟨y_3, hy_3, hg⟩ := bind_some hg
      refine ca_ (w_exposure_linked _ _ _ hy_3) ?_
      refine go_ ?_
      refine ch_n fun hU => ?_
      exact ⟨!y_3, hg, sub_ []⟩
  ·rintro x58_3 hg
   replace hg : g_exposure_Check.j3 x58_3 = some r := hg
   show awp _ _ _ _ (mk _ _ _)
   unfold g_exposure_Check.j3 at hg
   refine cg_ rfl hg (fun h22 hg => ?_) fun h22 hg => ?_
   ·refine awp_seq ?_
    refine awp_region (sys _ _ []) 0 8 mk_U rfl rfl ?_
    refine go_ ?_
    refine ch_n fun hU => ?_
    refine aw_r ?_
    obtain rfl := Option.some.inj hg
    exact fin_ [] ⟨rfl, rfl⟩
   ·refine awp_skip ?_
    repeat first | refine st_ ?_ | refine sn_ ?_
    refine sr_ 0 8 mk_U ?_
    refine go_ ?_
    refine ch_n fun hU => ?_
    refine aw_r ?_
    obtain rfl := Option.some.inj hg
    exact fin_ [] ⟨rfl, rfl⟩
theorem w_watch_All_c1 (x' : api_Endpoint) (c0 : api_Finding) (r : Bool) (hg : g_watch_All_c1 x' c0 = some r) : Fn Tryz.prog 24 0 [.agg (api_Endpoint.dv x'), .elt (([.int .i64 c0.Source, .str c0.Host, .int .i64 c0.Machine, .int .i64 c0.Day, .int .i64 c0.Confidence, .int .i64 c0.Kind, .str c0.Subject, .int .i64 c0.Use.Alg, .int .i64 c0.Use.Bits, .int .i64 c0.Number, .str c0.Text] : List C).drop 0)] [] (fun d b => d = .val (.bool r) ∧ b = []) := by
 unfold g_watch_All_c1 at hg
 refine Fn.of Tryz.func24 rfl rfl rfl fun w0 I ρ0 => ?_
 show awp _ ⟨w0, I, ρ0, 0, 0, 7⟩ _ _ _
 refine sr_ 0 16 mk_U ?_
 refine go_ ?_
 refine ch_n fun hU => ?_
 refine sr_ 16 48 hU ?_
 refine go_ ?_
 refine c0_ rfl rfl (r_loadEA ty44 (cs2 := [.int .i64 c0.Source, .str c0.Host, .int .i64 c0.Machine, .int .i64 c0.Day, .int .i64 c0.Confidence, .int .i64 c0.Kind, .str c0.Subject, .int .i64 c0.Use.Alg, .int .i64 c0.Use.Bits, .int .i64 c0.Number, .str c0.Text]) rfl (Nat.le_of_ble_eq_true rfl)) rfl rfl ?_
 obtain ⟨y, hy, hg⟩ := bind_some hg
 refine ca_ (w_watch_Contradicts _ _ _ hy) ?_
 refine go_ ?_
 refine ch_n fun hU => ?_
 refine aw_r ?_
 obtain rfl := Option.some.inj hg
 exact fin_ [] ⟨rfl, rfl⟩
theorem w_slices_IndexFunc_api_Endpoint_clo_24_0_ref_44 (s : (List api_Endpoint)) (f : api_Endpoint → Option (Bool)) (f_c0 : api_Finding) (hf_f : ∀ (x0 : api_Endpoint) (y : Bool), f x0 = some y → Fn Tryz.prog 24 0 [.agg (api_Endpoint.dv x0), .elt (([.int .i64 f_c0.Source, .str f_c0.Host, .int .i64 f_c0.Machine, .int .i64 f_c0.Day, .int .i64 f_c0.Confidence, .int .i64 f_c0.Kind, .str f_c0.Subject, .int .i64 f_c0.Use.Alg, .int .i64 f_c0.Use.Bits, .int .i64 f_c0.Number, .str f_c0.Text] : List C).drop 0)] [] (fun d b => d = .val (.bool y) ∧ b = [])) (r : Int) (hg : g_slices_IndexFunc_api_Endpoint s f = some r) : Fn Tryz.prog 42 0 [.sl 9 (encL api_Endpoint.enc s), .clo 24 0 [.elt (([.int .i64 f_c0.Source, .str f_c0.Host, .int .i64 f_c0.Machine, .int .i64 f_c0.Day, .int .i64 f_c0.Confidence, .int .i64 f_c0.Kind, .str f_c0.Subject, .int .i64 f_c0.Use.Alg, .int .i64 f_c0.Use.Bits, .int .i64 f_c0.Number, .str f_c0.Text] : List C).drop 0)]] [] (fun d b => d = .val (.int .i64 r) ∧ b = []) := by
 unfold g_slices_IndexFunc_api_Endpoint at hg
 refine Fn.of Tryz.func42 rfl rfl rfl fun w0 I ρ0 => ?_
 show awp _ ⟨w0, I, ρ0, 0, 0, 19⟩ _ _ _
 refine sr_ 0 8 mk_U ?_
 refine go_ ?_
 refine ch_n fun hU => ?_
 refine awp_seq ?_
 refine sr_ 8 32 hU ?_
 refine go_ ?_
 refine ch_n fun hU => ?_
 refine awp_block ?_
 refine lp_ (fun (x8_1 : Int) => mk [(0, .sl 9 (encL api_Endpoint.enc s)), (1, .clo 24 0 [.elt (([.int .i64 f_c0.Source, .str f_c0.Host, .int .i64 f_c0.Machine, .int .i64 f_c0.Day, .int .i64 f_c0.Confidence, .int .i64 f_c0.Kind, .str f_c0.Subject, .int .i64 f_c0.Use.Alg, .int .i64 f_c0.Use.Bits, .int .i64 f_c0.Number, .str f_c0.Text] : List C).drop 0)]), (7, .val (.int .i64 (s.length : Int))), (8, .val (.int .i64 x8_1))] [] 0) hg (sub_ []) ?_
 rintro x8_1 m1 o1 hg hn1
 replace hg : g_slices_IndexFunc_api_Endpoint.l1 s f x8_1 = some o1 := hg
 show awp _ _ _ _ (mk _ _ _)
 unfold g_slices_IndexFunc_api_Endpoint.l1 at hg
 refine sr_ 0 8 mk_U ?_
 refine go_ ?_
 refine ch_n fun hU => ?_
 refine awp_seq ?_
 refine cg_ rfl hg (fun h4 hg => ?_) fun h4 hg => ?_
 ·refine awp_skip ?_
  repeat first | refine st_ ?_ | refine sn_ ?_
  refine awp_seq ?_
  refine awp_block ?_
  refine sr_ 8 24 hU ?_
  refine go_ ?_
  refine ch_n fun hU => ?_
  refine sr_ 24 72 hU ?_
  refine go_ ?_
  obtain ⟨e, he, hg⟩ := bind_some hg
  refine go_ ?_
  refine c0_ rfl rfl (r_loadEA ty37 (enc_cells api_Endpoint.enc_len (getI_at he) (o := 0) (m := 9) (cs := [.str e.Name, .int .i64 e.Least, .int .i64 e.Most, .sl 1 (encL eI e.Suites), .bool e.OwnOrder, .sl 4 (encL api_Identity.enc e.Identities), .sl 1 (encL eI e.Anchors), .sl 1 (encL eI e.Hashes), .bool e.Fallback]) rfl (by decide) rfl) (enc_cells_le api_Endpoint.enc_len (getI_at he) (o := 0) (m := 9) (by decide) rfl)) rfl rfl ?_
  obtain ⟨y, hy, hg⟩ := bind_some hg
  refine ch_callCP (rd := []) (ps := []) (gs := []) false rfl rfl (hf_f e _ hy) rfl rfl (.cons (.agg (.cons .val (.cons .val (.cons .val (.cons .sl (.cons .val (.cons .sl (.cons .sl (.cons .sl (.cons .val .nil)))))))))) (.cons .elt .nil)) rfl rfl (by intro h; cases h) rfl rfl rfl rfl ?_
  refine ch_n fun hU => ?_
  refine cg_ rfl hg (fun h7 hg => ?_) fun h7 hg => ?_
  ·refine awp_seq ?_
   refine awp_region (sys _ _ []) 72 88 hU rfl rfl ?_
   refine go_ ?_
   refine ch_n fun hU => ?_
   refine aw_r ?_
   replace hg := leave hg hn1
   obtain rfl := Option.some.inj hg
   exact fin_ [] ⟨rfl, rfl⟩
  ·refine awp_skip ?_
   repeat first | refine st_ ?_ | refine sn_ ?_
   refine awp_region (sys _ _ []) 72 88 hU rfl rfl ?_
   refine go_ ?_
   refine ch_n fun hU => ?_
   obtain rfl := Option.some.inj hg
   exact ⟨(W (x8_1 + 1), m1), Nat.lt_succ_self _, hn1, sub_ []⟩
 ·refine awp_exit ?_
  repeat first | refine st_ ?_ | refine sn_ ?_
  replace hg := leave hg hn1
  refine sr_ 8 16 hU ?_
  refine go_ ?_
  refine ch_n fun hU => ?_
  refine aw_r ?_
  obtain rfl := Option.some.inj hg
  exact fin_ [] ⟨rfl, rfl⟩
theorem w_slices_ContainsFunc_api_Endpoint_clo_24_0_ref_44 (s : (List api_Endpoint)) (f : api_Endpoint → Option (Bool)) (f_c0 : api_Finding) (hf_f : ∀ (x0 : api_Endpoint) (y : Bool), f x0 = some y → Fn Tryz.prog 24 0 [.agg (api_Endpoint.dv x0), .elt (([.int .i64 f_c0.Source, .str f_c0.Host, .int .i64 f_c0.Machine, .int .i64 f_c0.Day, .int .i64 f_c0.Confidence, .int .i64 f_c0.Kind, .str f_c0.Subject, .int .i64 f_c0.Use.Alg, .int .i64 f_c0.Use.Bits, .int .i64 f_c0.Number, .str f_c0.Text] : List C).drop 0)] [] (fun d b => d = .val (.bool y) ∧ b = [])) (r : Bool) (hg : g_slices_ContainsFunc_api_Endpoint s f = some r) : Fn Tryz.prog 25 0 [.sl 9 (encL api_Endpoint.enc s), .clo 24 0 [.elt (([.int .i64 f_c0.Source, .str f_c0.Host, .int .i64 f_c0.Machine, .int .i64 f_c0.Day, .int .i64 f_c0.Confidence, .int .i64 f_c0.Kind, .str f_c0.Subject, .int .i64 f_c0.Use.Alg, .int .i64 f_c0.Use.Bits, .int .i64 f_c0.Number, .str f_c0.Text] : List C).drop 0)]] [] (fun d b => d = .val (.bool r) ∧ b = []) := by
 unfold g_slices_ContainsFunc_api_Endpoint at hg
 refine Fn.of Tryz.func25 rfl rfl rfl fun w0 I ρ0 => ?_
 show awp _ ⟨w0, I, ρ0, 0, 0, 9⟩ _ _ _
 refine sr_ 0 8 mk_U ?_
 refine go_ ?_
 refine ch_n fun hU => ?_
 refine sr_ 8 48 hU ?_
 refine go_ ?_
 obtain ⟨y, hy, hg⟩ := bind_some hg
 refine ca_ (w_slices_IndexFunc_api_Endpoint_clo_24_0_ref_44 s f f_c0 hf_f _ hy) ?_
 refine go_ ?_
 refine ch_n fun hU => ?_
 refine aw_r ?_
 obtain rfl := Option.some.inj hg
 exact fin_ [] ⟨rfl, rfl⟩
theorem w_watch_All (e : api_Estate) (l : (List api_Finding)) (day : Int) (r : (List Int) × Int) (hg : g_watch_All e l day = some r) : Fn Tryz.prog 9 0 [.agg (api_Estate.dv e), .sl 11 (encL api_Finding.enc l), .val (.int .i64 day)] [] (fun d b => d = .tup [.sl 1 (encL eI r.1), .val (.int .i64 r.2)] ∧ b = []) := by
 unfold g_watch_All at hg
 refine Fn.of Tryz.func9 rfl rfl rfl fun w0 I ρ0 => ?_
 show awp _ ⟨w0, I, ρ0, 0, 0, 47⟩ _ _ _
 refine sr_ 0 24 mk_U ?_
 refine go_ ?_
 refine ch_n fun hU => ?_
 refine awp_seq ?_
 refine awp_block ?_
 refine sr_ 24 56 hU ?_
 refine go_ ?_
 obtain ⟨y, hy, hg⟩ := bind_some hg
 refine ca_ (w_exposure_Check _ _ hy) ?_
 refine go_ ?_
 refine ch_n fun hU => ?_
 refine cg_ rfl hg (fun h3 hg => ?_) fun h3 hg => ?_
 ·refine awp_seq ?_
  refine awp_region (sys _ _ []) 56 72 hU rfl rfl ?_
  refine go_ ?_
  refine ch_n fun hU => ?_
  refine aw_r ?_
  obtain rfl := Option.some.inj hg
  exact fin_ [] ⟨rfl, rfl⟩
 ·refine awp_cut (ι := Bool) (fun (x16_1 : Bool) => mk [(1, .sl 11 (encL api_Finding.enc l)), (2, .val (.int .i64 day)), (3, .ptr 0 0), (16, .val (.bool x16_1))] [(0, .box (api_Estate.dv e) 31)] 1) (fun (x16_1 : Bool) => g_watch_All.j1 e l day x16_1 = some r) ?_ ?_
  ·refine awp_region (sys _ _ []) 56 112 hU rfl rfl ?_
   refine go_ ?_
   rcases bc_ hg with ⟨h5, hg⟩ | ⟨h5, hg⟩
   ·refine go_ ?_
    refine ch_n fun hU => ?_
    exact ⟨true, hg, sub_ [(0, 0)]⟩
   ·refine go_ ?_
    refine ch_n fun hU => ?_
    exact ⟨decide (40000 < day), hg, sub_ [(0, 0)]⟩
  ·rintro x16_1 hg
   replace hg : g_watch_All.j1 e l day x16_1 = some r := hg
   show awp _ _ _ _ (mk _ _ _)
   unfold g_watch_All.j1 at hg
   refine cg_ rfl hg (fun h8 hg => ?_) fun h8 hg => ?_
   ·refine awp_seq ?_
    refine awp_region (sys _ _ []) 1 17 mk_U rfl rfl ?_
    refine go_ ?_
    refine ch_n fun hU => ?_
    refine aw_r ?_
    obtain rfl := Option.some.inj hg
    exact fin_ [] ⟨rfl, rfl⟩
   ·refine awp_skip ?_
    repeat first | refine st_ ?_ | refine sn_ ?_
    refine sr_ 1 9 mk_U ?_
    refine go_ ?_
    refine ch_n fun hU => ?_
    refine awp_seq ?_
    refine sr_ 9 33 hU ?_
    refine go_ ?_
    refine ch_n fun hU => ?_
    refine awp_block ?_
    refine lp_ (fun ((x25_2, out_2) : Int × List Int) => mk [(2, .val (.int .i64 day)), (3, .ptr 0 0), (8, .row 1), (23, .sl 11 (encL api_Finding.enc l)), (24, .val (.int .i64 (l.length : Int))), (25, .val (.int .i64 x25_2))] [(0, .box (api_Estate.dv e) 31), (1, .row 3 1 (encL eI out_2))] 2) hg (sub_ [(0, 0)]) ?_
    rintro ⟨x25_2, out_2⟩ m2 o2 hg hn2
    replace hg : g_watch_All.l2 e l day x25_2 out_2 = some o2 := hg
    show awp _ _ _ _ (mk _ _ _)
    unfold g_watch_All.l2 at hg
    refine sr_ 2 10 mk_U ?_
    refine go_ ?_
    refine ch_n fun hU => ?_
    refine awp_seq ?_
    refine cg_ rfl hg (fun h13 hg => ?_) fun h13 hg => ?_
    ·refine awp_skip ?_
     repeat first | refine st_ ?_ | refine sn_ ?_
     refine awp_cut (ι := List Int) (fun (out_5 : List Int) => mk [(2, .val (.int .i64 day)), (3, .ptr 0 0), (8, .row 1), (23, .sl 11 (encL api_Finding.enc l)), (24, .val (.int .i64 (l.length : Int))), (25, .val (.int .i64 x25_2))] [(0, .box (api_Estate.dv e) 31), (1, .row 3 1 (encL eI out_5))] 2) (fun (out_5 : List Int) => g_watch_All.j5 x25_2 out_5 = some o2) ?_ ?_
     ·refine awp_block ?_
      refine sr_ 10 58 hU ?_
      refine go_ ?_
      obtain ⟨e_2, he_2, hg⟩ := bind_some hg
      refine go_ ?_
      refine c0_ rfl rfl (r_loadEA ty44 (enc_cells api_Finding.enc_len (getI_at he_2) (o := 0) (m := 11) (cs := [.int .i64 e_2.Source, .str e_2.Host, .int .i64 e_2.Machine, .int .i64 e_2.Day, .int .i64 e_2.Confidence, .int .i64 e_2.Kind, .str e_2.Subject, .int .i64 e_2.Use.Alg, .int .i64 e_2.Use.Bits, .int .i64 e_2.Number, .str e_2.Text]) rfl (by decide) rfl) (enc_cells_le api_Finding.enc_len (getI_at he_2) (o := 0) (m := 11) (by decide) rfl)) rfl rfl ?_
      refine go_ ?_
      refine ch_n fun hU => ?_
      refine awp_seq ?_
      refine awp_sub (σ' := mk [(2, .val (.int .i64 day)), (3, .ptr 0 0), (8, .row 1), (9, .val (.int .i64 x25_2)), (10, .elt (([.int .i64 e_2.Source, .str e_2.Host, .int .i64 e_2.Machine, .int .i64 e_2.Day, .int .i64 e_2.Confidence, .int .i64 e_2.Kind, .str e_2.Subject, .int .i64 e_2.Use.Alg, .int .i64 e_2.Use.Bits, .int .i64 e_2.Number, .str e_2.Text] : List C).drop 0)), (23, .sl 11 (encL api_Finding.enc l)), (24, .val (.int .i64 (l.length : Int))), (25, .val (.int .i64 x25_2))] [(0, .box (api_Estate.dv e) 31), (1, .row 3 1 (encL eI out_2))] 2) (Sub.lists [(0, 0), (1, 1)] rfl rfl ⟨⟨_, rfl, .val _⟩, ⟨_, rfl, .ptr rfl⟩, ⟨_, rfl, .row rfl⟩, ⟨_, rfl, .val _⟩, ⟨_, rfl, .frzb (ks := [none, none, none, none, none, none, none, none, none, none, none]) rfl (.cons .int (.cons .str (.cons .int (.cons .int (.cons .int (.cons .int (.cons .str (.cons .int (.cons .int (.cons .int (.cons .str .nil))))))))))) (look_ne rfl)⟩, ⟨_, rfl, .sl _ _⟩, ⟨_, rfl, .val _⟩, ⟨_, rfl, .val _⟩, trivial⟩ ⟨.inl ⟨0, _, rfl, rfl, ⟨rfl, .cons (.sl _ _) (.cons (.sl _ _) (.cons (.sl _ _) .nil))⟩⟩, .inl ⟨1, _, rfl, rfl, ⟨rfl, rfl, rfl⟩⟩, trivial⟩) ?_
      refine awp_region (sys _ _ []) 2 18 mk_U rfl rfl ?_
      refine go_ ?_
      refine ch_n fun hU => ?_
      refine awp_cut (ι := Bool) (fun (x40_4 : Bool) => mk [(2, .val (.int .i64 day)), (3, .ptr 0 0), (8, .row 1), (9, .val (.int .i64 x25_2)), (23, .sl 11 (encL api_Finding.enc l)), (24, .val (.int .i64 (l.length : Int))), (25, .val (.int .i64 x25_2)), (40, .val (.bool x40_4))] [(0, .box (api_Estate.dv e) 31), (1, .row 3 1 (encL eI out_2))] 2) (fun (x40_4 : Bool) => g_watch_All.j4 x25_2 out_2 x40_4 = some o2) ?_ ?_
      ·refine awp_region (sys _ _ []) 18 98 hU rfl rfl ?_
       refine c0_ rfl rfl (r_fieldE fd44_3 ty3 (by decide) (Nat.le_of_ble_eq_true rfl)) rfl rfl ?_
       refine c0_ rfl rfl (r_loadE1 ty3 (c := .int .i64 e_2.Day) rfl) rfl rfl ?_
       refine go_ ?_
       rcases bc_ hg with ⟨h16, hg⟩ | ⟨h16, hg⟩
       ·refine go_ ?_
        obtain ⟨y_2, hy_2, hg⟩ := bind_some hg
        refine ca_ (w_slices_ContainsFunc_api_Endpoint_clo_24_0_ref_44 e.Endpoints (fun x0 => g_watch_All_c1 x0 e_2) e_2 (fun x0 y h => w_watch_All_c1 x0 e_2 y h) _ hy_2) ?_
        refine go_ ?_
        refine ch_n fun hU => ?_
        exact ⟨y_2, hg, sub_ [(0, 0), (1, 1)]⟩
       ·refine go_ ?_
        refine ch_n fun hU => ?_
        exact ⟨false, hg, sub_ [(0, 0), (1, 1)]⟩
      ·rintro x40_4 hg
       replace hg : g_watch_All.j4 x25_2 out_2 x40_4 = some o2 := hg
       show awp _ _ _ _ (mk _ _ _)
       unfold g_watch_All.j4 at hg
       refine cg_ rfl hg (fun h19 hg => ?_) fun h19 hg => ?_
       ·refine awp_region (sys _ _ []) 2 42 mk_U rfl rfl ?_
        refine go_ ?_
        refine c0_ rfl rfl (r_buildFull sl22 z3 (by decide) rfl rfl rfl rfl ck3 (cs := [.int .i64 x25_2]) (.cons .int .nil) rfl (l := ([x25_2] : List Int)) (f := eI) rfl) rfl rfl ?_
        obtain ⟨l_2, hl_2, hg⟩ := bind_some hg
        refine ch_s (rd := [1, 18]) rfl rfl (r_append sl22 eI_len .row rfl .row rfl hl_2 rfl) rfl rfl ?_
        refine go_ ?_
        refine ch_n fun hU => ?_
        exact ⟨l_2, hg, sub_ [(0, 0), (1, 26)]⟩
       ·refine awp_skip ?_
        repeat first | refine st_ ?_ | refine sn_ ?_
        exact ⟨out_2, hg, sub_ [(0, 0), (1, 1)]⟩
     ·rintro out_5 hg
      replace hg : g_watch_All.j5 x25_2 out_5 = some o2 := hg
      show awp _ _ _ _ (mk _ _ _)
      unfold g_watch_All.j5 at hg
      refine awp_region (sys _ _ []) 2 18 mk_U rfl rfl ?_
      refine go_ ?_
      refine ch_n fun hU => ?_
      obtain rfl := Option.some.inj hg
      exact ⟨((W (x25_2 + 1), out_5), m2), Nat.lt_succ_self _, hn2, sub_ [(0, 0), (1, 1)]⟩
    ·refine awp_exit ?_
     repeat first | refine st_ ?_ | refine sn_ ?_
     replace hg := leave hg hn2
     refine sr_ 10 34 hU ?_
     refine go_ ?_
     refine ch_n fun hU => ?_
     refine aw_r ?_
     obtain rfl := Option.some.inj hg
     exact fin_ [] ⟨rfl, rfl⟩
theorem w_move_Has (l : (List Int)) (n : Int) (r : Bool) (hg : g_move_Has l n = some r) : Fn Tryz.prog 11 0 [.sl 1 (encL eI l), .val (.int .i64 n)] [] (fun d b => d = .val (.bool r) ∧ b = []) := by
 unfold g_move_Has at hg
 refine Fn.of Tryz.func11 rfl rfl rfl fun w0 I ρ0 => ?_
 show awp _ ⟨w0, I, ρ0, 0, 0, 17⟩ _ _ _
 refine sr_ 0 8 mk_U ?_
 refine go_ ?_
 refine ch_n fun hU => ?_
 refine awp_seq ?_
 refine sr_ 8 32 hU ?_
 refine go_ ?_
 refine ch_n fun hU => ?_
 refine awp_block ?_
 refine lp_ (fun (x9_1 : Int) => mk [(1, .val (.int .i64 n)), (7, .sl 1 (encL eI l)), (8, .val (.int .i64 (l.length : Int))), (9, .val (.int .i64 x9_1))] [] 0) hg (sub_ []) ?_
 rintro x9_1 m1 o1 hg hn1
 replace hg : g_move_Has.l1 l n x9_1 = some o1 := hg
 show awp _ _ _ _ (mk _ _ _)
 unfold g_move_Has.l1 at hg
 refine sr_ 0 8 mk_U ?_
 refine go_ ?_
 refine ch_n fun hU => ?_
 refine awp_seq ?_
 refine cg_ rfl hg (fun h4 hg => ?_) fun h4 hg => ?_
 ·refine awp_skip ?_
  repeat first | refine st_ ?_ | refine sn_ ?_
  refine awp_seq ?_
  refine awp_block ?_
  refine sr_ 8 32 hU ?_
  obtain ⟨e, he, hg⟩ := bind_some hg
  refine go_ ?_
  refine c0_ rfl rfl (r_loadE1 ty3 (enc_cell eI_len (getI_at he) (o := 0) (c := .int .i64 e) rfl rfl)) rfl rfl ?_
  refine go_ ?_
  refine ch_n fun hU => ?_
  refine sr_ 32 56 hU ?_
  refine go_ ?_
  refine ch_n fun hU => ?_
  refine cg_ rfl hg (fun h7 hg => ?_) fun h7 hg => ?_
  ·refine awp_seq ?_
   refine awp_region (sys _ _ []) 56 64 hU rfl rfl ?_
   refine go_ ?_
   refine ch_n fun hU => ?_
   refine aw_r ?_
   replace hg := leave hg hn1
   obtain rfl := Option.some.inj hg
   exact fin_ [] ⟨rfl, rfl⟩
  ·refine awp_skip ?_
   repeat first | refine st_ ?_ | refine sn_ ?_
   refine awp_region (sys _ _ []) 56 72 hU rfl rfl ?_
   refine go_ ?_
   refine ch_n fun hU => ?_
   obtain rfl := Option.some.inj hg
   exact ⟨(W (x9_1 + 1), m1), Nat.lt_succ_self _, hn1, sub_ []⟩
 ·refine awp_exit ?_
  repeat first | refine st_ ?_ | refine sn_ ?_
  replace hg := leave hg hn1
  refine sr_ 8 16 hU ?_
  refine go_ ?_
  refine ch_n fun hU => ?_
  refine aw_r ?_
  obtain rfl := Option.some.inj hg
  exact fin_ [] ⟨rfl, rfl⟩
theorem w_law38_WatchFinds (t : (List Int)) (day : UInt8) (r : Bool) (hg : g_law38_WatchFinds t day = some r) : Fn Tryz.prog 3 0 [.sl 1 (encL eI t), .val (.int .u8 (day.toNat : Int))] [] (fun d b => d = .val (.bool r) ∧ b = []) := by
 unfold g_law38_WatchFinds at hg
 refine Fn.of Tryz.func3 rfl rfl rfl fun w0 I ρ0 => ?_
 show awp _ ⟨w0, I, ρ0, 0, 0, 94⟩ _ _ _
 refine sr_ 0 8 mk_U ?_
 refine go_ ?_
 refine ch_n fun hU => ?_
 refine awp_seq ?_
 refine sr_ 8 32 hU ?_
 refine go_ ?_
 obtain ⟨y, hy, hg⟩ := bind_some hg
 refine ca_ (w_make_Light _ _ hy) ?_
 refine go_ ?_
 refine ch_n fun hU => ?_
 refine cg_ rfl hg (fun h3 hg => ?_) fun h3 hg => ?_
 ·refine awp_seq ?_
  refine awp_region (sys _ _ []) 32 48 hU rfl rfl ?_
  obtain ⟨y_2, hy_2, hg⟩ := bind_some hg
  refine ca_ (w_law38_awake _ hy_2) ?_
  refine go_ ?_
  refine ch_n fun hU => ?_
  refine aw_r ?_
  obtain rfl := Option.some.inj hg
  exact fin_ [] ⟨rfl, rfl⟩
 ·refine awp_skip ?_
  repeat first | refine st_ ?_ | refine sn_ ?_
  refine sr_ 32 56 hU ?_
  refine go_ ?_
  obtain ⟨y_3, hy_3, hg⟩ := bind_some hg
  refine ch_call (rd := []) (ps := []) (gs := []) false rfl (w_make_Roll _ _ hy_3) rfl rfl (.cons .sl .nil) rfl rfl (by intro h; cases h) rfl (by intro h; first | (cases h; done) | exact ⟨_, _, ⟨rfl, rfl⟩, by simp, by simp⟩) ?_
  rintro _ _ ⟨rfl, rfl⟩
  refine go_ ?_
  refine ch_n fun hU => ?_
  refine sr_ 56 88 hU ?_
  refine go_ ?_
  obtain ⟨y_4, hy_4, hg⟩ := bind_some hg
  refine cb_ [40] [40] [] false (w_move_Sound _ _ hy_4) ?_
  refine go_ ?_
  refine ch_n fun hU => ?_
  refine sr_ 88 120 hU ?_
  refine go_ ?_
  obtain ⟨q, hq, hg⟩ := bind_some hg
  refine c0_ rfl rfl (r_rem8 (a := day) (b := (9 : UInt8)) hq) rfl rfl ?_
  refine c0_ rfl rfl (r_conv_8i (u := q) und5 und3) rfl rfl ?_
  refine go_ ?_
  refine ch_n fun hU => ?_
  refine sr_ 120 184 hU ?_
  refine go_ ?_
  obtain ⟨e, he, hg⟩ := bind_some hg
  refine go_ ?_
  refine c0_ rfl rfl (r_loadEA ty37 (enc_cells api_Endpoint.enc_len (getI_at he) (o := 0) (m := 9) (cs := [.str e.Name, .int .i64 e.Least, .int .i64 e.Most, .sl 1 (encL eI e.Suites), .bool e.OwnOrder, .sl 4 (encL api_Identity.enc e.Identities), .sl 1 (encL eI e.Anchors), .sl 1 (encL eI e.Hashes), .bool e.Fallback]) rfl (by decide) rfl) (enc_cells_le api_Endpoint.enc_len (getI_at he) (o := 0) (m := 9) (by decide) rfl)) rfl rfl ?_
  refine go_ ?_
  obtain ⟨y_5, hy_5, hg⟩ := bind_some hg
  refine cb_ [40] [40] [] false (w_law38_looks _ _ _ _ hy_5) ?_
  refine go_ ?_
  refine ch_n fun hU => ?_
  refine sr_ 184 256 hU ?_
  refine go_ ?_
  obtain ⟨y_6, hy_6, hg⟩ := bind_some hg
  refine ca_ (w_watch_All _ _ _ _ hy_6) ?_
  refine go_ ?_
  refine ch_n fun hU => ?_
  refine awp_seq ?_
  refine sr_ 256 272 hU ?_
  refine go_ ?_
  refine ch_n fun hU => ?_
  refine cg_ rfl hg (fun h11 hg => ?_) fun h11 hg => ?_
  ·refine awp_seq ?_
   refine awp_region (sys _ _ []) 272 280 hU rfl rfl ?_
   refine go_ ?_
   refine ch_n fun hU => ?_
   refine aw_r ?_
   obtain rfl := Option.some.inj hg
   exact fin_ [] ⟨rfl, rfl⟩
  ·refine awp_skip ?_
   repeat first | refine st_ ?_ | refine sn_ ?_
   refine awp_seq ?_
   refine sr_ 272 296 hU ?_
   refine go_ ?_
   refine ch_n fun hU => ?_
   refine awp_block ?_
   refine lp_ (fun (x45_1 : Int) => mk [(6, .ptr 0 0), (7, .val (.int .i64 (q.toNat : Int))), (9, .sl 1 (encL eI y_6.1)), (43, .sl 11 (encL api_Finding.enc y_5.1)), (44, .val (.int .i64 (y_5.1.length : Int))), (45, .val (.int .i64 x45_1))] [(0, .box (api_Estate.dv y_4.1) 31)] 1) hg (sub_ [(0, 72)]) ?_
   rintro x45_1 m1 o1 hg hn1
   replace hg : g_law38_WatchFinds.l1 y_4 q y_5 y_6 x45_1 = some o1 := hg
   show awp _ _ _ _ (mk _ _ _)
   unfold g_law38_WatchFinds.l1 at hg
   refine sr_ 1 9 mk_U ?_
   refine go_ ?_
   refine ch_n fun hU => ?_
   refine awp_seq ?_
   refine cg_ rfl hg (fun h15 hg => ?_) fun h15 hg => ?_
   ·refine awp_skip ?_
    repeat first | refine st_ ?_ | refine sn_ ?_
    refine awp_seq ?_
    refine awp_block ?_
    refine sr_ 9 57 hU ?_
    refine go_ ?_
    obtain ⟨e_2, he_2, hg⟩ := bind_some hg
    refine go_ ?_
    refine c0_ rfl rfl (r_loadEA ty44 (enc_cells api_Finding.enc_len (getI_at he_2) (o := 0) (m := 11) (cs := [.int .i64 e_2.Source, .str e_2.Host, .int .i64 e_2.Machine, .int .i64 e_2.Day, .int .i64 e_2.Confidence, .int .i64 e_2.Kind, .str e_2.Subject, .int .i64 e_2.Use.Alg, .int .i64 e_2.Use.Bits, .int .i64 e_2.Number, .str e_2.Text]) rfl (by decide) rfl) (enc_cells_le api_Finding.enc_len (getI_at he_2) (o := 0) (m := 11) (by decide) rfl)) rfl rfl ?_
    refine go_ ?_
    refine ch_n fun hU => ?_
    refine sr_ 57 65 hU ?_
    refine go_ ?_
    refine ch_n fun hU => ?_
    refine awp_seq ?_
    refine sr_ 65 97 hU ?_
    refine go_ ?_
    refine ch_n fun hU => ?_
    refine awp_block ?_
    refine lp_ (fun ((bad_2, x53_2) : Bool × Int) => mk [(6, .ptr 0 0), (7, .val (.int .i64 (q.toNat : Int))), (9, .sl 1 (encL eI y_6.1)), (11, .val (.int .i64 x45_1)), (12, .ptr 1 0), (13, .val (.bool bad_2)), (43, .sl 11 (encL api_Finding.enc y_5.1)), (44, .val (.int .i64 (y_5.1.length : Int))), (45, .val (.int .i64 x45_1)), (51, .sl 9 (encL api_Endpoint.enc y_4.1.Endpoints)), (52, .val (.int .i64 (y_4.1.Endpoints.length : Int))), (53, .val (.int .i64 x53_2))] [(0, .box (api_Estate.dv y_4.1) 31), (1, .box (api_Finding.dv e_2) 44)] 2) hg (sub_ [(0, 0), (1, 33)]) ?_
    rintro ⟨bad_2, x53_2⟩ m2 o2 hg hn2
    replace hg : g_law38_WatchFinds.l2 y_4 q y_6 x45_1 e_2 bad_2 x53_2 = some o2 := hg
    show awp _ _ _ _ (mk _ _ _)
    unfold g_law38_WatchFinds.l2 at hg
    refine sr_ 2 10 mk_U ?_
    refine go_ ?_
    refine ch_n fun hU => ?_
    refine awp_seq ?_
    refine cg_ rfl hg (fun h20 hg => ?_) fun h20 hg => ?_
    ·refine awp_skip ?_
     repeat first | refine st_ ?_ | refine sn_ ?_
     refine awp_cut (ι := Bool) (fun (bad_4 : Bool) => mk [(6, .ptr 0 0), (7, .val (.int .i64 (q.toNat : Int))), (9, .sl 1 (encL eI y_6.1)), (11, .val (.int .i64 x45_1)), (12, .ptr 1 0), (13, .val (.bool bad_4)), (43, .sl 11 (encL api_Finding.enc y_5.1)), (44, .val (.int .i64 (y_5.1.length : Int))), (45, .val (.int .i64 x45_1)), (51, .sl 9 (encL api_Endpoint.enc y_4.1.Endpoints)), (52, .val (.int .i64 (y_4.1.Endpoints.length : Int))), (53, .val (.int .i64 x53_2))] [(0, .box (api_Estate.dv y_4.1) 31), (1, .box (api_Finding.dv e_2) 44)] 2) (fun (bad_4 : Bool) => g_law38_WatchFinds.j4 x53_2 bad_4 = some o2) ?_ ?_
     ·refine awp_block ?_
      refine sr_ 10 42 hU ?_
      obtain ⟨e_3, he_3, hg⟩ := bind_some hg
      refine go_ ?_
      refine c0_ rfl rfl (r_loadEA ty37 (enc_cells api_Endpoint.enc_len (getI_at he_3) (o := 0) (m := 9) (cs := [.str e_3.Name, .int .i64 e_3.Least, .int .i64 e_3.Most, .sl 1 (encL eI e_3.Suites), .bool e_3.OwnOrder, .sl 4 (encL api_Identity.enc e_3.Identities), .sl 1 (encL eI e_3.Anchors), .sl 1 (encL eI e_3.Hashes), .bool e_3.Fallback]) rfl (by decide) rfl) (enc_cells_le api_Endpoint.enc_len (getI_at he_3) (o := 0) (m := 9) (by decide) rfl)) rfl rfl ?_
      refine go_ ?_
      refine ch_n fun hU => ?_
      refine sr_ 42 66 hU ?_
      refine go_ ?_
      obtain ⟨y_7, hy_7, hg⟩ := bind_some hg
      refine ca_ (w_watch_Contradicts _ _ _ hy_7) ?_
      refine ch_n fun hU => ?_
      refine cg_ rfl hg (fun h23 hg => ?_) fun h23 hg => ?_
      ·refine awp_seq ?_
       refine awp_region (sys _ _ []) 66 74 hU rfl rfl ?_
       refine go_ ?_
       refine ch_n fun hU => ?_
       refine awp_cut (ι := Bool) (fun (x79_3 : Bool) => mk [(6, .ptr 0 0), (7, .val (.int .i64 (q.toNat : Int))), (9, .sl 1 (encL eI y_6.1)), (11, .val (.int .i64 x45_1)), (12, .ptr 1 0), (13, .val (.bool true)), (43, .sl 11 (encL api_Finding.enc y_5.1)), (44, .val (.int .i64 (y_5.1.length : Int))), (45, .val (.int .i64 x45_1)), (51, .sl 9 (encL api_Endpoint.enc y_4.1.Endpoints)), (52, .val (.int .i64 (y_4.1.Endpoints.length : Int))), (53, .val (.int .i64 x53_2)), (79, .val (.bool x79_3))] [(0, .box (api_Estate.dv y_4.1) 31), (1, .box (api_Finding.dv e_2) 44)] 2) (fun (x79_3 : Bool) => g_law38_WatchFinds.j3 x53_2 x79_3 = some o2) ?_ ?_
       ·refine awp_region (sys _ _ []) 74 234 hU rfl rfl ?_
        refine go_ ?_
        rcases bc_ hg with ⟨h25, hg⟩ | ⟨h25, hg⟩
        ·refine go_ ?_
         refine ch_n fun hU => ?_
         exact ⟨true, hg, sub_ [(0, 0), (1, 1)]⟩
        ·refine go_ ?_
         rcases bc_ hg with ⟨h27, hg⟩ | ⟨h27, hg⟩
         ·refine go_ ?_
          refine ch_n fun hU => ?_
          exact ⟨true, hg, sub_ [(0, 0), (1, 1)]⟩
         ·refine go_ ?_
          rcases bc_ hg with ⟨h29, hg⟩ | ⟨h29, hg⟩
          ·refine go_ ?_
           refine ch_n fun hU => ?_
           exact ⟨true, hg, sub_ [(0, 0), (1, 1)]⟩
          ·refine go_ ?_
           refine ch_n fun hU => ?_
           exact ⟨decide (e_2.Kind = 7), hg, sub_ [(0, 0), (1, 1)]⟩
       ·rintro x79_3 hg
        replace hg : g_law38_WatchFinds.j3 x53_2 x79_3 = some o2 := hg
        show awp _ _ _ _ (mk _ _ _)
        unfold g_law38_WatchFinds.j3 at hg
        refine cg_ rfl hg (fun h32 hg => ?_) fun h32 hg => ?_
        ·refine awp_seq ?_
         refine awp_region (sys _ _ []) 2 10 mk_U rfl rfl ?_
         refine go_ ?_
         refine ch_n fun hU => ?_
         refine aw_r ?_
         replace hg := leave hg hn2
         replace hg := leave hg hn1
         obtain rfl := Option.some.inj hg
         exact fin_ [] ⟨rfl, rfl⟩
        ·refine awp_skip ?_
         repeat first | refine st_ ?_ | refine sn_ ?_
         exact ⟨true, hg, sub_ [(0, 0), (1, 1)]⟩
      ·refine awp_skip ?_
       repeat first | refine st_ ?_ | refine sn_ ?_
       exact ⟨bad_2, hg, sub_ [(0, 0), (1, 1)]⟩
     ·rintro bad_4 hg
      replace hg : g_law38_WatchFinds.j4 x53_2 bad_4 = some o2 := hg
      show awp _ _ _ _ (mk _ _ _)
      unfold g_law38_WatchFinds.j4 at hg
      refine awp_region (sys _ _ []) 2 18 mk_U rfl rfl ?_
      refine go_ ?_
      refine ch_n fun hU => ?_
      obtain rfl := Option.some.inj hg
      exact ⟨((bad_4, W (x53_2 + 1)), m2), Nat.lt_succ_self _, hn2, sub_ [(0, 0), (1, 1)]⟩
    ·refine awp_exit ?_
     repeat first | refine st_ ?_ | refine sn_ ?_
     replace hg := leave hg hn2
     refine awp_cut (ι := Bool) (fun (x91_5 : Bool) => mk [(6, .ptr 0 0), (7, .val (.int .i64 (q.toNat : Int))), (9, .sl 1 (encL eI y_6.1)), (43, .sl 11 (encL api_Finding.enc y_5.1)), (44, .val (.int .i64 (y_5.1.length : Int))), (45, .val (.int .i64 x45_1)), (91, .val (.bool x91_5))] [(0, .box (api_Estate.dv y_4.1) 31)] 1) (fun (x91_5 : Bool) => g_law38_WatchFinds.j5 x45_1 x91_5 = some o1) ?_ ?_
     ·refine awp_region (sys _ _ []) 10 98 hU rfl rfl ?_
      refine go_ ?_
      obtain ⟨y_8, hy_8, hg⟩ := bind_some hg
      refine ca_ (w_move_Has _ _ _ hy_8) ?_
      refine go_ ?_
      rcases bc_ hg with ⟨h35, hg⟩ | ⟨h35, hg⟩
      ·refine go_ ?_
       refine c0_ rfl rfl (r_bneq und4) rfl rfl ?_
       refine ch_n fun hU => ?_
       exact ⟨!decide (y_8 = (decide (e_2.Day = (q.toNat : Int)))), hg, sub_ [(0, 0)]⟩
      ·refine go_ ?_
       refine c0_ rfl rfl (r_bneq und4) rfl rfl ?_
       refine ch_n fun hU => ?_
       exact ⟨!decide (y_8 = false), hg, sub_ [(0, 0)]⟩
     ·rintro x91_5 hg
      replace hg : g_law38_WatchFinds.j5 x45_1 x91_5 = some o1 := hg
      show awp _ _ _ _ (mk _ _ _)
      unfold g_law38_WatchFinds.j5 at hg
      refine cg_ rfl hg (fun h38 hg => ?_) fun h38 hg => ?_
      ·refine awp_seq ?_
       refine awp_region (sys _ _ []) 1 9 mk_U rfl rfl ?_
       refine go_ ?_
       refine ch_n fun hU => ?_
       refine aw_r ?_
       replace hg := leave hg hn1
       obtain rfl := Option.some.inj hg
       exact fin_ [] ⟨rfl, rfl⟩
      ·refine awp_skip ?_
       repeat first | refine st_ ?_ | refine sn_ ?_
       refine awp_region (sys _ _ []) 1 17 mk_U rfl rfl ?_
       refine go_ ?_
       refine ch_n fun hU => ?_
       obtain rfl := Option.some.inj hg
       exact ⟨(W (x45_1 + 1), m1), Nat.lt_succ_self _, hn1, sub_ [(0, 0)]⟩
   ·refine awp_exit ?_
    repeat first | refine st_ ?_ | refine sn_ ?_
    replace hg := leave hg hn1
    refine sr_ 9 25 hU ?_
    obtain ⟨y_9, hy_9, hg⟩ := bind_some hg
    refine ca_ (w_law38_awake _ hy_9) ?_
    refine go_ ?_
    refine ch_n fun hU => ?_
    refine aw_r ?_
    obtain rfl := Option.some.inj hg
    exact fin_ [] ⟨rfl, rfl⟩
end Go.Proofs.YtoekocjflclojaaGreat
