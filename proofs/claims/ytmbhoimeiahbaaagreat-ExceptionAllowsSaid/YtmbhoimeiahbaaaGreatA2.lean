/- The program computes the plain functions. -/
import Derived.Test.YtmbhoimeiahbaaaGreatT1
import Derived.Test.YtmbhoimeiahbaaaGreatA1
set_option linter.unusedVariables false
set_option linter.unusedSimpArgs false
set_option maxRecDepth 100000
set_option maxHeartbeats 1600000
namespace Go.Proofs.YtmbhoimeiahbaaaGreat
open Go.RowKit
theorem w_der_tag (n : Int) (r : Bool) (hg : g_der_tag n = some r) : Fn Tryz.prog 113 0 [.val (.int .i64 n)] [] (fun d' b' => d' = .val (.bool r) ∧ b' = []) := by
 unfold g_der_tag at hg
 refine Fn.of Tryz.func113 rfl rfl rfl fun w0 I ρ0 => ?_
 show awp _ ⟨w0, I, ρ0, 0, 0, 14, none⟩ _ _ _
 refine sr_ 0 8 mk_U ?_
 refine go_ ?_
 refine ch_n fun hU => ?_
 refine sr_ 8 104 hU ?_
 refine go_ ?_
 rcases bc_ hg with ⟨h2, hg⟩ | ⟨h2, hg⟩
 ·refine go_ ?_
  rcases bc_ hg with ⟨h3, hg⟩ | ⟨h3, hg⟩
  ·refine go_ ?_
   refine c0_ (gdv_t rfl rfl h3) rfl r_andK rfl rfl ?_
   refine go_ ?_
   refine ch_n fun hU => ?_
   refine aw_r ?_
   obtain rfl := Option.some.inj hg
   exact fin_ [] ⟨rfl, rfl⟩
  ·refine go_ ?_
   refine ch_n fun hU => ?_
   refine aw_r ?_
   obtain rfl := Option.some.inj hg
   exact fin_ [] ⟨rfl, rfl⟩
 ·refine go_ ?_
  refine ch_n fun hU => ?_
  refine aw_r ?_
  obtain rfl := Option.some.inj hg
  exact fin_ [] ⟨rfl, rfl⟩
theorem w_der_formed_c1 (rec : api_Value → Option (Bool)) (hrec : ∀ (v : api_Value) (r : Bool), rec v = some r → Fn Tryz.prog 83 0 [.agg (api_Value.dv v)] [] (fun d' b' => d' = .val (.bool r) ∧ b' = [])) (x' : api_Value) (r : Bool) (hg : g_der_formed_c1 rec x' = some r) : Fn Tryz.prog 115 0 [.agg (api_Value.dv x')] [] (fun d' b' => d' = .val (.bool r) ∧ b' = []) := by
 unfold g_der_formed_c1 at hg
 refine Fn.of Tryz.func115 rfl rfl rfl fun w0 I ρ0 => ?_
 show awp _ ⟨w0, I, ρ0, 0, 0, 6, none⟩ _ _ _
 refine sr_ 0 16 mk_U ?_
 refine go_ ?_
 refine ch_n fun hU => ?_
 refine sr_ 16 48 hU ?_
 refine go_ ?_
 obtain ⟨y, hy, hg⟩ := bind_some hg
 refine ca_ (hrec _ _ hy) ?_
 refine go_ ?_
 refine ch_n fun hU => ?_
 refine aw_r ?_
 obtain rfl := Option.some.inj hg
 exact fin_ [] ⟨rfl, rfl⟩
theorem w_slices_IndexFunc_api_Value_clo_115_0_ (rec : api_Value → Option (Bool)) (hrec : ∀ (v : api_Value) (r : Bool), rec v = some r → Fn Tryz.prog 83 0 [.agg (api_Value.dv v)] [] (fun d' b' => d' = .val (.bool r) ∧ b' = [])) (s : (List api_Value)) (f : api_Value → Option (Bool)) (hf_f : ∀ (x0 : api_Value) (y : Bool), f x0 = some y → Fn Tryz.prog 115 0 [.agg (api_Value.dv x0)] [] (fun d' b' => d' = .val (.bool y) ∧ b' = [])) (r : Int) (hg : g_slices_IndexFunc_api_Value rec s f = some r) : Fn Tryz.prog 129 0 [.sl 4 (encL api_Value.enc s), .clo 115 0 []] [] (fun d' b' => d' = .val (.int .i64 r) ∧ b' = []) := by
 unfold g_slices_IndexFunc_api_Value at hg
 refine Fn.of Tryz.func129 rfl rfl rfl fun w0 I ρ0 => ?_
 show awp _ ⟨w0, I, ρ0, 0, 0, 19, none⟩ _ _ _
 refine sr_ 0 8 mk_U ?_
 refine go_ ?_
 refine ch_n fun hU => ?_
 refine awp_seq ?_
 refine sr_ 8 32 hU ?_
 refine go_ ?_
 refine ch_n fun hU => ?_
 refine awp_block ?_
 refine lp_ (fun (x8_1 : Int) => mk [(0, .sl 4 (encL api_Value.enc s)), (1, .clo 115 0 []), (7, .val (.int .i64 (s.length : Int))), (8, .val (.int .i64 x8_1))] [] 0) hg (sub_ []) ?_
 rintro x8_1 m1 o1 hg hn1
 replace hg : g_slices_IndexFunc_api_Value.l1 s f x8_1 = some o1 := hg
 show awp _ _ _ _ (mk _ _ _)
 unfold g_slices_IndexFunc_api_Value.l1 at hg
 refine sr_ 0 8 mk_U ?_
 refine go_ ?_
 refine ch_n fun hU => ?_
 refine awp_seq ?_
 refine cg_ rfl hg (fun h4 hg => ?_) fun h4 hg => ?_
 ·refine awp_skip ?_
  repeat first | refine st_ ?_ | refine sn_ ?_
  refine awp_seq ?_
  refine awp_block ?_
  refine sr_ 8 24 hU ?_
  refine go_ ?_
  refine ch_n fun hU => ?_
  refine sr_ 24 72 hU ?_
  refine go_ ?_
  obtain ⟨e, he, hg⟩ := bind_some hg
  refine go_ ?_
  refine c0_ rfl rfl (r_loadEA ty103 (enc_cells api_Value.enc_len (getI_at he) (o := 0) (m := 4) (cs := [.int .i64 e.Tag, .sl 1 (encL e8 e.Bytes), .bool e.Nested, .sl 4 (encL api_Value.enc e.Elements)]) (by simp only [api_Value.enc_eq]; rfl) (by decide) rfl) (enc_cells_le api_Value.enc_len (getI_at he) (o := 0) (m := 4) (by decide) rfl)) rfl rfl ?_
  obtain ⟨y, hy, hg⟩ := bind_some hg
  refine ch_callCP (rd := []) (ps := []) (gs := []) false rfl rfl (hf_f e _ hy) rfl rfl (.cons (.agg (.cons .val (.cons .sl (.cons .val (.cons .sl .nil))))) .nil) rfl rfl (by intro h; cases h) rfl rfl rfl rfl ?_
  refine ch_n fun hU => ?_
  refine cg_ rfl hg (fun h7 hg => ?_) fun h7 hg => ?_
  ·refine awp_seq ?_
   refine awp_region (sys _ _ []) 72 88 hU rfl rfl ?_
   refine go_ ?_
   refine ch_n fun hU => ?_
   refine aw_r ?_
   replace hg := leave hg hn1
   obtain rfl := Option.some.inj hg
   exact fin_ [] ⟨rfl, rfl⟩
  ·refine awp_skip ?_
   repeat first | refine st_ ?_ | refine sn_ ?_
   refine awp_region (sys _ _ []) 72 88 hU rfl rfl ?_
   refine go_ ?_
   refine ch_n fun hU => ?_
   obtain rfl := Option.some.inj hg
   exact ⟨(W (x8_1 + 1), m1), Nat.lt_succ_self _, hn1, sub_ []⟩
 ·refine awp_exit ?_
  repeat first | refine st_ ?_ | refine sn_ ?_
  replace hg := leave hg hn1
  refine sr_ 8 16 hU ?_
  refine go_ ?_
  refine ch_n fun hU => ?_
  refine aw_r ?_
  obtain rfl := Option.some.inj hg
  exact fin_ [] ⟨rfl, rfl⟩
theorem w_slices_ContainsFunc_api_Value_clo_115_0_ (rec : api_Value → Option (Bool)) (hrec : ∀ (v : api_Value) (r : Bool), rec v = some r → Fn Tryz.prog 83 0 [.agg (api_Value.dv v)] [] (fun d' b' => d' = .val (.bool r) ∧ b' = [])) (s : (List api_Value)) (f : api_Value → Option (Bool)) (hf_f : ∀ (x0 : api_Value) (y : Bool), f x0 = some y → Fn Tryz.prog 115 0 [.agg (api_Value.dv x0)] [] (fun d' b' => d' = .val (.bool y) ∧ b' = [])) (r : Bool) (hg : g_slices_ContainsFunc_api_Value rec s f = some r) : Fn Tryz.prog 114 0 [.sl 4 (encL api_Value.enc s), .clo 115 0 []] [] (fun d' b' => d' = .val (.bool r) ∧ b' = []) := by
 unfold g_slices_ContainsFunc_api_Value at hg
 refine Fn.of Tryz.func114 rfl rfl rfl fun w0 I ρ0 => ?_
 show awp _ ⟨w0, I, ρ0, 0, 0, 9, none⟩ _ _ _
 refine sr_ 0 8 mk_U ?_
 refine go_ ?_
 refine ch_n fun hU => ?_
 refine sr_ 8 48 hU ?_
 refine go_ ?_
 obtain ⟨y, hy, hg⟩ := bind_some hg
 refine ca_ (w_slices_IndexFunc_api_Value_clo_115_0_ rec hrec s f hf_f _ hy) ?_
 refine go_ ?_
 refine ch_n fun hU => ?_
 refine aw_r ?_
 obtain rfl := Option.some.inj hg
 exact fin_ [] ⟨rfl, rfl⟩
theorem w_der_formed.F (rec : api_Value → Option (Bool)) (hrec : ∀ (v : api_Value) (r : Bool), rec v = some r → Fn Tryz.prog 83 0 [.agg (api_Value.dv v)] [] (fun d' b' => d' = .val (.bool r) ∧ b' = [])) (v : api_Value) (r : Bool) (hg : g_der_formed.F rec v = some r) : Fn Tryz.prog 83 0 [.agg (api_Value.dv v)] [] (fun d' b' => d' = .val (.bool r) ∧ b' = []) := by
 unfold g_der_formed.F at hg
 refine Fn.of Tryz.func83 rfl rfl rfl fun w0 I ρ0 => ?_
 show awp _ ⟨w0, I, ρ0, 0, 0, 41, none⟩ _ _ _
 refine sr_ 0 16 mk_U ?_
 refine go_ ?_
 refine ch_n fun hU => ?_
 refine awp_seq ?_
 refine awp_cut (ι := Bool) (fun (x36_1 : Bool) => mk [(1, .ptr 0 0), (36, .val (.bool x36_1))] [(0, .box (api_Value.dv v) 103)] 1) (fun (x36_1 : Bool) => g_der_formed.j1 rec v x36_1 = some r) ?_ ?_
 ·refine awp_region (sys _ _ []) 16 288 hU rfl rfl ?_
  refine go_ ?_
  obtain ⟨y, hy, hg⟩ := bind_some hg
  refine ca_ (w_der_tag _ _ hy) ?_
  refine go_ ?_
  rcases bc_ hg with ⟨h2, hg⟩ | ⟨h2, hg⟩
  ·refine go_ ?_
   refine ch_n fun hU => ?_
   exact ⟨true, hg, sub_ [(0, 0)]⟩
  ·refine go_ ?_
   refine c0_ (gdv_t rfl rfl h2) rfl r_andK rfl rfl ?_
   refine go_ ?_
   refine c0_ (gdv_t rfl rfl h2) rfl (r_bneq und4) rfl rfl ?_
   refine go_ ?_
   rcases bc_ hg with ⟨h4, hg⟩ | ⟨h4, hg⟩
   ·refine go_ ?_
    refine ch_n fun hU => ?_
    exact ⟨true, hg, sub_ [(0, 0)]⟩
   ·refine go_ ?_
    rcases bc_ hg with ⟨h6, hg⟩ | ⟨h6, hg⟩
    ·refine go_ ?_
     rcases bc_ hg with ⟨h7, hg⟩ | ⟨h7, hg⟩
     ·refine go_ ?_
      refine ch_n fun hU => ?_
      exact ⟨true, hg, sub_ [(0, 0)]⟩
     ·refine go_ ?_
      refine ch_n fun hU => ?_
      exact ⟨false, hg, sub_ [(0, 0)]⟩
    ·refine go_ ?_
     refine ch_n fun hU => ?_
     exact ⟨decide (0 < (v.Elements.length : Int)), hg, sub_ [(0, 0)]⟩
 ·rintro x36_1 hg
  replace hg : g_der_formed.j1 rec v x36_1 = some r := hg
  show awp _ _ _ _ (mk _ _ _)
  unfold g_der_formed.j1 at hg
  refine cg_ rfl hg (fun h11 hg => ?_) fun h11 hg => ?_
  ·refine awp_seq ?_
   refine awp_region (sys _ _ []) 1 9 mk_U rfl rfl ?_
   refine go_ ?_
   refine ch_n fun hU => ?_
   refine aw_r ?_
   obtain rfl := Option.some.inj hg
   exact fin_ [] ⟨rfl, rfl⟩
  ·refine awp_skip ?_
   repeat first | refine st_ ?_ | refine sn_ ?_
   refine sr_ 1 41 mk_U ?_
   refine go_ ?_
   obtain ⟨y_2, hy_2, hg⟩ := bind_some hg
   refine ca_ (w_slices_ContainsFunc_api_Value_clo_115_0_ rec hrec v.Elements (fun x0 => g_der_formed_c1 rec x0) (fun x0 y h => w_der_formed_c1 rec hrec x0 y h) _ hy_2) ?_
   refine go_ ?_
   refine ch_n fun hU => ?_
   refine aw_r ?_
   obtain rfl := Option.some.inj hg
   exact fin_ [] ⟨rfl, rfl⟩
theorem w_der_formed (v : api_Value) (r : Bool) (hg : g_der_formed v = some r) : Fn Tryz.prog 83 0 [.agg (api_Value.dv v)] [] (fun d' b' => d' = .val (.bool r) ∧ b' = []) :=
 fixT_ind (motive := fun (x : api_Value) (r : Bool) => Fn Tryz.prog 83 0 [.agg (api_Value.dv x)] [] (fun d' b' => d' = .val (.bool r) ∧ b' = [])) (fun rec hrec x r h => w_der_formed.F _ (fun v r h => hrec v r h) x r h) v r hg
theorem w_der_depth.F (rec : api_Value → Option (Int)) (hrec : ∀ (v : api_Value) (r : Int), rec v = some r → Fn Tryz.prog 84 0 [.agg (api_Value.dv v)] [] (fun d' b' => d' = .val (.int .i64 r) ∧ b' = [])) (v : api_Value) (r : Int) (hg : g_der_depth.F rec v = some r) : Fn Tryz.prog 84 0 [.agg (api_Value.dv v)] [] (fun d' b' => d' = .val (.int .i64 r) ∧ b' = []) := by
 unfold g_der_depth.F at hg
 refine Fn.of Tryz.func84 rfl rfl rfl fun w0 I ρ0 => ?_
 show awp _ ⟨w0, I, ρ0, 0, 0, 20, none⟩ _ _ _
 refine sr_ 0 16 mk_U ?_
 refine go_ ?_
 refine ch_n fun hU => ?_
 refine sr_ 16 24 hU ?_
 refine go_ ?_
 refine ch_n fun hU => ?_
 refine awp_seq ?_
 refine sr_ 24 56 hU ?_
 refine go_ ?_
 refine ch_n fun hU => ?_
 refine awp_block ?_
 refine lp_ (fun ((most_1, x9_1) : Int × Int) => mk [(3, .val (.int .i64 most_1)), (7, .sl 4 (encL api_Value.enc v.Elements)), (8, .val (.int .i64 (v.Elements.length : Int))), (9, .val (.int .i64 x9_1))] [] 0) hg (sub_ []) ?_
 rintro ⟨most_1, x9_1⟩ m1 o1 hg hn1
 replace hg : g_der_depth.l1 rec v most_1 x9_1 = some o1 := hg
 show awp _ _ _ _ (mk _ _ _)
 unfold g_der_depth.l1 at hg
 refine sr_ 0 8 mk_U ?_
 refine go_ ?_
 refine ch_n fun hU => ?_
 refine awp_seq ?_
 refine cg_ rfl hg (fun h5 hg => ?_) fun h5 hg => ?_
 ·refine awp_skip ?_
  repeat first | refine st_ ?_ | refine sn_ ?_
  refine awp_seq ?_
  refine awp_block ?_
  refine sr_ 8 40 hU ?_
  obtain ⟨e, he, hg⟩ := bind_some hg
  refine go_ ?_
  refine c0_ rfl rfl (r_loadEA ty103 (enc_cells api_Value.enc_len (getI_at he) (o := 0) (m := 4) (cs := [.int .i64 e.Tag, .sl 1 (encL e8 e.Bytes), .bool e.Nested, .sl 4 (encL api_Value.enc e.Elements)]) (by simp only [api_Value.enc_eq]; rfl) (by decide) rfl) (enc_cells_le api_Value.enc_len (getI_at he) (o := 0) (m := 4) (by decide) rfl)) rfl rfl ?_
  refine go_ ?_
  refine ch_n fun hU => ?_
  refine awp_region (sys _ _ []) 40 80 hU rfl rfl ?_
  refine go_ ?_
  obtain ⟨y, hy, hg⟩ := bind_some hg
  refine ca_ (hrec _ _ hy) ?_
  refine c0_ rfl rfl r_max rfl rfl ?_
  refine go_ ?_
  refine ch_n fun hU => ?_
  refine awp_region (sys _ _ []) 80 96 hU rfl rfl ?_
  refine go_ ?_
  refine ch_n fun hU => ?_
  obtain rfl := Option.some.inj hg
  exact ⟨((max most_1 y, W (x9_1 + 1)), m1), Nat.lt_succ_self _, hn1, sub_ []⟩
 ·refine awp_exit ?_
  repeat first | refine st_ ?_ | refine sn_ ?_
  replace hg := leave hg hn1
  refine sr_ 8 32 hU ?_
  refine go_ ?_
  refine ch_n fun hU => ?_
  refine aw_r ?_
  obtain rfl := Option.some.inj hg
  exact fin_ [] ⟨rfl, rfl⟩
theorem w_der_depth (v : api_Value) (r : Int) (hg : g_der_depth v = some r) : Fn Tryz.prog 84 0 [.agg (api_Value.dv v)] [] (fun d' b' => d' = .val (.int .i64 r) ∧ b' = []) :=
 fixT_ind (motive := fun (x : api_Value) (r : Int) => Fn Tryz.prog 84 0 [.agg (api_Value.dv x)] [] (fun d' b' => d' = .val (.int .i64 r) ∧ b' = [])) (fun rec hrec x r h => w_der_depth.F _ (fun v r h => hrec v r h) x r h) v r hg
theorem w_der_length_own (b : List UInt8) (n : Int) (r : (List UInt8)) (hg : g_der_length b n = some r) : Fn Tryz.prog 117 0 [.row 0, .val (.int .i64 n)] [.row 5 1 (encL e8 b)] (fun d' b' => d' = .row 0 ∧ b' = [.row 5 1 (encL e8 r)]) := by
 unfold g_der_length at hg
 refine Fn.of Tryz.func117 rfl rfl rfl fun w0 I ρ0 => ?_
 show awp _ ⟨w0, I, ρ0, 0, 1, 43, none⟩ _ _ _
 refine sr_ 1 9 mk_U ?_
 refine go_ ?_
 refine ch_n fun hU => ?_
 refine awp_seq ?_
 refine sr_ 9 25 hU ?_
 refine go_ ?_
 refine ch_n fun hU => ?_
 refine cg_ rfl hg (fun h3 hg => ?_) fun h3 hg => ?_
 ·refine awp_seq ?_
  refine awp_region (sys _ _ []) 25 73 hU rfl rfl ?_
  refine go_ ?_
  refine c0_ rfl rfl (r_conv_u8 und3 und5) rfl rfl ?_
  refine c0_ rfl rfl (r_buildFull sl82 z5 (by decide) rfl rfl rfl rfl ck5 (cs := [.int .u8 ((u8 n).toNat : Int)]) (.cons .int .nil) rfl (l := ([(u8 n)] : List UInt8)) (f := e8) rfl) rfl rfl ?_
  obtain ⟨l, hl, hg⟩ := bind_some hg
  refine ch_s (rd := [0, 49]) rfl rfl (r_append sl82 e8_len .row rfl .row rfl hl rfl) rfl rfl ?_
  refine go_ ?_
  refine ch_n fun hU => ?_
  refine aw_r ?_
  obtain rfl := Option.some.inj hg
  exact fin_ [(0, 57)] ⟨rfl, rfl⟩
 ·refine awp_skip ?_
  repeat first | refine st_ ?_ | refine sn_ ?_
  refine sr_ 25 33 hU ?_
  refine go_ ?_
  refine ch_n fun hU => ?_
  refine awp_seq ?_
  refine sr_ 33 49 hU ?_
  refine go_ ?_
  refine ch_n fun hU => ?_
  refine awp_block ?_
  refine lp_ (fun ((count_1, m_1) : Int × Int) => mk [(0, .row 0), (1, .val (.int .i64 n)), (5, .val (.int .i64 count_1)), (6, .val (.int .i64 m_1))] [(0, .row 5 1 (encL e8 b))] 1) hg (sub_ [(0, 0)]) ?_
  rintro ⟨count_1, m_1⟩ m1 o1 hg hn1
  replace hg : g_der_length.l1 b n count_1 m_1 = some o1 := hg
  show awp _ _ _ _ (mk _ _ _)
  unfold g_der_length.l1 at hg
  refine awp_seq ?_
  refine sr_ 1 17 mk_U ?_
  refine go_ ?_
  refine ch_n fun hU => ?_
  refine cg_ rfl hg (fun h8 hg => ?_) fun h8 hg => ?_
  ·refine awp_skip ?_
   repeat first | refine st_ ?_ | refine sn_ ?_
   refine awp_seq ?_
   refine awp_block ?_
   refine awp_region (sys _ _ []) 17 41 hU rfl rfl ?_
   refine go_ ?_
   refine ch_n fun hU => ?_
   refine awp_region (sys _ _ []) 41 65 hU rfl rfl ?_
   refine go_ ?_
   obtain ⟨q, hq, hg⟩ := bind_some hg
   refine c0_ rfl rfl (r_shrK hq) rfl rfl ?_
   refine go_ ?_
   refine ch_n fun hU => ?_
   obtain rfl := Option.some.inj hg
   exact ⟨((W (count_1 + 1), q), m1), Nat.lt_succ_self _, hn1, sub_ [(0, 0)]⟩
  ·refine awp_exit ?_
   repeat first | refine st_ ?_ | refine sn_ ?_
   replace hg := leave hg hn1
   refine sr_ 17 73 hU ?_
   refine go_ ?_
   refine c0_ rfl rfl (r_conv_u8 und3 und5) rfl rfl ?_
   refine c0_ rfl rfl (r_buildFull sl82 z5 (by decide) rfl rfl rfl rfl ck5 (cs := [.int .u8 ((u8 (W (128 + count_1))).toNat : Int)]) (.cons .int .nil) rfl (l := ([(u8 (W (128 + count_1)))] : List UInt8)) (f := e8) rfl) rfl rfl ?_
   obtain ⟨l_2, hl_2, hg⟩ := bind_some hg
   refine ch_s (rd := [0, 49]) rfl rfl (r_append sl82 e8_len .row rfl .row rfl hl_2 rfl) rfl rfl ?_
   refine go_ ?_
   refine ch_n fun hU => ?_
   refine awp_seq ?_
   refine sr_ 73 97 hU ?_
   refine go_ ?_
   refine ch_n fun hU => ?_
   refine awp_block ?_
   refine lp_ (fun ((i_2, b_2) : Int × List UInt8) => mk [(0, .row 0), (1, .val (.int .i64 n)), (7, .val (.int .i64 i_2))] [(0, .row 5 1 (encL e8 b_2))] 1) hg (sub_ [(0, 57)]) ?_
   rintro ⟨i_2, b_2⟩ m2 o2 hg hn2
   replace hg : g_der_length.l2 n i_2 b_2 = some o2 := hg
   show awp _ _ _ _ (mk _ _ _)
   unfold g_der_length.l2 at hg
   refine awp_seq ?_
   refine sr_ 1 17 mk_U ?_
   refine go_ ?_
   refine ch_n fun hU => ?_
   refine cg_ rfl hg (fun h14 hg => ?_) fun h14 hg => ?_
   ·refine awp_skip ?_
    repeat first | refine st_ ?_ | refine sn_ ?_
    refine awp_seq ?_
    refine awp_block ?_
    refine awp_region (sys _ _ []) 17 89 hU rfl rfl ?_
    refine go_ ?_
    obtain ⟨q_2, hq_2, hg⟩ := bind_some hg
    refine c0_ rfl rfl (r_shrK hq_2) rfl rfl ?_
    refine c0_ rfl rfl (r_conv_u8 und3 und5) rfl rfl ?_
    refine c0_ rfl rfl (r_buildFull sl82 z5 (by decide) rfl rfl rfl rfl ck5 (cs := [.int .u8 ((u8 q_2).toNat : Int)]) (.cons .int .nil) rfl (l := ([(u8 q_2)] : List UInt8)) (f := e8) rfl) rfl rfl ?_
    obtain ⟨l_3, hl_3, hg⟩ := bind_some hg
    refine ch_s (rd := [0, 65]) rfl rfl (r_append sl82 e8_len .row rfl .row rfl hl_3 rfl) rfl rfl ?_
    refine go_ ?_
    refine ch_n fun hU => ?_
    refine awp_region (sys _ _ []) 89 113 hU rfl rfl ?_
    refine go_ ?_
    refine ch_n fun hU => ?_
    obtain rfl := Option.some.inj hg
    exact ⟨((W (i_2 - 1), l_3), m2), Nat.lt_succ_self _, hn2, sub_ [(0, 73)]⟩
   ·refine awp_exit ?_
    repeat first | refine st_ ?_ | refine sn_ ?_
    replace hg := leave hg hn2
    refine sr_ 17 33 hU ?_
    refine go_ ?_
    refine ch_n fun hU => ?_
    refine aw_r ?_
    obtain rfl := Option.some.inj hg
    exact fin_ [(0, 0)] ⟨rfl, rfl⟩
theorem w_der_element_own (rec : api_Value → Option ((List UInt8))) (hrec : ∀ (v : api_Value) (r : (List UInt8)), rec v = some r → Fn Tryz.prog 116 0 [.agg (api_Value.dv v)] [] (fun d' b' => d' = .sl 1 (encL e8 r) ∧ b' = [])) (b : List UInt8) (v : api_Value) (r : (List UInt8)) (hg : g_der_element rec b v = some r) : Fn Tryz.prog 85 0 [.row 0, .agg (api_Value.dv v)] [.row 5 1 (encL e8 b)] (fun d' b' => d' = .row 0 ∧ b' = [.row 5 1 (encL e8 r)]) := by
 unfold g_der_element at hg
 refine Fn.of Tryz.func85 rfl rfl rfl fun w0 I ρ0 => ?_
 show awp _ ⟨w0, I, ρ0, 0, 1, 19, none⟩ _ _ _
 refine sr_ 1 17 mk_U ?_
 refine go_ ?_
 refine ch_n fun hU => ?_
 refine sr_ 17 41 hU ?_
 refine go_ ?_
 obtain ⟨y, hy, hg⟩ := bind_some hg
 refine ca_ (hrec _ _ hy) ?_
 refine go_ ?_
 refine ch_n fun hU => ?_
 refine sr_ 41 137 hU ?_
 refine go_ ?_
 refine c0_ rfl rfl (r_conv_u8 und3 und5) rfl rfl ?_
 refine c0_ rfl rfl (r_buildFull sl82 z5 (by decide) rfl rfl rfl rfl ck5 (cs := [.int .u8 ((u8 v.Tag).toNat : Int)]) (.cons .int .nil) rfl (l := ([(u8 v.Tag)] : List UInt8)) (f := e8) rfl) rfl rfl ?_
 obtain ⟨l, hl, hg⟩ := bind_some hg
 refine ch_s (rd := [0, 73]) rfl rfl (r_append sl82 e8_len .row rfl .row rfl hl rfl) rfl rfl ?_
 refine go_ ?_
 obtain ⟨y_2, hy_2, hg⟩ := bind_some hg
 refine ch_call (rd := [81]) (ps := []) (gs := [81]) false rfl (w_der_length_own _ _ _ hy_2) rfl rfl (.cons (.rowK rfl) (.cons .val .nil)) ⟨_, _, _, rfl, .head _, rfl, rfl⟩ rfl (by intro h; cases h) rfl (by intro h; first | (cases h; done) | exact ⟨_, _, ⟨rfl, rfl⟩, by simp, by simp⟩) ?_
 rintro _ _ ⟨rfl, rfl⟩
 refine go_ ?_
 obtain ⟨l_2, hl_2, hg⟩ := bind_some hg
 refine ch_s (rd := [105]) rfl rfl (r_append sl82 e8_len .row rfl .sl rfl hl_2 rfl) rfl rfl ?_
 refine go_ ?_
 refine ch_n fun hU => ?_
 refine aw_r ?_
 obtain rfl := Option.some.inj hg
 exact fin_ [(0, 121)] ⟨rfl, rfl⟩
theorem w_der_contents.F (rec : api_Value → Option ((List UInt8))) (hrec : ∀ (v : api_Value) (r : (List UInt8)), rec v = some r → Fn Tryz.prog 116 0 [.agg (api_Value.dv v)] [] (fun d' b' => d' = .sl 1 (encL e8 r) ∧ b' = [])) (v : api_Value) (r : (List UInt8)) (hg : g_der_contents.F rec v = some r) : Fn Tryz.prog 116 0 [.agg (api_Value.dv v)] [] (fun d' b' => d' = .sl 1 (encL e8 r) ∧ b' = []) := by
 unfold g_der_contents.F at hg
 refine Fn.of Tryz.func116 rfl rfl rfl fun w0 I ρ0 => ?_
 show awp _ ⟨w0, I, ρ0, 0, 0, 23, none⟩ _ _ _
 refine sr_ 0 16 mk_U ?_
 refine go_ ?_
 refine ch_n fun hU => ?_
 refine awp_seq ?_
 refine sr_ 16 40 hU ?_
 refine go_ ?_
 refine ch_n fun hU => ?_
 refine cg_ rfl hg (fun h3 hg => ?_) fun h3 hg => ?_
 ·refine awp_seq ?_
  refine awp_region (sys _ _ []) 40 64 hU rfl rfl ?_
  refine go_ ?_
  refine ch_n fun hU => ?_
  refine aw_r ?_
  obtain rfl := Option.some.inj hg
  exact fin_ [] ⟨rfl, rfl⟩
 ·refine awp_skip ?_
  repeat first | refine st_ ?_ | refine sn_ ?_
  refine sr_ 40 48 hU ?_
  refine go_ ?_
  refine ch_n fun hU => ?_
  refine awp_seq ?_
  refine sr_ 48 80 hU ?_
  refine go_ ?_
  refine ch_n fun hU => ?_
  refine awp_block ?_
  refine lp_ (fun ((x14_1, out_1) : Int × List UInt8) => mk [(3, .row 0), (12, .sl 4 (encL api_Value.enc v.Elements)), (13, .val (.int .i64 (v.Elements.length : Int))), (14, .val (.int .i64 x14_1))] [(0, .row 5 1 (encL e8 out_1))] 1) hg (sub_ []) ?_
  rintro ⟨x14_1, out_1⟩ m1 o1 hg hn1
  replace hg : g_der_contents.l1 rec v x14_1 out_1 = some o1 := hg
  show awp _ _ _ _ (mk _ _ _)
  unfold g_der_contents.l1 at hg
  refine sr_ 1 9 mk_U ?_
  refine go_ ?_
  refine ch_n fun hU => ?_
  refine awp_seq ?_
  refine cg_ rfl hg (fun h8 hg => ?_) fun h8 hg => ?_
  ·refine awp_skip ?_
   repeat first | refine st_ ?_ | refine sn_ ?_
   refine awp_seq ?_
   refine awp_block ?_
   refine sr_ 9 41 hU ?_
   obtain ⟨e, he, hg⟩ := bind_some hg
   refine go_ ?_
   refine c0_ rfl rfl (r_loadEA ty103 (enc_cells api_Value.enc_len (getI_at he) (o := 0) (m := 4) (cs := [.int .i64 e.Tag, .sl 1 (encL e8 e.Bytes), .bool e.Nested, .sl 4 (encL api_Value.enc e.Elements)]) (by simp only [api_Value.enc_eq]; rfl) (by decide) rfl) (enc_cells_le api_Value.enc_len (getI_at he) (o := 0) (m := 4) (by decide) rfl)) rfl rfl ?_
   refine go_ ?_
   refine ch_n fun hU => ?_
   refine awp_region (sys _ _ []) 41 73 hU rfl rfl ?_
   refine go_ ?_
   obtain ⟨y, hy, hg⟩ := bind_some hg
   refine ch_call (rd := [0]) (ps := []) (gs := [0]) false rfl (w_der_element_own rec hrec _ _ _ hy) rfl rfl (.cons (.rowK rfl) (.cons (.agg (.cons .val (.cons .sl (.cons .val (.cons .sl .nil))))) .nil)) ⟨_, _, _, rfl, .head _, rfl, rfl⟩ rfl (by intro h; cases h) rfl (by intro h; first | (cases h; done) | exact ⟨_, _, ⟨rfl, rfl⟩, by simp, by simp⟩) ?_
   rintro _ _ ⟨rfl, rfl⟩
   refine go_ ?_
   refine ch_n fun hU => ?_
   refine awp_region (sys _ _ []) 73 89 hU rfl rfl ?_
   refine go_ ?_
   refine ch_n fun hU => ?_
   obtain rfl := Option.some.inj hg
   exact ⟨((W (x14_1 + 1), y), m1), Nat.lt_succ_self _, hn1, sub_ [(0, 57)]⟩
  ·refine awp_exit ?_
   repeat first | refine st_ ?_ | refine sn_ ?_
   replace hg := leave hg hn1
   refine sr_ 9 25 hU ?_
   refine go_ ?_
   refine ch_n fun hU => ?_
   refine aw_r ?_
   obtain rfl := Option.some.inj hg
   exact fin_ [] ⟨rfl, rfl⟩
theorem w_der_contents (v : api_Value) (r : (List UInt8)) (hg : g_der_contents v = some r) : Fn Tryz.prog 116 0 [.agg (api_Value.dv v)] [] (fun d' b' => d' = .sl 1 (encL e8 r) ∧ b' = []) :=
 fixT_ind (motive := fun (x : api_Value) (r : (List UInt8)) => Fn Tryz.prog 116 0 [.agg (api_Value.dv x)] [] (fun d' b' => d' = .sl 1 (encL e8 r) ∧ b' = [])) (fun rec hrec x r h => w_der_contents.F _ (fun v r h => hrec v r h) x r h) v r hg
theorem w_der_element_nil_own (v : api_Value) (r : (List UInt8)) (hg : g_der_element_nil v = some r) : Fn Tryz.prog 85 0 [.val (.slice none 0 0), .agg (api_Value.dv v)] [] (fun d' b' => d' = .row 0 ∧ b' = [.row 5 1 (encL e8 r)]) := by
 unfold g_der_element_nil at hg
 refine Fn.of Tryz.func85 rfl rfl rfl fun w0 I ρ0 => ?_
 show awp _ ⟨w0, I, ρ0, 0, 0, 19, none⟩ _ _ _
 refine sr_ 0 16 mk_U ?_
 refine go_ ?_
 refine ch_n fun hU => ?_
 refine sr_ 16 40 hU ?_
 refine go_ ?_
 obtain ⟨y, hy, hg⟩ := bind_some hg
 refine ca_ (w_der_contents _ _ hy) ?_
 refine go_ ?_
 refine ch_n fun hU => ?_
 refine sr_ 40 136 hU ?_
 refine go_ ?_
 refine c0_ rfl rfl (r_conv_u8 und3 und5) rfl rfl ?_
 refine c0_ rfl rfl (r_buildFull sl82 z5 (by decide) rfl rfl rfl rfl ck5 (cs := [.int .u8 ((u8 v.Tag).toNat : Int)]) (.cons .int .nil) rfl (l := ([(u8 v.Tag)] : List UInt8)) (f := e8) rfl) rfl rfl ?_
 obtain ⟨l, hl, hg⟩ := bind_some hg
 refine ch_s (rd := [72]) rfl rfl (r_append sl82 e8_len .nil rfl .row rfl hl rfl) rfl rfl ?_
 refine go_ ?_
 obtain ⟨y_2, hy_2, hg⟩ := bind_some hg
 refine ch_call (rd := [80]) (ps := []) (gs := [80]) false rfl (w_der_length_own _ _ _ hy_2) rfl rfl (.cons (.rowK rfl) (.cons .val .nil)) ⟨_, _, _, rfl, .head _, rfl, rfl⟩ rfl (by intro h; cases h) rfl (by intro h; first | (cases h; done) | exact ⟨_, _, ⟨rfl, rfl⟩, by simp, by simp⟩) ?_
 rintro _ _ ⟨rfl, rfl⟩
 refine go_ ?_
 obtain ⟨l_2, hl_2, hg⟩ := bind_some hg
 refine ch_s (rd := [104]) rfl rfl (r_append sl82 e8_len .row rfl .sl rfl hl_2 rfl) rfl rfl ?_
 refine go_ ?_
 refine ch_n fun hU => ?_
 refine aw_r ?_
 obtain rfl := Option.some.inj hg
 exact fin_ [(0, 120)] ⟨rfl, rfl⟩
theorem w_der_Encode (v : api_Value) (r : (List UInt8) × Int) (hg : g_der_Encode v = some r) : Fn Tryz.prog 63 0 [.agg (api_Value.dv v)] [] (fun d' b' => d' = .tup [.sl 1 (encL e8 r.1), .val (.int .i64 r.2)] ∧ b' = []) := by
 unfold g_der_Encode at hg
 refine Fn.of Tryz.func63 rfl rfl rfl fun w0 I ρ0 => ?_
 show awp _ ⟨w0, I, ρ0, 0, 0, 17, none⟩ _ _ _
 refine sr_ 0 24 mk_U ?_
 refine go_ ?_
 refine ch_n fun hU => ?_
 refine awp_seq ?_
 refine sr_ 24 48 hU ?_
 refine go_ ?_
 obtain ⟨y, hy, hg⟩ := bind_some hg
 refine ca_ (w_der_formed _ _ hy) ?_
 refine go_ ?_
 refine ch_n fun hU => ?_
 refine cg_ rfl hg (fun h3 hg => ?_) fun h3 hg => ?_
 ·refine awp_seq ?_
  refine awp_region (sys _ _ []) 48 64 hU rfl rfl ?_
  refine go_ ?_
  refine ch_n fun hU => ?_
  refine aw_r ?_
  obtain rfl := Option.some.inj hg
  exact fin_ [] ⟨rfl, rfl⟩
 ·refine awp_skip ?_
  repeat first | refine st_ ?_ | refine sn_ ?_
  refine awp_seq ?_
  refine sr_ 48 72 hU ?_
  refine go_ ?_
  obtain ⟨y_2, hy_2, hg⟩ := bind_some hg
  refine ca_ (w_der_depth _ _ hy_2) ?_
  refine go_ ?_
  refine ch_n fun hU => ?_
  refine cg_ rfl hg (fun h6 hg => ?_) fun h6 hg => ?_
  ·refine awp_seq ?_
   refine awp_region (sys _ _ []) 72 88 hU rfl rfl ?_
   refine go_ ?_
   refine ch_n fun hU => ?_
   refine aw_r ?_
   obtain rfl := Option.some.inj hg
   exact fin_ [] ⟨rfl, rfl⟩
  ·refine awp_skip ?_
   repeat first | refine st_ ?_ | refine sn_ ?_
   refine sr_ 72 96 hU ?_
   refine go_ ?_
   obtain ⟨y_3, hy_3, hg⟩ := bind_some hg
   refine ch_call (rd := []) (ps := []) (gs := []) false rfl (w_der_element_nil_own _ _ hy_3) rfl rfl (.cons .val (.cons (.agg (.cons .val (.cons .sl (.cons .val (.cons .sl .nil))))) .nil)) rfl rfl (by intro h; cases h) rfl (by intro h; first | (cases h; done) | exact ⟨_, _, ⟨rfl, rfl⟩, by simp, by simp⟩) ?_
   rintro _ _ ⟨rfl, rfl⟩
   refine go_ ?_
   refine ch_n fun hU => ?_
   refine awp_seq ?_
   refine sr_ 96 120 hU ?_
   refine go_ ?_
   refine ch_n fun hU => ?_
   refine cg_ rfl hg (fun h10 hg => ?_) fun h10 hg => ?_
   ·refine awp_seq ?_
    refine awp_region (sys _ _ []) 120 136 hU rfl rfl ?_
    refine go_ ?_
    refine ch_n fun hU => ?_
    refine aw_r ?_
    obtain rfl := Option.some.inj hg
    exact fin_ [] ⟨rfl, rfl⟩
   ·refine awp_skip ?_
    repeat first | refine st_ ?_ | refine sn_ ?_
    refine sr_ 120 144 hU ?_
    refine go_ ?_
    refine ch_n fun hU => ?_
    refine aw_r ?_
    obtain rfl := Option.some.inj hg
    exact fin_ [] ⟨rfl, rfl⟩
theorem w_exception_Bytes (x' : api_Exception) (r : (List UInt8) × Int) (hg : g_exception_Bytes x' = some r) : Fn Tryz.prog 40 0 [.agg (api_Exception.dv x')] [] (fun d' b' => d' = .tup [.sl 1 (encL e8 r.1), .val (.int .i64 r.2)] ∧ b' = []) := by
 unfold g_exception_Bytes at hg
 refine Fn.of Tryz.func40 rfl rfl rfl fun w0 I ρ0 => ?_
 show awp _ ⟨w0, I, ρ0, 0, 0, 37, none⟩ _ _ _
 refine sr_ 0 24 mk_U ?_
 refine go_ ?_
 refine ch_n fun hU => ?_
 refine awp_seq ?_
 refine sr_ 24 48 hU ?_
 refine go_ ?_
 obtain ⟨y, hy, hg⟩ := bind_some hg
 refine ca_ (w_exception_Check _ _ hy) ?_
 refine go_ ?_
 refine ch_n fun hU => ?_
 refine sr_ 48 64 hU ?_
 refine go_ ?_
 refine ch_n fun hU => ?_
 refine cg_ rfl hg (fun h4 hg => ?_) fun h4 hg => ?_
 ·refine awp_seq ?_
  refine awp_region (sys _ _ []) 64 88 hU rfl rfl ?_
  refine go_ ?_
  refine ch_n fun hU => ?_
  refine aw_r ?_
  obtain rfl := Option.some.inj hg
  exact fin_ [] ⟨rfl, rfl⟩
 ·refine awp_skip ?_
  repeat first | refine st_ ?_ | refine sn_ ?_
  refine awp_seq ?_
  refine awp_draw (sys _ _ [240]) (by kernel_rfl) [0, 1, 3, 7, 0, 16, 48, 127, 0, 256, 1023, 0, 2048, 8191, 0, 16384, 49152, 131071, 0, 262144, 786432, 2097151, 4194303, 8388607, 16777215, 33554431, 33554431, 134217727, 268435455] 64 296 hU rfl rfl (by kernel_rfl) ?_
  refine go_ ?_
  obtain ⟨y_2, hy_2, hg⟩ := bind_some hg
  refine ca_ (w_der_Int _ _ hy_2) ?_
  refine go_ ?_
  obtain ⟨y_3, hy_3, hg⟩ := bind_some hg
  refine ca_ (w_der_Int _ _ hy_3) ?_
  refine go_ ?_
  obtain ⟨y_4, hy_4, hg⟩ := bind_some hg
  refine ca_ (w_der_Int _ _ hy_4) ?_
  refine go_ ?_
  obtain ⟨y_5, hy_5, hg⟩ := bind_some hg
  refine ca_ (w_der_Text _ _ hy_5) ?_
  refine go_ ?_
  obtain ⟨y_6, hy_6, hg⟩ := bind_some hg
  refine ca_ (w_der_Int _ _ hy_6) ?_
  refine go_ ?_
  obtain ⟨y_7, hy_7, hg⟩ := bind_some hg
  refine ca_ (w_der_Int _ _ hy_7) ?_
  refine ch_z (rd := []) rfl rfl (r_buildFull sl101 z103 (by decide) rfl rfl rfl rfl ck103 (cs := [.int .i64 y_2.Tag, .sl 1 (encL e8 y_2.Bytes), .bool y_2.Nested, .sl 4 (encL api_Value.enc y_2.Elements), .int .i64 y_3.Tag, .sl 1 (encL e8 y_3.Bytes), .bool y_3.Nested, .sl 4 (encL api_Value.enc y_3.Elements), .int .i64 y_4.Tag, .sl 1 (encL e8 y_4.Bytes), .bool y_4.Nested, .sl 4 (encL api_Value.enc y_4.Elements), .int .i64 y_5.Tag, .sl 1 (encL e8 y_5.Bytes), .bool y_5.Nested, .sl 4 (encL api_Value.enc y_5.Elements), .int .i64 y_6.Tag, .sl 1 (encL e8 y_6.Bytes), .bool y_6.Nested, .sl 4 (encL api_Value.enc y_6.Elements), .int .i64 y_7.Tag, .sl 1 (encL e8 y_7.Bytes), .bool y_7.Nested, .sl 4 (encL api_Value.enc y_7.Elements)]) (.cons .int (.cons .sl (.cons .bool (.cons .sl (.cons .int (.cons .sl (.cons .bool (.cons .sl (.cons .int (.cons .sl (.cons .bool (.cons .sl (.cons .int (.cons .sl (.cons .bool (.cons .sl (.cons .int (.cons .sl (.cons .bool (.cons .sl (.cons .int (.cons .sl (.cons .bool (.cons .sl .nil)))))))))))))))))))))))) rfl (l := ([y_2, y_3, y_4, y_5, y_6, y_7] : List api_Value)) (f := api_Value.enc) (by simp only [encL, List.flatMap_cons, List.flatMap_nil, api_Value.enc_eq]; rfl)) rfl rfl rfl ?_
  obtain ⟨y_8, hy_8, hg⟩ := bind_some hg
  refine ca_ (w_der_Of _ _ hy_8) ?_
  obtain ⟨y_9, hy_9, hg⟩ := bind_some hg
  refine ca_ (w_der_Encode _ _ hy_9) ?_
  refine go_ ?_
  refine ch_n fun hU => ?_
  refine aw_r ?_
  obtain rfl := Option.some.inj hg
  exact fin_ [] ⟨rfl, rfl⟩
theorem w_slices_Clone_api_Seal_own (s : (List api_Seal)) (r : (List api_Seal)) (hg : g_slices_Clone_api_Seal s = some r) : Fn Tryz.prog 43 0 [.sl 2 (encL api_Seal.enc s)] [] (fun d' b' => d' = .row 0 ∧ b' = [.row 87 2 (encL api_Seal.enc r)]) := by
 unfold g_slices_Clone_api_Seal at hg
 refine Fn.of Tryz.func43 rfl rfl rfl fun w0 I ρ0 => ?_
 show awp _ ⟨w0, I, ρ0, 0, 0, 8, none⟩ _ _ _
 refine sr_ 0 8 mk_U ?_
 refine go_ ?_
 refine ch_n fun hU => ?_
 refine awp_seq ?_
 refine awp_cut (ι := Bool) (fun (x4_1 : Bool) => mk [(0, .sl 2 (encL api_Seal.enc s)), (4, .val (.bool x4_1))] [] 0) (fun (x4_1 : Bool) => g_slices_Clone_api_Seal.j1 s x4_1 = some r) ?_ ?_
 ·refine awp_region (sys _ _ []) 8 24 hU rfl rfl ?_
  refine go_ ?_
  refine ch_nilE rfl rfl ⟨_, und50⟩ rfl ?_
  intro bz hz2
  rcases bz with _ | _
  ·replace hg := nilC_f hg
   refine ch_n fun hU => ?_
   exact ⟨false, hg, sub_ []⟩
  ·replace hg := nilC_t ((nil_of_enc api_Seal.enc_len (by decide) (hz2 rfl))) hg
   refine ch_n fun hU => ?_
   exact ⟨true, hg, sub_ []⟩
 ·rintro x4_1 hg
  replace hg : g_slices_Clone_api_Seal.j1 s x4_1 = some r := hg
  show awp _ _ _ _ (mk _ _ _)
  unfold g_slices_Clone_api_Seal.j1 at hg
  refine cg_ rfl hg (fun h5 hg => ?_) fun h5 hg => ?_
  ·refine awp_seq ?_
   refine awp_region (sys _ _ []) 0 8 mk_U rfl rfl ?_
   refine go_ ?_
   refine ch_n fun hU => ?_
   refine aw_r ?_
   obtain rfl := Option.some.inj hg
   exact fin_ [] ⟨rfl, rfl⟩
  ·refine awp_skip ?_
   repeat first | refine st_ ?_ | refine sn_ ?_
   refine sr_ 0 32 mk_U ?_
   refine c0_ rfl rfl (r_buildFull sl50 z87 (by decide) rfl rfl rfl rfl ck87 (cs := []) .nil rfl (l := ([] : List api_Seal)) (f := api_Seal.enc) rfl) rfl rfl ?_
   refine go_ ?_
   obtain ⟨l, hl, hg⟩ := bind_some hg
   refine ch_s (rd := [0]) rfl rfl (r_append sl50 api_Seal.enc_len .row rfl .sl rfl hl rfl) rfl rfl ?_
   refine go_ ?_
   refine ch_n fun hU => ?_
   refine aw_r ?_
   obtain rfl := Option.some.inj hg
   exact fin_ [(0, 16)] ⟨rfl, rfl⟩
theorem w_exception_Sign_c1 (s : api_Seal) (c0 : Int) (r : Bool) (hg : g_exception_Sign_c1 s c0 = some r) : Fn Tryz.prog 44 0 [.agg [.val (.int .i64 s.Key), .val (.int .i64 s.Sum)], .elt (([.int .i64 c0] : List C).drop 0)] [] (fun d' b' => d' = .val (.bool r) ∧ b' = []) := by
 unfold g_exception_Sign_c1 at hg
 refine Fn.of Tryz.func44 rfl rfl rfl fun w0 I ρ0 => ?_
 show awp _ ⟨w0, I, ρ0, 0, 0, 8, none⟩ _ _ _
 refine sr_ 0 16 mk_U ?_
 refine go_ ?_
 refine ch_n fun hU => ?_
 refine sr_ 16 56 hU ?_
 refine go_ ?_
 refine c0_ rfl rfl (r_loadE1 ty3 (c := .int .i64 c0) rfl) rfl rfl ?_
 refine go_ ?_
 refine ch_n fun hU => ?_
 refine aw_r ?_
 obtain rfl := Option.some.inj hg
 exact fin_ [] ⟨rfl, rfl⟩
theorem w_slices_IndexFunc_api_Seal_clo_44_0_ref_3 (s : (List api_Seal)) (f : api_Seal → Option (Bool)) (f_c0 : Int) (hf_f : ∀ (x0 : api_Seal) (y : Bool), f x0 = some y → Fn Tryz.prog 44 0 [.agg [.val (.int .i64 x0.Key), .val (.int .i64 x0.Sum)], .elt (([.int .i64 f_c0] : List C).drop 0)] [] (fun d' b' => d' = .val (.bool y) ∧ b' = [])) (r : Int) (hg : g_slices_IndexFunc_api_Seal s f = some r) : Fn Tryz.prog 67 0 [.sl 2 (encL api_Seal.enc s), .clo 44 0 [.elt (([.int .i64 f_c0] : List C).drop 0)]] [] (fun d' b' => d' = .val (.int .i64 r) ∧ b' = []) := by
 unfold g_slices_IndexFunc_api_Seal at hg
 refine Fn.of Tryz.func67 rfl rfl rfl fun w0 I ρ0 => ?_
 show awp _ ⟨w0, I, ρ0, 0, 0, 19, none⟩ _ _ _
 refine sr_ 0 8 mk_U ?_
 refine go_ ?_
 refine ch_n fun hU => ?_
 refine awp_seq ?_
 refine sr_ 8 32 hU ?_
 refine go_ ?_
 refine ch_n fun hU => ?_
 refine awp_block ?_
 refine lp_ (fun (x8_1 : Int) => mk [(0, .sl 2 (encL api_Seal.enc s)), (1, .clo 44 0 [.elt (([.int .i64 f_c0] : List C).drop 0)]), (7, .val (.int .i64 (s.length : Int))), (8, .val (.int .i64 x8_1))] [] 0) hg (sub_ []) ?_
 rintro x8_1 m1 o1 hg hn1
 replace hg : g_slices_IndexFunc_api_Seal.l1 s f x8_1 = some o1 := hg
 show awp _ _ _ _ (mk _ _ _)
 unfold g_slices_IndexFunc_api_Seal.l1 at hg
 refine sr_ 0 8 mk_U ?_
 refine go_ ?_
 refine ch_n fun hU => ?_
 refine awp_seq ?_
 refine cg_ rfl hg (fun h4 hg => ?_) fun h4 hg => ?_
 ·refine awp_skip ?_
  repeat first | refine st_ ?_ | refine sn_ ?_
  refine awp_seq ?_
  refine awp_block ?_
  refine sr_ 8 24 hU ?_
  refine go_ ?_
  refine ch_n fun hU => ?_
  refine sr_ 24 72 hU ?_
  refine go_ ?_
  obtain ⟨e, he, hg⟩ := bind_some hg
  refine go_ ?_
  refine c0_ rfl rfl (r_loadEA ty87 (enc_cells api_Seal.enc_len (getI_at he) (o := 0) (m := 2) (cs := [.int .i64 e.Key, .int .i64 e.Sum]) rfl (by decide) rfl) (enc_cells_le api_Seal.enc_len (getI_at he) (o := 0) (m := 2) (by decide) rfl)) rfl rfl ?_
  obtain ⟨y, hy, hg⟩ := bind_some hg
  refine ch_callCP (rd := []) (ps := []) (gs := []) false rfl rfl (hf_f e _ hy) rfl rfl (.cons (.agg (.cons .val (.cons .val .nil))) (.cons .elt .nil)) rfl rfl (by intro h; cases h) rfl rfl rfl rfl ?_
  refine ch_n fun hU => ?_
  refine cg_ rfl hg (fun h7 hg => ?_) fun h7 hg => ?_
  ·refine awp_seq ?_
   refine awp_region (sys _ _ []) 72 88 hU rfl rfl ?_
   refine go_ ?_
   refine ch_n fun hU => ?_
   refine aw_r ?_
   replace hg := leave hg hn1
   obtain rfl := Option.some.inj hg
   exact fin_ [] ⟨rfl, rfl⟩
  ·refine awp_skip ?_
   repeat first | refine st_ ?_ | refine sn_ ?_
   refine awp_region (sys _ _ []) 72 88 hU rfl rfl ?_
   refine go_ ?_
   refine ch_n fun hU => ?_
   obtain rfl := Option.some.inj hg
   exact ⟨(W (x8_1 + 1), m1), Nat.lt_succ_self _, hn1, sub_ []⟩
 ·refine awp_exit ?_
  repeat first | refine st_ ?_ | refine sn_ ?_
  replace hg := leave hg hn1
  refine sr_ 8 16 hU ?_
  refine go_ ?_
  refine ch_n fun hU => ?_
  refine aw_r ?_
  obtain rfl := Option.some.inj hg
  exact fin_ [] ⟨rfl, rfl⟩
theorem w_slices_DeleteFunc_api_Seal_clo_44_0_ref_3_own (s : List api_Seal) (del : api_Seal → Option (Bool)) (del_c0 : Int) (hf_del : ∀ (x0 : api_Seal) (y : Bool), del x0 = some y → Fn Tryz.prog 44 0 [.agg [.val (.int .i64 x0.Key), .val (.int .i64 x0.Sum)], .elt (([.int .i64 del_c0] : List C).drop 0)] [] (fun d' b' => d' = .val (.bool y) ∧ b' = [])) (r : (List api_Seal)) (hg : g_slices_DeleteFunc_api_Seal s del = some r) : Fn Tryz.prog 42 0 [.row 0, .clo 44 0 [.elt (([.int .i64 del_c0] : List C).drop 0)]] [.row 87 2 (encL api_Seal.enc s)] (fun d' b' => d' = .row 0 ∧ b' = [.row 87 2 (encL api_Seal.enc r)]) := by
 unfold g_slices_DeleteFunc_api_Seal at hg
 refine Fn.of Tryz.func42 rfl rfl rfl fun w0 I ρ0 => ?_
 show awp _ ⟨w0, I, ρ0, 0, 1, 42, none⟩ _ _ _
 refine sr_ 1 9 mk_U ?_
 refine go_ ?_
 refine ch_n fun hU => ?_
 refine sr_ 9 41 hU ?_
 refine go_ ?_
 obtain ⟨y, hy, hg⟩ := bind_some hg
 refine cb_ [0] [] [] true (w_slices_IndexFunc_api_Seal_clo_44_0_ref_3 s del del_c0 hf_del _ hy) ?_
 refine go_ ?_
 refine ch_n fun hU => ?_
 refine awp_seq ?_
 refine sr_ 41 57 hU ?_
 refine go_ ?_
 refine ch_n fun hU => ?_
 refine cg_ rfl hg (fun h4 hg => ?_) fun h4 hg => ?_
 ·refine awp_seq ?_
  refine awp_region (sys _ _ []) 57 73 hU rfl rfl ?_
  refine go_ ?_
  refine ch_n fun hU => ?_
  refine aw_r ?_
  obtain rfl := Option.some.inj hg
  exact fin_ [(0, 0)] ⟨rfl, rfl⟩
 ·refine awp_skip ?_
  repeat first | refine st_ ?_ | refine sn_ ?_
  refine awp_seq ?_
  refine sr_ 57 81 hU ?_
  refine go_ ?_
  refine ch_n fun hU => ?_
  refine awp_block ?_
  refine lp_ (fun ((i_1, j_1, s_1) : Int × Int × List api_Seal) => mk [(0, .row 0), (1, .clo 44 0 [.elt (([.int .i64 del_c0] : List C).drop 0)]), (5, .val (.int .i64 i_1)), (6, .val (.int .i64 j_1))] [(0, .row 87 2 (encL api_Seal.enc s_1))] 1) hg (sub_ [(0, 0)]) ?_
  rintro ⟨i_1, j_1, s_1⟩ m1 o1 hg hn1
  replace hg : g_slices_DeleteFunc_api_Seal.l1 del i_1 j_1 s_1 = some o1 := hg
  show awp _ _ _ _ (mk _ _ _)
  unfold g_slices_DeleteFunc_api_Seal.l1 at hg
  refine awp_seq ?_
  refine sr_ 1 33 mk_U ?_
  refine go_ ?_
  refine ch_n fun hU => ?_
  refine cg_ rfl hg (fun h8 hg => ?_) fun h8 hg => ?_
  ·refine awp_skip ?_
   repeat first | refine st_ ?_ | refine sn_ ?_
   refine awp_cut (ι := Int × List api_Seal) (fun ((i_2, s_2) : Int × List api_Seal) => mk [(0, .row 0), (1, .clo 44 0 [.elt (([.int .i64 del_c0] : List C).drop 0)]), (5, .val (.int .i64 i_2)), (6, .val (.int .i64 j_1))] [(0, .row 87 2 (encL api_Seal.enc s_2))] 1) (fun ((i_2, s_2) : Int × List api_Seal) => g_slices_DeleteFunc_api_Seal.j2 j_1 i_2 s_2 = some o1) ?_ ?_
   ·refine awp_block ?_
    refine sr_ 33 81 hU ?_
    refine go_ ?_
    obtain ⟨e, he, hg⟩ := bind_some hg
    refine go_ ?_
    refine ch_s (rd := [0]) rfl rfl (r_loadRA ty87 (enc_cells api_Seal.enc_len (getI_at he) (o := 0) (m := 2) (cs := [.int .i64 e.Key, .int .i64 e.Sum]) rfl (by decide) rfl) (enc_cells_le api_Seal.enc_len (getI_at he) (o := 0) (m := 2) (by decide) rfl)) rfl rfl ?_
    refine go_ ?_
    refine ch_n fun hU => ?_
    refine sr_ 81 113 hU ?_
    refine go_ ?_
    obtain ⟨y_2, hy_2, hg⟩ := bind_some hg
    refine ch_callCP (rd := []) (ps := []) (gs := []) false rfl rfl (hf_del e _ hy_2) rfl rfl (.cons (.agg (.cons .val (.cons .val .nil))) (.cons .elt .nil)) rfl rfl (by intro h; cases h) rfl rfl rfl rfl ?_
    refine go_ ?_
    refine ch_n fun hU => ?_
    refine cg_ rfl hg (fun h11 hg => ?_) fun h11 hg => ?_
    ·refine awp_seq ?_
     refine awp_region (sys _ _ []) 113 153 hU rfl rfl ?_
     refine go_ ?_
     obtain ⟨e_2, he_2, hg⟩ := bind_some hg
     refine go_ ?_
     refine ch_s (rd := [0]) rfl rfl (r_storeR ty87 rfl (enc_cells_le api_Seal.enc_len (getI_at he_2) (o := 0) (m := 2) (by decide) rfl) ck87 (cs' := [.int .i64 e.Key, .int .i64 e.Sum]) (.cons .int (.cons .int .nil)) (enc_splice api_Seal.enc_len (getI_at he_2) (o := 0) (x' := e) (Nat.le_of_ble_eq_true rfl) rfl rfl)) rfl rfl ?_
     refine ch_n fun hU => ?_
     refine awp_region (sys _ _ []) 153 177 hU rfl rfl ?_
     refine go_ ?_
     refine ch_n fun hU => ?_
     exact ⟨(W (i_1 + 1), setI s_1 ((i_1).toNat) e), hg, sub_ [(0, 0)]⟩
    ·refine awp_skip ?_
     repeat first | refine st_ ?_ | refine sn_ ?_
     exact ⟨(i_1, s_1), hg, sub_ [(0, 0)]⟩
   ·rintro ⟨i_2, s_2⟩ hg
    replace hg : g_slices_DeleteFunc_api_Seal.j2 j_1 i_2 s_2 = some o1 := hg
    show awp _ _ _ _ (mk _ _ _)
    unfold g_slices_DeleteFunc_api_Seal.j2 at hg
    refine awp_region (sys _ _ []) 1 25 mk_U rfl rfl ?_
    refine go_ ?_
    refine ch_n fun hU => ?_
    obtain rfl := Option.some.inj hg
    exact ⟨((i_2, W (j_1 + 1), s_2), m1), Nat.lt_succ_self _, hn1, sub_ [(0, 0)]⟩
  ·refine awp_exit ?_
   repeat first | refine st_ ?_ | refine sn_ ?_
   replace hg := leave hg hn1
   refine sr_ 33 65 hU ?_
   refine go_ ?_
   obtain ⟨l, hl, hg⟩ := bind_some hg
   refine ch_s (rd := [0]) rfl rfl (r_sliR_lo sl50 api_Seal.enc_len hl) rfl rfl ?_
   obtain ⟨l_2, hl_2, hg⟩ := bind_some hg
   refine ch_x (rd := [0]) rfl rfl (x_clear (f := api_Seal.enc) (a := (i_1 : Int).toNat) (m := (((s_1.length : Int) : Int).toNat - (i_1 : Int).toNat)) (z0 := (api_Seal.mk 0 0)) sl50 api_Seal.enc_len (zt_of (ck := [none, none]) z87 (.cons .int (.cons .int .nil))) (.head _) hl_2) rfl rfl (fun _ => ⟨_, rfl⟩) ?_
   rintro _ rfl
   refine ch_n fun hU => ?_
   refine sr_ 65 97 hU ?_
   refine go_ ?_
   obtain ⟨l_3, hl_3, hg⟩ := bind_some hg
   refine ch_s (rd := [0]) rfl rfl (r_sliR_hi sl50 api_Seal.enc_len hl_3) rfl rfl ?_
   refine go_ ?_
   refine ch_n fun hU => ?_
   refine awp_sub (σ' := mk [(4, .part 0 (((0 : Int).toNat) * 2) ((i_1 : Int).toNat - (0 : Int).toNat))] [(0, .row 87 2 (encL api_Seal.enc l_2))] 1) (sub_ [(0, 0)]) ?_
   refine awp_sub (σ' := mk [(4, .row 0)] [(0, .row 87 2 (encL api_Seal.enc (l_2.take ((i_1 : Int).toNat - (0 : Int).toNat))))] 1) (cut_ 4 0 api_Seal.enc_len (Nat.le_trans (Nat.le_add_left _ _) (slI_le hl_3)) rfl rfl rfl rfl) ?_
   refine aw_r ?_
   obtain rfl := Option.some.inj hg
   exact fin_ [(0, 0)] ⟨rfl, rfl⟩
theorem w_certificate_Sum (b : (List UInt8)) (r : Int) (hg : g_certificate_Sum b = some r) : Fn Tryz.prog 45 0 [.sl 1 (encL e8 b)] [] (fun d' b' => d' = .val (.int .i64 r) ∧ b' = []) := by
 unfold g_certificate_Sum at hg
 refine Fn.of Tryz.func45 rfl rfl rfl fun w0 I ρ0 => ?_
 show awp _ ⟨w0, I, ρ0, 0, 0, 20, none⟩ _ _ _
 refine sr_ 0 8 mk_U ?_
 refine go_ ?_
 refine ch_n fun hU => ?_
 refine sr_ 8 16 hU ?_
 refine go_ ?_
 refine ch_n fun hU => ?_
 refine awp_seq ?_
 refine sr_ 16 40 hU ?_
 refine go_ ?_
 refine ch_n fun hU => ?_
 refine awp_block ?_
 refine lp_ (fun ((s_1, x8_1) : Int × Int) => mk [(3, .val (.int .u32 s_1)), (6, .sl 1 (encL e8 b)), (7, .val (.int .i64 (b.length : Int))), (8, .val (.int .i64 x8_1))] [] 0) hg (sub_ []) ?_
 rintro ⟨s_1, x8_1⟩ m1 o1 hg hn1
 replace hg : g_certificate_Sum.l1 b s_1 x8_1 = some o1 := hg
 show awp _ _ _ _ (mk _ _ _)
 unfold g_certificate_Sum.l1 at hg
 refine sr_ 0 8 mk_U ?_
 refine go_ ?_
 refine ch_n fun hU => ?_
 refine awp_seq ?_
 refine cg_ rfl hg (fun h5 hg => ?_) fun h5 hg => ?_
 ·refine awp_skip ?_
  repeat first | refine st_ ?_ | refine sn_ ?_
  refine awp_seq ?_
  refine awp_block ?_
  refine sr_ 8 32 hU ?_
  obtain ⟨e, he, hg⟩ := bind_some hg
  refine go_ ?_
  refine c0_ rfl rfl (r_loadE1 ty5 (enc_cell e8_len (getI_at he) (o := 0) (c := .int .u8 (e.toNat : Int)) rfl rfl)) rfl rfl ?_
  refine go_ ?_
  refine ch_n fun hU => ?_
  refine awp_region (sys _ _ []) 32 80 hU rfl rfl ?_
  refine go_ ?_
  refine c0_ rfl rfl (r_convK und5 und108) rfl rfl ?_
  refine c0_ rfl rfl r_xorK rfl rfl ?_
  refine c0_ rfl rfl r_mulK rfl rfl ?_
  refine go_ ?_
  refine ch_n fun hU => ?_
  refine awp_region (sys _ _ []) 80 96 hU rfl rfl ?_
  refine go_ ?_
  refine ch_n fun hU => ?_
  obtain rfl := Option.some.inj hg
  exact ⟨((IntKind.wrap .u32 ((xorK .u32 s_1 (IntKind.wrap .u32 (e.toNat : Int))) * 16777619), W (x8_1 + 1)), m1), Nat.lt_succ_self _, hn1, sub_ []⟩
 ·refine awp_exit ?_
  repeat first | refine st_ ?_ | refine sn_ ?_
  replace hg := leave hg hn1
  refine sr_ 8 32 hU ?_
  refine go_ ?_
  refine c0_ rfl rfl (r_conv_i64 und108 und3) rfl rfl ?_
  refine go_ ?_
  refine ch_n fun hU => ?_
  refine aw_r ?_
  obtain rfl := Option.some.inj hg
  exact fin_ [] ⟨rfl, rfl⟩
theorem w_math_bits_Len64 (x' : Int) (r : Int) (hg : g_math_bits_Len64 x' = some r) : Fn Tryz.prog 96 0 [.val (.int .u64 x')] [] (fun d' b' => d' = .val (.int .i64 r) ∧ b' = []) := by
 unfold g_math_bits_Len64 at hg
 refine Fn.of Tryz.func96 rfl rfl rfl fun w0 I ρ0 => ?_
 show awp _ ⟨w0, I, ρ0, 0, 0, 25, none⟩ _ _ _
 refine sr_ 0 8 mk_U ?_
 refine go_ ?_
 refine ch_n fun hU => ?_
 refine awp_cut (ι := Int × Int) (fun ((x_1, n_1) : Int × Int) => mk [(0, .val (.int .u64 x_1)), (2, .val (.int .i64 n_1))] [] 0) (fun ((x_1, n_1) : Int × Int) => g_math_bits_Len64.j1 x_1 n_1 = some r) ?_ ?_
 ·refine awp_seq ?_
  refine awp_region (sys _ _ []) 8 24 hU rfl rfl ?_
  refine go_ ?_
  refine ch_n fun hU => ?_
  refine cg_ rfl hg (fun h3 hg => ?_) fun h3 hg => ?_
  ·refine awp_seq ?_
   refine awp_region (sys _ _ []) 24 48 hU rfl rfl ?_
   refine go_ ?_
   obtain ⟨q, hq, hg⟩ := bind_some hg
   refine c0_ rfl rfl (r_shrK hq) rfl rfl ?_
   refine go_ ?_
   refine ch_n fun hU => ?_
   refine awp_region (sys _ _ []) 48 56 hU rfl rfl ?_
   refine go_ ?_
   refine ch_n fun hU => ?_
   exact ⟨(q, 32), hg, sub_ []⟩
  ·refine awp_skip ?_
   repeat first | refine st_ ?_ | refine sn_ ?_
   exact ⟨(x', 0), hg, sub_ []⟩
 ·rintro ⟨x_1, n_1⟩ hg
  replace hg : g_math_bits_Len64.j1 x_1 n_1 = some r := hg
  show awp _ _ _ _ (mk _ _ _)
  unfold g_math_bits_Len64.j1 at hg
  refine awp_cut (ι := Int × Int) (fun ((x_2, n_2) : Int × Int) => mk [(0, .val (.int .u64 x_2)), (2, .val (.int .i64 n_2))] [] 0) (fun ((x_2, n_2) : Int × Int) => g_math_bits_Len64.j2 x_2 n_2 = some r) ?_ ?_
  ·refine awp_seq ?_
   refine awp_region (sys _ _ []) 0 16 mk_U rfl rfl ?_
   refine go_ ?_
   refine ch_n fun hU => ?_
   refine cg_ rfl hg (fun h7 hg => ?_) fun h7 hg => ?_
   ·refine awp_seq ?_
    refine awp_region (sys _ _ []) 16 40 hU rfl rfl ?_
    refine go_ ?_
    obtain ⟨q_2, hq_2, hg⟩ := bind_some hg
    refine c0_ rfl rfl (r_shrK hq_2) rfl rfl ?_
    refine go_ ?_
    refine ch_n fun hU => ?_
    refine awp_region (sys _ _ []) 40 64 hU rfl rfl ?_
    refine go_ ?_
    refine ch_n fun hU => ?_
    exact ⟨(q_2, W (n_1 + 16)), hg, sub_ []⟩
   ·refine awp_skip ?_
    repeat first | refine st_ ?_ | refine sn_ ?_
    exact ⟨(x_1, n_1), hg, sub_ []⟩
  ·rintro ⟨x_2, n_2⟩ hg
   replace hg : g_math_bits_Len64.j2 x_2 n_2 = some r := hg
   show awp _ _ _ _ (mk _ _ _)
   unfold g_math_bits_Len64.j2 at hg
   refine awp_cut (ι := Int × Int) (fun ((x_3, n_3) : Int × Int) => mk [(0, .val (.int .u64 x_3)), (2, .val (.int .i64 n_3))] [] 0) (fun ((x_3, n_3) : Int × Int) => g_math_bits_Len64.j3 x_3 n_3 = some r) ?_ ?_
   ·refine awp_seq ?_
    refine awp_region (sys _ _ []) 0 16 mk_U rfl rfl ?_
    refine go_ ?_
    refine ch_n fun hU => ?_
    refine cg_ rfl hg (fun h11 hg => ?_) fun h11 hg => ?_
    ·refine awp_seq ?_
     refine awp_region (sys _ _ []) 16 40 hU rfl rfl ?_
     refine go_ ?_
     obtain ⟨q_3, hq_3, hg⟩ := bind_some hg
     refine c0_ rfl rfl (r_shrK hq_3) rfl rfl ?_
     refine go_ ?_
     refine ch_n fun hU => ?_
     refine awp_region (sys _ _ []) 40 64 hU rfl rfl ?_
     refine go_ ?_
     refine ch_n fun hU => ?_
     exact ⟨(q_3, W (n_2 + 8)), hg, sub_ []⟩
    ·refine awp_skip ?_
     repeat first | refine st_ ?_ | refine sn_ ?_
     exact ⟨(x_2, n_2), hg, sub_ []⟩
   ·rintro ⟨x_3, n_3⟩ hg
    replace hg : g_math_bits_Len64.j3 x_3 n_3 = some r := hg
    show awp _ _ _ _ (mk _ _ _)
    unfold g_math_bits_Len64.j3 at hg
    refine sr_ 0 56 mk_U ?_
    refine go_ ?_
    refine c0_ rfl rfl (r_conv_u8 und125 und5) rfl rfl ?_
    obtain ⟨c, hc, hg⟩ := bind_some hg
    refine c0_ rfl rfl (r_idxT und9 hc) rfl rfl ?_
    refine c0_ rfl rfl (r_conv_8i (u := c) und5 und3) rfl rfl ?_
    refine go_ ?_
    refine ch_n fun hU => ?_
    refine aw_r ?_
    obtain rfl := Option.some.inj hg
    exact fin_ [] ⟨rfl, rfl⟩
theorem w_math_bits_Len (x' : Int) (r : Int) (hg : g_math_bits_Len x' = some r) : Fn Tryz.prog 69 0 [.val (.int .u64 x')] [] (fun d' b' => d' = .val (.int .i64 r) ∧ b' = []) := by
 unfold g_math_bits_Len at hg
 refine Fn.of Tryz.func69 rfl rfl rfl fun w0 I ρ0 => ?_
 show awp _ ⟨w0, I, ρ0, 0, 0, 8, none⟩ _ _ _
 refine sr_ 0 8 mk_U ?_
 refine go_ ?_
 refine ch_n fun hU => ?_
 refine awp_seq ?_
 refine awp_condc (fun h => ?_) (fun h => ?_)
 ·exact absurd h (by first | decide | exact fun h => nomatch (show false = true from h) | exact fun h => nomatch (show true = false from h))
 ·refine awp_skip ?_
  repeat first | refine st_ ?_ | refine sn_ ?_
  refine sr_ 8 32 hU ?_
  refine go_ ?_
  obtain ⟨y, hy, hg⟩ := bind_some hg
  refine ca_ (w_math_bits_Len64 _ _ hy) ?_
  refine go_ ?_
  refine ch_n fun hU => ?_
  refine aw_r ?_
  obtain rfl := Option.some.inj hg
  exact fin_ [] ⟨rfl, rfl⟩
theorem w_exception_Sign_c2 (a : api_Seal) (b : api_Seal) (r : Int) (hg : g_exception_Sign_c2 a b = some r) : Fn Tryz.prog 47 0 [.agg [.val (.int .i64 a.Key), .val (.int .i64 a.Sum)], .agg [.val (.int .i64 b.Key), .val (.int .i64 b.Sum)]] [] (fun d' b' => d' = .val (.int .i64 r) ∧ b' = []) := by
 unfold g_exception_Sign_c2 at hg
 refine Fn.of Tryz.func47 rfl rfl rfl fun w0 I ρ0 => ?_
 show awp _ ⟨w0, I, ρ0, 0, 0, 10, none⟩ _ _ _
 refine sr_ 0 24 mk_U ?_
 refine go_ ?_
 refine ch_n fun hU => ?_
 refine sr_ 24 72 hU ?_
 refine go_ ?_
 refine ch_n fun hU => ?_
 refine aw_r ?_
 obtain rfl := Option.some.inj hg
 exact fin_ [] ⟨rfl, rfl⟩
theorem w_slices_insertionSortCmpFunc_api_Seal_clo_47_0_ (data : List api_Seal) (a : Int) (b : Int) (cmp : api_Seal → api_Seal → Option (Int)) (hf_cmp : ∀ (x0 : api_Seal) (x1 : api_Seal) (y : Int), cmp x0 x1 = some y → Fn Tryz.prog 47 0 [.agg [.val (.int .i64 x0.Key), .val (.int .i64 x0.Sum)], .agg [.val (.int .i64 x1.Key), .val (.int .i64 x1.Sum)]] [] (fun d' b' => d' = .val (.int .i64 y) ∧ b' = [])) (r : (List api_Seal)) (hg : g_slices_insertionSortCmpFunc_api_Seal data a b cmp = some r) : Fn Tryz.prog 87 1 [.row 0, .val (.int .i64 a), .val (.int .i64 b), .clo 47 0 []] [.row 87 2 (encL api_Seal.enc data)] (fun d' b' => d' = .tup [] ∧ b' = [.row 87 2 (encL api_Seal.enc r)]) := by
 unfold g_slices_insertionSortCmpFunc_api_Seal at hg
 refine Fn.of Tryz.func87 rfl rfl rfl fun w0 I ρ0 => ?_
 show awp _ ⟨w0, I, ρ0, 1, 1, 53, none⟩ _ _ _
 refine sr_ 1 25 mk_U ?_
 refine go_ ?_
 refine ch_n fun hU => ?_
 refine awp_block ?_
 refine lp_ (fun ((i_1, data_1) : Int × List api_Seal) => mk [(0, .row 0), (1, .val (.int .i64 a)), (2, .val (.int .i64 b)), (3, .clo 47 0 []), (8, .val (.int .i64 i_1))] [(0, .row 87 2 (encL api_Seal.enc data_1))] 1) hg (sub_ [(0, 0)]) ?_
 rintro ⟨i_1, data_1⟩ m1 o1 hg hn1
 replace hg : g_slices_insertionSortCmpFunc_api_Seal.l1 a b cmp i_1 data_1 = some o1 := hg
 show awp _ _ _ _ (mk _ _ _)
 unfold g_slices_insertionSortCmpFunc_api_Seal.l1 at hg
 refine awp_seq ?_
 refine sr_ 1 25 mk_U ?_
 refine go_ ?_
 refine ch_n fun hU => ?_
 refine cg_ rfl hg (fun h3 hg => ?_) fun h3 hg => ?_
 ·refine awp_skip ?_
  repeat first | refine st_ ?_ | refine sn_ ?_
  refine awp_seq ?_
  refine awp_block ?_
  refine sr_ 25 41 hU ?_
  refine go_ ?_
  refine ch_n fun hU => ?_
  refine awp_block ?_
  refine lp_ (fun ((j_2, data_2) : Int × List api_Seal) => mk [(0, .row 0), (1, .val (.int .i64 a)), (2, .val (.int .i64 b)), (3, .clo 47 0 []), (8, .val (.int .i64 i_1)), (9, .val (.int .i64 j_2))] [(0, .row 87 2 (encL api_Seal.enc data_2))] 1) hg (sub_ [(0, 0)]) ?_
  rintro ⟨j_2, data_2⟩ m2 o2 hg hn2
  replace hg : g_slices_insertionSortCmpFunc_api_Seal.l2 a cmp i_1 j_2 data_2 = some o2 := hg
  show awp _ _ _ _ (mk _ _ _)
  unfold g_slices_insertionSortCmpFunc_api_Seal.l2 at hg
  refine awp_seq ?_
  refine awp_cut (ι := Bool) (fun (x34_3 : Bool) => mk [(0, .row 0), (1, .val (.int .i64 a)), (2, .val (.int .i64 b)), (3, .clo 47 0 []), (8, .val (.int .i64 i_1)), (9, .val (.int .i64 j_2)), (34, .val (.bool x34_3))] [(0, .row 87 2 (encL api_Seal.enc data_2))] 1) (fun (x34_3 : Bool) => g_slices_insertionSortCmpFunc_api_Seal.j3 i_1 j_2 data_2 x34_3 = some o2) ?_ ?_
  ·refine awp_draw (sys _ _ []) (by kernel_rfl) [0, 0, 3, 7, 15, 15, 15, 111, 239, 15, 15, 1039, 3599, 7695, 16383, 32767, 65535] 1 137 mk_U rfl rfl (by kernel_rfl) ?_
   refine go_ ?_
   rcases bc_ hg with ⟨h5, hg⟩ | ⟨h5, hg⟩
   ·refine go_ ?_
    obtain ⟨e, he, hg⟩ := bind_some hg
    refine go_ ?_
    refine ch_s (rd := [0]) (gdv_t rfl rfl h5) rfl (r_loadRA ty87 (enc_cells api_Seal.enc_len (getI_at he) (o := 0) (m := 2) (cs := [.int .i64 e.Key, .int .i64 e.Sum]) rfl (by decide) rfl) (enc_cells_le api_Seal.enc_len (getI_at he) (o := 0) (m := 2) (by decide) rfl)) rfl rfl ?_
    refine go_ ?_
    obtain ⟨e_2, he_2, hg⟩ := bind_some hg
    refine go_ ?_
    refine ch_s (rd := [0]) (gdv_t rfl rfl h5) rfl (r_loadRA ty87 (enc_cells api_Seal.enc_len (getI_at he_2) (o := 0) (m := 2) (cs := [.int .i64 e_2.Key, .int .i64 e_2.Sum]) rfl (by decide) rfl) (enc_cells_le api_Seal.enc_len (getI_at he_2) (o := 0) (m := 2) (by decide) rfl)) rfl rfl ?_
    obtain ⟨y, hy, hg⟩ := bind_some hg
    refine ch_callCP (rd := []) (ps := []) (gs := []) false (gdv_t rfl rfl h5) rfl (hf_cmp e e_2 _ hy) rfl rfl (.cons (.agg (.cons .val (.cons .val .nil))) (.cons (.agg (.cons .val (.cons .val .nil))) .nil)) rfl rfl (by intro h; cases h) rfl rfl rfl rfl ?_
    refine go_ ?_
    refine ch_n fun hU => ?_
    exact ⟨decide (y < 0), hg, sub_ [(0, 0)]⟩
   ·refine go_ ?_
    refine ch_n fun hU => ?_
    exact ⟨false, hg, sub_ [(0, 0)]⟩
  ·rintro x34_3 hg
   replace hg : g_slices_insertionSortCmpFunc_api_Seal.j3 i_1 j_2 data_2 x34_3 = some o2 := hg
   show awp _ _ _ _ (mk _ _ _)
   unfold g_slices_insertionSortCmpFunc_api_Seal.j3 at hg
   refine cg_ rfl hg (fun h8 hg => ?_) fun h8 hg => ?_
   ·refine awp_skip ?_
    repeat first | refine st_ ?_ | refine sn_ ?_
    refine awp_seq ?_
    refine awp_block ?_
    refine awp_draw (sys _ _ []) (by kernel_rfl) [0, 0, 0, 0, 8, 0, 0, 64, 224, 480, 0, 0, 3072, 7168, 16355, 32739, 65535, 131071] 1 145 mk_U rfl rfl (by kernel_rfl) ?_
    refine go_ ?_
    obtain ⟨e_3, he_3, hg⟩ := bind_some hg
    refine go_ ?_
    refine ch_s (rd := [0]) rfl rfl (r_loadRA ty87 (enc_cells api_Seal.enc_len (getI_at he_3) (o := 0) (m := 2) (cs := [.int .i64 e_3.Key, .int .i64 e_3.Sum]) rfl (by decide) rfl) (enc_cells_le api_Seal.enc_len (getI_at he_3) (o := 0) (m := 2) (by decide) rfl)) rfl rfl ?_
    refine go_ ?_
    obtain ⟨e_4, he_4, hg⟩ := bind_some hg
    refine go_ ?_
    refine ch_s (rd := [0]) rfl rfl (r_loadRA ty87 (enc_cells api_Seal.enc_len (getI_at he_4) (o := 0) (m := 2) (cs := [.int .i64 e_4.Key, .int .i64 e_4.Sum]) rfl (by decide) rfl) (enc_cells_le api_Seal.enc_len (getI_at he_4) (o := 0) (m := 2) (by decide) rfl)) rfl rfl ?_
    refine go_ ?_
    refine ch_s (rd := [0]) rfl rfl (r_storeR ty87 rfl (enc_cells_le api_Seal.enc_len (getI_at he_4) (o := 0) (m := 2) (by decide) rfl) ck87 (cs' := [.int .i64 e_3.Key, .int .i64 e_3.Sum]) (.cons .int (.cons .int .nil)) (enc_splice api_Seal.enc_len (getI_at he_4) (o := 0) (x' := e_3) (Nat.le_of_ble_eq_true rfl) rfl rfl)) rfl rfl ?_
    obtain ⟨e_5, he_5, hg⟩ := bind_some hg
    refine go_ ?_
    refine ch_s (rd := [0]) rfl rfl (r_storeR ty87 rfl (enc_cells_le api_Seal.enc_len (getI_at he_5) (o := 0) (m := 2) (by decide) rfl) ck87 (cs' := [.int .i64 e_4.Key, .int .i64 e_4.Sum]) (.cons .int (.cons .int .nil)) (enc_splice api_Seal.enc_len (getI_at he_5) (o := 0) (x' := e_4) (Nat.le_of_ble_eq_true rfl) rfl rfl)) rfl rfl ?_
    refine ch_n fun hU => ?_
    refine awp_region (sys _ _ []) 145 169 hU rfl rfl ?_
    refine go_ ?_
    refine ch_n fun hU => ?_
    obtain rfl := Option.some.inj hg
    exact ⟨((W (j_2 - 1), setI (setI data_2 ((j_2).toNat) e_3) ((W (j_2 - 1)).toNat) e_4), m2), Nat.lt_succ_self _, hn2, sub_ [(0, 0)]⟩
   ·refine awp_exit ?_
    repeat first | refine st_ ?_ | refine sn_ ?_
    replace hg := leave hg hn2
    refine awp_region (sys _ _ []) 1 25 mk_U rfl rfl ?_
    refine go_ ?_
    refine ch_n fun hU => ?_
    obtain rfl := Option.some.inj hg
    exact ⟨((W (i_1 + 1), data_2), m1), Nat.lt_succ_self _, hn1, sub_ [(0, 0)]⟩
 ·refine awp_exit ?_
  repeat first | refine st_ ?_ | refine sn_ ?_
  replace hg := leave hg hn1
  obtain rfl := Option.some.inj hg
  exact fin_ [(0, 0)] ⟨rfl, rfl⟩
theorem w_slices_pdqsortCmpFunc_api_Seal_clo_47_0_ (data : List api_Seal) (a : Int) (b : Int) (limit : Int) (cmp : api_Seal → api_Seal → Option (Int)) (hf_cmp : ∀ (x0 : api_Seal) (x1 : api_Seal) (y : Int), cmp x0 x1 = some y → Fn Tryz.prog 47 0 [.agg [.val (.int .i64 x0.Key), .val (.int .i64 x0.Sum)], .agg [.val (.int .i64 x1.Key), .val (.int .i64 x1.Sum)]] [] (fun d' b' => d' = .val (.int .i64 y) ∧ b' = [])) (r : (List api_Seal)) (hg : g_slices_pdqsortCmpFunc_api_Seal data a b limit cmp = some r) : Fn Tryz.prog 68 1 [.row 0, .val (.int .i64 a), .val (.int .i64 b), .val (.int .i64 limit), .clo 47 0 []] [.row 87 2 (encL api_Seal.enc data)] (fun d' b' => d' = .tup [] ∧ b' = [.row 87 2 (encL api_Seal.enc r)]) := by
 unfold g_slices_pdqsortCmpFunc_api_Seal at hg
 refine Fn.of Tryz.func68 rfl rfl rfl fun w0 I ρ0 => ?_
 show awp _ ⟨w0, I, ρ0, 1, 1, 148, none⟩ _ _ _
 refine sr_ 1 9 mk_U ?_
 refine go_ ?_
 refine ch_n fun hU => ?_
 refine sr_ 9 17 hU ?_
 refine go_ ?_
 refine ch_n fun hU => ?_
 refine awp_block ?_
 refine lp_ (fun (_ : Unit) => mk [(0, .row 0), (1, .val (.int .i64 a)), (2, .val (.int .i64 b)), (3, .val (.int .i64 limit)), (4, .clo 47 0 []), (10, .val (.bool true)), (11, .val (.bool true))] [(0, .row 87 2 (encL api_Seal.enc data))] 1) hg (sub_ [(0, 0)]) ?_
 rintro _ m1 o1 hg hn1
 replace hg : g_slices_pdqsortCmpFunc_api_Seal.l1 data a b limit cmp = some o1 := hg
 show awp _ _ _ _ (mk _ _ _)
 unfold g_slices_pdqsortCmpFunc_api_Seal.l1 at hg
 refine awp_block ?_
 refine sr_ 1 33 mk_U ?_
 refine go_ ?_
 refine ch_n fun hU => ?_
 refine awp_seq ?_
 refine sr_ 33 49 hU ?_
 refine go_ ?_
 refine ch_n fun hU => ?_
 refine cg_ rfl hg (fun h5 hg => ?_) fun h5 hg => ?_
 ·refine awp_seq ?_
  refine awp_region (sys _ _ []) 49 89 hU rfl rfl ?_
  refine go_ ?_
  obtain ⟨y, hy, hg⟩ := bind_some hg
  refine cb_ [0] [0] [] false (w_slices_insertionSortCmpFunc_api_Seal_clo_47_0_ data a b cmp hf_cmp _ hy) ?_
  refine ch_n fun hU => ?_
  refine aw_r ?_
  replace hg := leave hg hn1
  obtain rfl := Option.some.inj hg
  exact fin_ [(0, 0)] ⟨rfl, rfl⟩
 ·refine awp_skip ?_
  repeat first | refine st_ ?_ | refine sn_ ?_
  refine awp_seq ?_
  refine sr_ 49 65 hU ?_
  refine go_ ?_
  refine ch_n fun hU => ?_
  refine cg_ rfl hg (fun h8 hg => ?_) fun h8 hg => ?_
  ·refine awp_seq ?_
   refine awp_region (sys _ _ []) 65 105 hU rfl rfl ?_
   refine go_ ?_
   cases hg
  ·refine awp_skip ?_
   repeat first | refine st_ ?_ | refine sn_ ?_
   refine awp_seq ?_
   refine sr_ 65 81 hU ?_
   refine go_ ?_
   refine ch_n fun hU => ?_
   refine awp_cond rfl (fun h => ?_) (fun h => ?_)
   ·exact absurd h (by first | decide | exact fun h => nomatch (show false = true from h) | exact fun h => nomatch (show true = false from h))
   ·refine awp_skip ?_
    repeat first | refine st_ ?_ | refine sn_ ?_
    refine sr_ 81 161 hU ?_
    refine go_ ?_
    cases hg
theorem w_slices_SortFunc_api_Seal_clo_47_0_ (x' : List api_Seal) (cmp : api_Seal → api_Seal → Option (Int)) (hf_cmp : ∀ (x0 : api_Seal) (x1 : api_Seal) (y : Int), cmp x0 x1 = some y → Fn Tryz.prog 47 0 [.agg [.val (.int .i64 x0.Key), .val (.int .i64 x0.Sum)], .agg [.val (.int .i64 x1.Key), .val (.int .i64 x1.Sum)]] [] (fun d' b' => d' = .val (.int .i64 y) ∧ b' = [])) (r : (List api_Seal)) (hg : g_slices_SortFunc_api_Seal x' cmp = some r) : Fn Tryz.prog 46 1 [.row 0, .clo 47 0 []] [.row 87 2 (encL api_Seal.enc x')] (fun d' b' => d' = .tup [] ∧ b' = [.row 87 2 (encL api_Seal.enc r)]) := by
 unfold g_slices_SortFunc_api_Seal at hg
 refine Fn.of Tryz.func46 rfl rfl rfl fun w0 I ρ0 => ?_
 show awp _ ⟨w0, I, ρ0, 1, 1, 14, none⟩ _ _ _
 refine sr_ 1 25 mk_U ?_
 refine go_ ?_
 refine ch_n fun hU => ?_
 refine awp_region (sys _ _ []) 25 81 hU rfl rfl ?_
 refine go_ ?_
 refine c0_ rfl rfl (r_convK und3 und111) rfl rfl ?_
 obtain ⟨y, hy, hg⟩ := bind_some hg
 refine ca_ (w_math_bits_Len _ _ hy) ?_
 refine go_ ?_
 obtain ⟨y_2, hy_2, hg⟩ := bind_some hg
 refine cb_ [0] [0] [] false (w_slices_pdqsortCmpFunc_api_Seal_clo_47_0_ x' 0 (x'.length : Int) y cmp hf_cmp _ hy_2) ?_
 refine ch_n fun hU => ?_
 obtain rfl := Option.some.inj hg
 exact fin_ [(0, 0)] ⟨rfl, rfl⟩
theorem w_exception_Sign (x' : api_Exception) (key : Int) (r : api_Exception × Int) (hg : g_exception_Sign x' key = some r) : Fn Tryz.prog 20 0 [.agg (api_Exception.dv x'), .val (.int .i64 key)] [] (fun d' b' => d' = .tup [.agg (api_Exception.dv r.1), .val (.int .i64 r.2)] ∧ b' = []) := by
 unfold g_exception_Sign at hg
 refine Fn.of Tryz.func20 rfl rfl rfl fun w0 I ρ0 => ?_
 show awp _ ⟨w0, I, ρ0, 0, 0, 45, none⟩ _ _ _
 refine sr_ 0 32 mk_U ?_
 refine go_ ?_
 refine ch_n fun hU => ?_
 refine sr_ 32 88 hU ?_
 refine go_ ?_
 obtain ⟨y, hy, hg⟩ := bind_some hg
 refine ca_ (w_exception_Bytes _ _ hy) ?_
 refine go_ ?_
 refine ch_n fun hU => ?_
 refine awp_seq ?_
 refine awp_block ?_
 refine sr_ 88 112 hU ?_
 refine go_ ?_
 refine ch_n fun hU => ?_
 refine cg_ rfl hg (fun h4 hg => ?_) fun h4 hg => ?_
 ·refine awp_seq ?_
  refine awp_region (sys _ _ []) 112 144 hU rfl rfl ?_
  refine c0_ rfl rfl (.build (r := [.val (.int .i64 0), .val (.int .i64 0), .val (.int .i64 0), .val (.string (⟨#[]⟩ : ByteArray)), .val (.int .i64 0), .val (.int .i64 0), .val (.slice none 0 0)]) und52 pl52 z52 (by kernel_rfl) rfl) rfl rfl ?_
  refine go_ ?_
  refine ch_n fun hU => ?_
  refine aw_r ?_
  obtain rfl := Option.some.inj hg
  exact fin_ [] ⟨rfl, rfl⟩
 ·refine awp_seq ?_
  refine awp_region (sys _ _ []) 112 144 hU rfl rfl ?_
  refine go_ ?_
  obtain ⟨y_2, hy_2, hg⟩ := bind_some hg
  refine ca_ (w_certificate_Key _ _ hy_2) ?_
  refine go_ ?_
  refine ch_n fun hU => ?_
  refine cg_ rfl hg (fun h7 hg => ?_) fun h7 hg => ?_
  ·refine awp_seq ?_
   refine awp_region (sys _ _ []) 144 168 hU rfl rfl ?_
   refine c0_ rfl rfl (.build (r := [.val (.int .i64 0), .val (.int .i64 0), .val (.int .i64 0), .val (.string (⟨#[]⟩ : ByteArray)), .val (.int .i64 0), .val (.int .i64 0), .val (.slice none 0 0)]) und52 pl52 z52 (by kernel_rfl) rfl) rfl rfl ?_
   refine go_ ?_
   refine ch_n fun hU => ?_
   refine aw_r ?_
   obtain rfl := Option.some.inj hg
   exact fin_ [] ⟨rfl, rfl⟩
  ·refine awp_skip ?_
   repeat first | refine st_ ?_ | refine sn_ ?_
   refine awp_seq ?_
   refine awp_sub (σ' := mk [(2, .ptr 0 0), (3, .elt (([.int .i64 key] : List C).drop 0)), (4, .ptr 1 0), (6, .sl 1 (encL e8 y.1))] [(0, .box (api_Exception.dv x') 52), (1, .box [.val (.int .i64 0), .val (.int .i64 0), .val (.int .i64 0), .val (.string (⟨#[]⟩ : ByteArray)), .val (.int .i64 0), .val (.int .i64 0), .val (.slice none 0 0)] 52)] 2) ((by exact Sub.lists [(0, 0), (1, 16)] rfl rfl ⟨⟨_, rfl, .ptr rfl⟩, ⟨_, rfl, .frzb (ks := [none]) rfl (.cons .int .nil) (look_ne rfl)⟩, ⟨_, rfl, .ptr rfl⟩, ⟨_, rfl, .sl _ _⟩, trivial⟩ ⟨.inl ⟨0, _, rfl, rfl, ⟨rfl, .cons (.val _) (.cons (.val _) (.cons (.val _) (.cons (.val _) (.cons (.val _) (.cons (.val _) (.cons (.sl _ _) .nil))))))⟩⟩, .inl ⟨16, _, rfl, rfl, ⟨rfl, .cons (.val _) (.cons (.val _) (.cons (.val _) (.cons (.val _) (.cons (.val _) (.cons (.val _) (.cons (.val _) .nil))))))⟩⟩, trivial⟩)) ?_
   refine awp_region (sys _ _ []) 2 50 mk_U rfl rfl ?_
   refine go_ ?_
   obtain ⟨y_3, hy_3, hg⟩ := bind_some hg
   refine ch_call (rd := []) (ps := []) (gs := []) false rfl (w_slices_Clone_api_Seal_own _ _ hy_3) rfl rfl (.cons .sl .nil) rfl rfl (by intro h; cases h) rfl (by intro h; first | (cases h; done) | exact ⟨_, _, ⟨rfl, rfl⟩, by simp, by simp⟩) ?_
   rintro _ _ ⟨rfl, rfl⟩
   refine go_ ?_
   obtain ⟨y_4, hy_4, hg⟩ := bind_some hg
   refine ch_call (rd := [18]) (ps := []) (gs := [18]) false rfl (w_slices_DeleteFunc_api_Seal_clo_44_0_ref_3_own y_3 (fun x0 => g_exception_Sign_c1 x0 key) key (fun x0 y h => w_exception_Sign_c1 x0 key y h) _ hy_4) rfl rfl (.cons (.rowK rfl) (.cons (.clo (.cons .elt .nil)) .nil)) ⟨_, _, _, rfl, .head _, rfl, rfl⟩ rfl (by intro h; cases h) rfl (by intro h; first | (cases h; done) | exact ⟨_, _, ⟨rfl, rfl⟩, by simp, by simp⟩) ?_
   rintro _ _ ⟨rfl, rfl⟩
   refine go_ ?_
   refine ch_n fun hU => ?_
   refine awp_seq ?_
   refine sr_ 50 74 hU ?_
   refine go_ ?_
   refine ch_n fun hU => ?_
   refine cg_ rfl hg (fun h11 hg => ?_) fun h11 hg => ?_
   ·refine awp_seq ?_
    refine awp_region (sys _ _ []) 74 98 hU rfl rfl ?_
    refine c0_ rfl rfl (.build (r := [.val (.int .i64 0), .val (.int .i64 0), .val (.int .i64 0), .val (.string (⟨#[]⟩ : ByteArray)), .val (.int .i64 0), .val (.int .i64 0), .val (.slice none 0 0)]) und52 pl52 z52 (by kernel_rfl) rfl) rfl rfl ?_
    refine go_ ?_
    refine ch_n fun hU => ?_
    refine aw_r ?_
    obtain rfl := Option.some.inj hg
    exact fin_ [] ⟨rfl, rfl⟩
   ·refine awp_skip ?_
    repeat first | refine st_ ?_ | refine sn_ ?_
    refine awp_seq ?_
    refine awp_draw (sys _ _ []) (by kernel_rfl) [0, 0, 0, 4, 14, 30, 63, 127] 74 138 hU rfl rfl (by kernel_rfl) ?_
    refine go_ ?_
    refine c0_ rfl rfl (r_loadE1 ty3 (c := .int .i64 key) rfl) rfl rfl ?_
    refine go_ ?_
    obtain ⟨y_5, hy_5, hg⟩ := bind_some hg
    refine ca_ (w_certificate_Sum _ _ hy_5) ?_
    refine c0_ rfl rfl (.build (r := [.val (.int .i64 key), .val (.int .i64 y_5)]) und87 pl87 z87 (by kernel_rfl) rfl) rfl rfl ?_
    refine c0_ rfl rfl (r_buildFull sl50 z87 (by decide) rfl rfl rfl rfl ck87 (cs := [.int .i64 key, .int .i64 y_5]) (.cons .int (.cons .int .nil)) rfl (l := ([(api_Seal.mk key y_5)] : List api_Seal)) (f := api_Seal.enc) rfl) rfl rfl ?_
    obtain ⟨l, hl, hg⟩ := bind_some hg
    refine ch_s (rd := [34, 114]) rfl rfl (r_append sl50 api_Seal.enc_len .row rfl .row rfl hl rfl) rfl rfl ?_
    refine go_ ?_
    refine ch_n fun hU => ?_
    refine sr_ 138 154 hU ?_
    refine go_ ?_
    obtain ⟨y_6, hy_6, hg⟩ := bind_some hg
    refine cb_ [122] [122] [] false (w_slices_SortFunc_api_Seal_clo_47_0_ l (fun x0 x1 => g_exception_Sign_c2 x0 x1) (fun x0 x1 y h => w_exception_Sign_c2 x0 x1 y h) _ hy_6) ?_
    refine ch_n fun hU => ?_
    refine sr_ 154 178 hU ?_
    refine go_ ?_
    refine ch_n fun hU => ?_
    refine sr_ 178 202 hU ?_
    refine go_ ?_
    refine ch_n fun hU => ?_
    refine aw_r ?_
    obtain rfl := Option.some.inj hg
    exact fin_ [] ⟨rfl, rfl⟩
end Go.Proofs.YtmbhoimeiahbaaaGreat
