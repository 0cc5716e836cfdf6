/- The program computes the plain functions. -/
import Derived.Test.YtmbhoimeiahbaaaGreatT1
import Derived.Test.YtmbhoimeiahbaaaGreatA3
import Derived.Test.YtmbhoimeiahbaaaGreatA4
set_option linter.unusedVariables false
set_option linter.unusedSimpArgs false
set_option maxRecDepth 100000
set_option maxHeartbeats 1600000
namespace Go.Proofs.YtmbhoimeiahbaaaGreat
open Go.RowKit
theorem w_ref01_length (n : Int) (r : (List UInt8)) (hg : g_ref01_length n = some r) : Fn Tryz.prog 128 0 [.val (.int .i64 n)] [] (fun d' b' => d' = .sl 1 (encL e8 r) ∧ b' = []) := by
 unfold g_ref01_length at hg
 refine Fn.of Tryz.func128 rfl rfl rfl fun w0 I ρ0 => ?_
 show awp _ ⟨w0, I, ρ0, 0, 0, 26, none⟩ _ _ _
 refine sr_ 0 8 mk_U ?_
 refine go_ ?_
 refine ch_n fun hU => ?_
 refine awp_seq ?_
 refine sr_ 8 24 hU ?_
 refine go_ ?_
 refine ch_n fun hU => ?_
 refine cg_ rfl hg (fun h3 hg => ?_) fun h3 hg => ?_
 ·refine awp_seq ?_
  refine awp_region (sys _ _ []) 24 56 hU rfl rfl ?_
  refine go_ ?_
  refine c0_ rfl rfl (r_conv_u8 und3 und5) rfl rfl ?_
  refine c0_ rfl rfl (r_buildFull sl82 z5 (by decide) rfl rfl rfl rfl ck5 (cs := [.int .u8 ((u8 n).toNat : Int)]) (.cons .int .nil) rfl (l := ([(u8 n)] : List UInt8)) (f := e8) rfl) rfl rfl ?_
  refine go_ ?_
  refine ch_n fun hU => ?_
  refine aw_r ?_
  obtain rfl := Option.some.inj hg
  exact fin_ [] ⟨rfl, rfl⟩
 ·refine awp_skip ?_
  repeat first | refine st_ ?_ | refine sn_ ?_
  refine sr_ 24 32 hU ?_
  refine go_ ?_
  refine ch_n fun hU => ?_
  refine awp_seq ?_
  refine awp_block ?_
  refine lp_ (fun ((n_1, b_1) : Int × List UInt8) => mk [(0, .val (.int .i64 n_1)), (3, .row 0)] [(0, .row 5 1 (encL e8 b_1))] 1) hg (sub_ []) ?_
  rintro ⟨n_1, b_1⟩ m1 o1 hg hn1
  replace hg : g_ref01_length.l1 n_1 b_1 = some o1 := hg
  show awp _ _ _ _ (mk _ _ _)
  unfold g_ref01_length.l1 at hg
  refine awp_seq ?_
  refine sr_ 1 17 mk_U ?_
  refine go_ ?_
  refine ch_n fun hU => ?_
  refine cg_ rfl hg (fun h7 hg => ?_) fun h7 hg => ?_
  ·refine awp_skip ?_
   repeat first | refine st_ ?_ | refine sn_ ?_
   refine awp_block ?_
   refine sr_ 17 73 hU ?_
   refine go_ ?_
   obtain ⟨q, hq, hg⟩ := bind_some hg
   refine c0_ rfl rfl (r_rem hq) rfl rfl ?_
   refine c0_ rfl rfl (r_conv_u8 und3 und5) rfl rfl ?_
   refine c0_ rfl rfl (r_buildFull sl82 z5 (by decide) rfl rfl rfl rfl ck5 (cs := [.int .u8 ((u8 q).toNat : Int)]) (.cons .int .nil) rfl (l := ([(u8 q)] : List UInt8)) (f := e8) rfl) rfl rfl ?_
   refine go_ ?_
   obtain ⟨l, hl, hg⟩ := bind_some hg
   refine ch_s (rd := [41, 0]) rfl rfl (r_append sl82 e8_len .row rfl .row rfl hl rfl) rfl rfl ?_
   refine go_ ?_
   refine ch_n fun hU => ?_
   refine awp_region (sys _ _ []) 73 97 hU rfl rfl ?_
   refine go_ ?_
   obtain ⟨q_2, hq_2, hg⟩ := bind_some hg
   refine c0_ rfl rfl (r_quo hq_2) rfl rfl ?_
   refine go_ ?_
   refine ch_n fun hU => ?_
   obtain rfl := Option.some.inj hg
   exact ⟨((q_2, l), m1), Nat.lt_succ_self _, hn1, sub_ [(0, 57)]⟩
  ·refine awp_exit ?_
   repeat first | refine st_ ?_ | refine sn_ ?_
   replace hg := leave hg hn1
   refine sr_ 17 81 hU ?_
   refine go_ ?_
   refine c0_ rfl rfl (r_conv_u8 und3 und5) rfl rfl ?_
   refine c0_ rfl rfl (r_buildFull sl82 z5 (by decide) rfl rfl rfl rfl ck5 (cs := [.int .u8 ((u8 (W (128 + (b_1.length : Int)))).toNat : Int)]) (.cons .int .nil) rfl (l := ([(u8 (W (128 + (b_1.length : Int))))] : List UInt8)) (f := e8) rfl) rfl rfl ?_
   refine go_ ?_
   obtain ⟨l_2, hl_2, hg⟩ := bind_some hg
   refine ch_s (rd := [49, 0]) rfl rfl (r_append sl82 e8_len .row rfl .row rfl hl_2 rfl) rfl rfl ?_
   refine go_ ?_
   refine ch_n fun hU => ?_
   refine aw_r ?_
   obtain rfl := Option.some.inj hg
   exact fin_ [] ⟨rfl, rfl⟩
theorem w_ref01_put.F (rec : api_Value → Option ((List UInt8))) (hrec : ∀ (v : api_Value) (r : (List UInt8)), rec v = some r → Fn Tryz.prog 111 0 [.agg (api_Value.dv v)] [] (fun d' b' => d' = .sl 1 (encL e8 r) ∧ b' = [])) (v : api_Value) (r : (List UInt8)) (hg : g_ref01_put.F rec v = some r) : Fn Tryz.prog 111 0 [.agg (api_Value.dv v)] [] (fun d' b' => d' = .sl 1 (encL e8 r) ∧ b' = []) := by
 unfold g_ref01_put.F at hg
 refine Fn.of Tryz.func111 rfl rfl rfl fun w0 I ρ0 => ?_
 show awp _ ⟨w0, I, ρ0, 0, 0, 34, none⟩ _ _ _
 refine sr_ 0 16 mk_U ?_
 refine go_ ?_
 refine ch_n fun hU => ?_
 refine sr_ 16 56 hU ?_
 refine c0_ rfl rfl (r_buildFull sl82 z5 (by decide) rfl rfl rfl rfl ck5 (cs := []) .nil rfl (l := ([] : List UInt8)) (f := e8) rfl) rfl rfl ?_
 refine go_ ?_
 obtain ⟨l, hl, hg⟩ := bind_some hg
 refine ch_s (rd := [16]) rfl rfl (r_append sl82 e8_len .row rfl .sl rfl hl rfl) rfl rfl ?_
 refine go_ ?_
 refine ch_n fun hU => ?_
 refine awp_seq ?_
 refine sr_ 56 64 hU ?_
 refine go_ ?_
 refine ch_n fun hU => ?_
 refine awp_block ?_
 refine lp_ (fun ((i_1, b_1) : Int × List UInt8) => mk [(1, .ptr 0 0), (3, .row 1), (4, .val (.int .i64 i_1))] [(0, .box (api_Value.dv v) 103), (1, .row 5 1 (encL e8 b_1))] 2) hg (sub_ [(0, 0), (1, 40)]) ?_
 rintro ⟨i_1, b_1⟩ m1 o1 hg hn1
 replace hg : g_ref01_put.l1 rec v i_1 b_1 = some o1 := hg
 show awp _ _ _ _ (mk _ _ _)
 unfold g_ref01_put.l1 at hg
 refine awp_seq ?_
 refine sr_ 2 42 mk_U ?_
 refine go_ ?_
 refine ch_n fun hU => ?_
 refine cg_ rfl hg (fun h5 hg => ?_) fun h5 hg => ?_
 ·refine awp_skip ?_
  repeat first | refine st_ ?_ | refine sn_ ?_
  refine awp_seq ?_
  refine awp_block ?_
  refine awp_region (sys _ _ []) 42 114 hU rfl rfl ?_
  refine go_ ?_
  obtain ⟨e, he, hg⟩ := bind_some hg
  refine go_ ?_
  refine c0_ rfl rfl (r_loadEA ty103 (enc_cells api_Value.enc_len (getI_at he) (o := 0) (m := 4) (cs := [.int .i64 e.Tag, .sl 1 (encL e8 e.Bytes), .bool e.Nested, .sl 4 (encL api_Value.enc e.Elements)]) (by simp only [api_Value.enc_eq]; rfl) (by decide) rfl) (enc_cells_le api_Value.enc_len (getI_at he) (o := 0) (m := 4) (by decide) rfl)) rfl rfl ?_
  obtain ⟨y, hy, hg⟩ := bind_some hg
  refine ca_ (hrec _ _ hy) ?_
  obtain ⟨l_2, hl_2, hg⟩ := bind_some hg
  refine ch_s (rd := [1]) rfl rfl (r_append sl82 e8_len .row rfl .sl rfl hl_2 rfl) rfl rfl ?_
  refine go_ ?_
  refine ch_n fun hU => ?_
  refine awp_region (sys _ _ []) 114 138 hU rfl rfl ?_
  refine go_ ?_
  refine ch_n fun hU => ?_
  obtain rfl := Option.some.inj hg
  exact ⟨((W (i_1 + 1), l_2), m1), Nat.lt_succ_self _, hn1, sub_ [(0, 0), (1, 98)]⟩
 ·refine awp_exit ?_
  repeat first | refine st_ ?_ | refine sn_ ?_
  replace hg := leave hg hn1
  refine awp_seq ?_
  refine awp_draw (sys _ _ []) (by kernel_rfl) [0, 1, 3, 7, 0, 16, 48, 127, 0, 511, 1023] 42 130 hU rfl rfl (by kernel_rfl) ?_
  refine go_ ?_
  refine c0_ rfl rfl (r_conv_u8 und3 und5) rfl rfl ?_
  refine c0_ rfl rfl (r_buildFull sl82 z5 (by decide) rfl rfl rfl rfl ck5 (cs := [.int .u8 ((u8 v.Tag).toNat : Int)]) (.cons .int .nil) rfl (l := ([(u8 v.Tag)] : List UInt8)) (f := e8) rfl) rfl rfl ?_
  refine go_ ?_
  obtain ⟨y_2, hy_2, hg⟩ := bind_some hg
  refine ca_ (w_ref01_length _ _ hy_2) ?_
  obtain ⟨l_3, hl_3, hg⟩ := bind_some hg
  refine ch_s (rd := [66]) rfl rfl (r_append sl82 e8_len .row rfl .sl rfl hl_3 rfl) rfl rfl ?_
  refine go_ ?_
  obtain ⟨l_4, hl_4, hg⟩ := bind_some hg
  refine ch_s (rd := [98, 1]) rfl rfl (r_append sl82 e8_len .row rfl .row rfl hl_4 rfl) rfl rfl ?_
  refine go_ ?_
  refine ch_n fun hU => ?_
  refine aw_r ?_
  obtain rfl := Option.some.inj hg
  exact fin_ [] ⟨rfl, rfl⟩
theorem w_ref01_put (v : api_Value) (r : (List UInt8)) (hg : g_ref01_put v = some r) : Fn Tryz.prog 111 0 [.agg (api_Value.dv v)] [] (fun d' b' => d' = .sl 1 (encL e8 r) ∧ b' = []) :=
 fixT_ind (motive := fun (x : api_Value) (r : (List UInt8)) => Fn Tryz.prog 111 0 [.agg (api_Value.dv x)] [] (fun d' b' => d' = .sl 1 (encL e8 r) ∧ b' = [])) (fun rec hrec x r h => w_ref01_put.F _ (fun v r h => hrec v r h) x r h) v r hg
theorem w_ref01_Encode (v : api_Value) (r : (List UInt8) × Int) (hg : g_ref01_Encode v = some r) : Fn Tryz.prog 81 0 [.agg (api_Value.dv v)] [] (fun d' b' => d' = .tup [.sl 1 (encL e8 r.1), .val (.int .i64 r.2)] ∧ b' = []) := by
 unfold g_ref01_Encode at hg
 refine Fn.of Tryz.func81 rfl rfl rfl fun w0 I ρ0 => ?_
 show awp _ ⟨w0, I, ρ0, 0, 0, 17, none⟩ _ _ _
 refine sr_ 0 24 mk_U ?_
 refine go_ ?_
 refine ch_n fun hU => ?_
 refine awp_seq ?_
 refine sr_ 24 48 hU ?_
 refine go_ ?_
 obtain ⟨y, hy, hg⟩ := bind_some hg
 refine ca_ (w_ref01_formed _ _ hy) ?_
 refine go_ ?_
 refine ch_n fun hU => ?_
 refine cg_ rfl hg (fun h3 hg => ?_) fun h3 hg => ?_
 ·refine awp_seq ?_
  refine awp_region (sys _ _ []) 48 64 hU rfl rfl ?_
  refine go_ ?_
  refine ch_n fun hU => ?_
  refine aw_r ?_
  obtain rfl := Option.some.inj hg
  exact fin_ [] ⟨rfl, rfl⟩
 ·refine awp_skip ?_
  repeat first | refine st_ ?_ | refine sn_ ?_
  refine awp_seq ?_
  refine sr_ 48 72 hU ?_
  refine go_ ?_
  obtain ⟨y_2, hy_2, hg⟩ := bind_some hg
  refine ca_ (w_ref01_depth _ _ hy_2) ?_
  refine go_ ?_
  refine ch_n fun hU => ?_
  refine cg_ rfl hg (fun h6 hg => ?_) fun h6 hg => ?_
  ·refine awp_seq ?_
   refine awp_region (sys _ _ []) 72 88 hU rfl rfl ?_
   refine go_ ?_
   refine ch_n fun hU => ?_
   refine aw_r ?_
   obtain rfl := Option.some.inj hg
   exact fin_ [] ⟨rfl, rfl⟩
  ·refine awp_skip ?_
   repeat first | refine st_ ?_ | refine sn_ ?_
   refine sr_ 72 96 hU ?_
   refine go_ ?_
   obtain ⟨y_3, hy_3, hg⟩ := bind_some hg
   refine ca_ (w_ref01_put _ _ hy_3) ?_
   refine go_ ?_
   refine ch_n fun hU => ?_
   refine awp_seq ?_
   refine sr_ 96 120 hU ?_
   refine go_ ?_
   refine ch_n fun hU => ?_
   refine cg_ rfl hg (fun h10 hg => ?_) fun h10 hg => ?_
   ·refine awp_seq ?_
    refine awp_region (sys _ _ []) 120 136 hU rfl rfl ?_
    refine go_ ?_
    refine ch_n fun hU => ?_
    refine aw_r ?_
    obtain rfl := Option.some.inj hg
    exact fin_ [] ⟨rfl, rfl⟩
   ·refine awp_skip ?_
    repeat first | refine st_ ?_ | refine sn_ ?_
    refine sr_ 120 144 hU ?_
    refine go_ ?_
    refine ch_n fun hU => ?_
    refine aw_r ?_
    obtain rfl := Option.some.inj hg
    exact fin_ [] ⟨rfl, rfl⟩
theorem w_ref19_Bytes (x' : api_Exception) (r : (List UInt8) × Int) (hg : g_ref19_Bytes x' = some r) : Fn Tryz.prog 60 0 [.agg (api_Exception.dv x')] [] (fun d' b' => d' = .tup [.sl 1 (encL e8 r.1), .val (.int .i64 r.2)] ∧ b' = []) := by
 unfold g_ref19_Bytes at hg
 refine Fn.of Tryz.func60 rfl rfl rfl fun w0 I ρ0 => ?_
 show awp _ ⟨w0, I, ρ0, 0, 0, 39, none⟩ _ _ _
 refine sr_ 0 24 mk_U ?_
 refine go_ ?_
 refine ch_n fun hU => ?_
 refine awp_seq ?_
 refine sr_ 24 48 hU ?_
 refine go_ ?_
 obtain ⟨y, hy, hg⟩ := bind_some hg
 refine ca_ (w_ref19_Check _ _ hy) ?_
 refine go_ ?_
 refine ch_n fun hU => ?_
 refine sr_ 48 64 hU ?_
 refine go_ ?_
 refine ch_n fun hU => ?_
 refine cg_ rfl hg (fun h4 hg => ?_) fun h4 hg => ?_
 ·refine awp_seq ?_
  refine awp_region (sys _ _ []) 64 88 hU rfl rfl ?_
  refine go_ ?_
  refine ch_n fun hU => ?_
  refine aw_r ?_
  obtain rfl := Option.some.inj hg
  exact fin_ [] ⟨rfl, rfl⟩
 ·refine awp_skip ?_
  repeat first | refine st_ ?_ | refine sn_ ?_
  refine awp_seq ?_
  refine awp_draw (sys _ _ []) (by kernel_rfl) [0, 1, 3, 7, 0, 16, 48, 127, 0, 256, 1023, 0, 2048, 8191, 0, 16384, 49152, 131071, 0, 262144, 786432, 2097151, 4194303, 8388607] 64 256 hU rfl rfl (by kernel_rfl) ?_
  refine go_ ?_
  obtain ⟨y_2, hy_2, hg⟩ := bind_some hg
  refine ca_ (w_ref01_Int _ _ hy_2) ?_
  refine go_ ?_
  obtain ⟨y_3, hy_3, hg⟩ := bind_some hg
  refine ca_ (w_ref01_Int _ _ hy_3) ?_
  refine go_ ?_
  obtain ⟨y_4, hy_4, hg⟩ := bind_some hg
  refine ca_ (w_ref01_Int _ _ hy_4) ?_
  refine go_ ?_
  obtain ⟨y_5, hy_5, hg⟩ := bind_some hg
  refine ca_ (w_ref01_Text _ _ hy_5) ?_
  refine go_ ?_
  obtain ⟨y_6, hy_6, hg⟩ := bind_some hg
  refine ca_ (w_ref01_Int _ _ hy_6) ?_
  refine go_ ?_
  obtain ⟨y_7, hy_7, hg⟩ := bind_some hg
  refine ca_ (w_ref01_Int _ _ hy_7) ?_
  refine c0_ rfl rfl (r_buildFull sl101 z103 (by decide) rfl rfl rfl rfl ck103 (cs := [.int .i64 y_2.Tag, .sl 1 (encL e8 y_2.Bytes), .bool y_2.Nested, .sl 4 (encL api_Value.enc y_2.Elements), .int .i64 y_3.Tag, .sl 1 (encL e8 y_3.Bytes), .bool y_3.Nested, .sl 4 (encL api_Value.enc y_3.Elements), .int .i64 y_4.Tag, .sl 1 (encL e8 y_4.Bytes), .bool y_4.Nested, .sl 4 (encL api_Value.enc y_4.Elements), .int .i64 y_5.Tag, .sl 1 (encL e8 y_5.Bytes), .bool y_5.Nested, .sl 4 (encL api_Value.enc y_5.Elements), .int .i64 y_6.Tag, .sl 1 (encL e8 y_6.Bytes), .bool y_6.Nested, .sl 4 (encL api_Value.enc y_6.Elements), .int .i64 y_7.Tag, .sl 1 (encL e8 y_7.Bytes), .bool y_7.Nested, .sl 4 (encL api_Value.enc y_7.Elements)]) (.cons .int (.cons .sl (.cons .bool (.cons .sl (.cons .int (.cons .sl (.cons .bool (.cons .sl (.cons .int (.cons .sl (.cons .bool (.cons .sl (.cons .int (.cons .sl (.cons .bool (.cons .sl (.cons .int (.cons .sl (.cons .bool (.cons .sl (.cons .int (.cons .sl (.cons .bool (.cons .sl .nil)))))))))))))))))))))))) rfl (l := ([y_2, y_3, y_4, y_5, y_6, y_7] : List api_Value)) (f := api_Value.enc) (by simp only [encL, List.flatMap_cons, List.flatMap_nil, api_Value.enc_eq]; rfl)) rfl rfl ?_
  refine go_ ?_
  refine ch_n fun hU => ?_
  refine awp_seq ?_
  refine awp_sub (σ' := mk [(5, .sl 4 (encL api_Value.enc ([y_2, y_3, y_4, y_5, y_6, y_7] : List api_Value)))] [] 0) (sub_ []) ?_
  refine awp_region (sys _ _ []) 0 56 mk_U rfl rfl ?_
  refine go_ ?_
  obtain ⟨y_8, hy_8, hg⟩ := bind_some hg
  refine ca_ (w_ref01_List _ _ hy_8) ?_
  obtain ⟨y_9, hy_9, hg⟩ := bind_some hg
  refine ca_ (w_ref01_Encode _ _ hy_9) ?_
  refine go_ ?_
  refine ch_n fun hU => ?_
  refine aw_r ?_
  obtain rfl := Option.some.inj hg
  exact fin_ [] ⟨rfl, rfl⟩
theorem w_ref03_Sum (b : (List UInt8)) (r : Int) (hg : g_ref03_Sum b = some r) : Fn Tryz.prog 61 0 [.sl 1 (encL e8 b)] [] (fun d' b' => d' = .val (.int .i64 r) ∧ b' = []) := by
 unfold g_ref03_Sum at hg
 refine Fn.of Tryz.func61 rfl rfl rfl fun w0 I ρ0 => ?_
 show awp _ ⟨w0, I, ρ0, 0, 0, 21, none⟩ _ _ _
 refine sr_ 0 8 mk_U ?_
 refine go_ ?_
 refine ch_n fun hU => ?_
 refine sr_ 8 16 hU ?_
 refine go_ ?_
 refine ch_n fun hU => ?_
 refine awp_seq ?_
 refine sr_ 16 24 hU ?_
 refine go_ ?_
 refine ch_n fun hU => ?_
 refine awp_block ?_
 refine lp_ (fun ((h_1, i_1) : Int × Int) => mk [(0, .sl 1 (encL e8 b)), (3, .val (.int .u32 h_1)), (4, .val (.int .i64 i_1))] [] 0) hg (sub_ []) ?_
 rintro ⟨h_1, i_1⟩ m1 o1 hg hn1
 replace hg : g_ref03_Sum.l1 b h_1 i_1 = some o1 := hg
 show awp _ _ _ _ (mk _ _ _)
 unfold g_ref03_Sum.l1 at hg
 refine awp_seq ?_
 refine sr_ 0 32 mk_U ?_
 refine go_ ?_
 refine ch_n fun hU => ?_
 refine cg_ rfl hg (fun h5 hg => ?_) fun h5 hg => ?_
 ·refine awp_skip ?_
  repeat first | refine st_ ?_ | refine sn_ ?_
  refine awp_seq ?_
  refine awp_block ?_
  refine awp_region (sys _ _ []) 32 104 hU rfl rfl ?_
  refine go_ ?_
  obtain ⟨e, he, hg⟩ := bind_some hg
  refine go_ ?_
  refine c0_ rfl rfl (r_loadE1 ty5 (enc_cell e8_len (getI_at he) (o := 0) (c := .int .u8 (e.toNat : Int)) rfl rfl)) rfl rfl ?_
  refine c0_ rfl rfl (r_convK und5 und108) rfl rfl ?_
  refine c0_ rfl rfl r_xorK rfl rfl ?_
  refine c0_ rfl rfl r_mulK rfl rfl ?_
  refine go_ ?_
  refine ch_n fun hU => ?_
  refine awp_region (sys _ _ []) 104 128 hU rfl rfl ?_
  refine go_ ?_
  refine ch_n fun hU => ?_
  obtain rfl := Option.some.inj hg
  exact ⟨((IntKind.wrap .u32 ((xorK .u32 h_1 (IntKind.wrap .u32 (e.toNat : Int))) * 16777619), W (i_1 + 1)), m1), Nat.lt_succ_self _, hn1, sub_ []⟩
 ·refine awp_exit ?_
  repeat first | refine st_ ?_ | refine sn_ ?_
  replace hg := leave hg hn1
  refine sr_ 32 56 hU ?_
  refine go_ ?_
  refine c0_ rfl rfl (r_conv_i64 und108 und3) rfl rfl ?_
  refine go_ ?_
  refine ch_n fun hU => ?_
  refine aw_r ?_
  obtain rfl := Option.some.inj hg
  exact fin_ [] ⟨rfl, rfl⟩
theorem w_ref19_Sign (x' : api_Exception) (key : Int) (r : api_Exception × Int) (hg : g_ref19_Sign x' key = some r) : Fn Tryz.prog 49 0 [.agg (api_Exception.dv x'), .val (.int .i64 key)] [] (fun d' b' => d' = .tup [.agg [.val (.int .i64 r.1.Use.Alg), .val (.int .i64 r.1.Use.Bits), .val (.int .i64 r.1.Purpose), .val (.string r.1.Endpoint), .val (.int .i64 r.1.Days.From), .val (.int .i64 r.1.Days.To), .row 0], .val (.int .i64 r.2)] ∧ b' = [.row 87 2 (encL api_Seal.enc r.1.Seals)]) := by
 unfold g_ref19_Sign at hg
 refine Fn.of Tryz.func49 rfl rfl rfl fun w0 I ρ0 => ?_
 show awp _ ⟨w0, I, ρ0, 0, 0, 84, none⟩ _ _ _
 refine sr_ 0 24 mk_U ?_
 refine go_ ?_
 refine ch_n fun hU => ?_
 refine sr_ 24 80 hU ?_
 refine go_ ?_
 obtain ⟨y, hy, hg⟩ := bind_some hg
 refine ca_ (w_ref19_Bytes _ _ hy) ?_
 refine go_ ?_
 refine ch_n fun hU => ?_
 refine awp_seq ?_
 refine sr_ 80 96 hU ?_
 refine go_ ?_
 refine ch_n fun hU => ?_
 refine cg_ rfl hg (fun h4 hg => ?_) fun h4 hg => ?_
 ·refine awp_seq ?_
  refine awp_region (sys _ _ []) 96 128 hU rfl rfl ?_
  refine c0_ rfl rfl (.build (r := [.val (.int .i64 0), .val (.int .i64 0), .val (.int .i64 0), .val (.string (⟨#[]⟩ : ByteArray)), .val (.int .i64 0), .val (.int .i64 0), .val (.slice none 0 0)]) und52 pl52 z52 (by kernel_rfl) rfl) rfl rfl ?_
  refine go_ ?_
  refine ch_n fun hU => ?_
  refine aw_r ?_
  obtain rfl := Option.some.inj hg
  exact fin_ [] ⟨rfl, rfl⟩
 ·refine awp_skip ?_
  repeat first | refine st_ ?_ | refine sn_ ?_
  refine awp_seq ?_
  refine awp_cut (ι := Bool) (fun (x26_1 : Bool) => mk [(1, .val (.int .i64 key)), (2, .ptr 0 0), (4, .ptr 1 0), (6, .sl 1 (encL e8 y.1)), (26, .val (.bool x26_1))] [(0, .box (api_Exception.dv x') 52), (1, .box [.val (.int .i64 0), .val (.int .i64 0), .val (.int .i64 0), .val (.string (⟨#[]⟩ : ByteArray)), .val (.int .i64 0), .val (.int .i64 0), .val (.slice none 0 0)] 52)] 2) (fun (x26_1 : Bool) => g_ref19_Sign.j1 x' key y x26_1 = some r) ?_ ?_
  ·refine awp_region (sys _ _ []) 96 144 hU rfl rfl ?_
   refine go_ ?_
   rcases bc_ hg with ⟨h6, hg⟩ | ⟨h6, hg⟩
   ·refine go_ ?_
    refine ch_n fun hU => ?_
    exact ⟨true, hg, sub_ [(0, 0), (1, 8)]⟩
   ·refine go_ ?_
    refine ch_n fun hU => ?_
    exact ⟨decide (2147483648 < key), hg, sub_ [(0, 0), (1, 8)]⟩
  ·rintro x26_1 hg
   replace hg : g_ref19_Sign.j1 x' key y x26_1 = some r := hg
   show awp _ _ _ _ (mk _ _ _)
   unfold g_ref19_Sign.j1 at hg
   refine cg_ rfl hg (fun h9 hg => ?_) fun h9 hg => ?_
   ·refine awp_seq ?_
    refine awp_region (sys _ _ []) 2 26 mk_U rfl rfl ?_
    refine c0_ rfl rfl (.build (r := [.val (.int .i64 0), .val (.int .i64 0), .val (.int .i64 0), .val (.string (⟨#[]⟩ : ByteArray)), .val (.int .i64 0), .val (.int .i64 0), .val (.slice none 0 0)]) und52 pl52 z52 (by kernel_rfl) rfl) rfl rfl ?_
    refine go_ ?_
    refine ch_n fun hU => ?_
    refine aw_r ?_
    obtain rfl := Option.some.inj hg
    exact fin_ [] ⟨rfl, rfl⟩
   ·refine awp_skip ?_
    repeat first | refine st_ ?_ | refine sn_ ?_
    refine sr_ 2 50 mk_U ?_
    refine go_ ?_
    obtain ⟨y_2, hy_2, hg⟩ := bind_some hg
    refine ca_ (w_ref03_Sum _ _ hy_2) ?_
    refine c0_ rfl rfl (.build (r := [.val (.int .i64 key), .val (.int .i64 y_2)]) und87 pl87 z87 (by kernel_rfl) rfl) rfl rfl ?_
    refine go_ ?_
    refine ch_n fun hU => ?_
    refine sr_ 50 58 hU ?_
    refine go_ ?_
    refine ch_n fun hU => ?_
    refine awp_seq ?_
    refine awp_block ?_
    refine lp_ (fun (k_2 : Int) => mk [(1, .val (.int .i64 key)), (2, .ptr 0 0), (4, .ptr 1 0), (8, .ptr 2 0), (9, .val (.int .i64 k_2))] [(0, .box (api_Exception.dv x') 52), (1, .box [.val (.int .i64 0), .val (.int .i64 0), .val (.int .i64 0), .val (.string (⟨#[]⟩ : ByteArray)), .val (.int .i64 0), .val (.int .i64 0), .val (.slice none 0 0)] 52), (2, .box [.val (.int .i64 key), .val (.int .i64 y_2)] 87)] 3) hg (sub_ [(0, 0), (1, 1), (2, 34)]) ?_
    rintro k_2 m2 o2 hg hn2
    replace hg : g_ref19_Sign.l2 x' key y_2 k_2 = some o2 := hg
    show awp _ _ _ _ (mk _ _ _)
    unfold g_ref19_Sign.l2 at hg
    refine awp_seq ?_
    refine awp_cut (ι := Bool) (fun (x46_3 : Bool) => mk [(1, .val (.int .i64 key)), (2, .ptr 0 0), (4, .ptr 1 0), (8, .ptr 2 0), (9, .val (.int .i64 k_2)), (46, .val (.bool x46_3))] [(0, .box (api_Exception.dv x') 52), (1, .box [.val (.int .i64 0), .val (.int .i64 0), .val (.int .i64 0), .val (.string (⟨#[]⟩ : ByteArray)), .val (.int .i64 0), .val (.int .i64 0), .val (.slice none 0 0)] 52), (2, .box [.val (.int .i64 key), .val (.int .i64 y_2)] 87)] 3) (fun (x46_3 : Bool) => g_ref19_Sign.j3 x' key y_2 k_2 x46_3 = some o2) ?_ ?_
    ·refine awp_region (sys _ _ []) 3 123 mk_U rfl rfl ?_
     refine go_ ?_
     rcases bc_ hg with ⟨h13, hg⟩ | ⟨h13, hg⟩
     ·refine go_ ?_
      obtain ⟨e, he, hg⟩ := bind_some hg
      refine go_ ?_
      refine c0_ (gdv_t rfl rfl h13) rfl (r_fieldE fd87_0 ty3 (by decide) (enc_lt api_Seal.enc_len (getI_at he) (o := 0) (by decide) rfl)) rfl rfl ?_
      refine c0_ (gdv_t rfl rfl h13) rfl (r_loadE1 ty3 (enc_cell api_Seal.enc_len (getI_at he) (o := 0) (c := .int .i64 e.Key) rfl rfl)) rfl rfl ?_
      refine go_ ?_
      refine ch_n fun hU => ?_
      exact ⟨decide (e.Key < key), hg, sub_ [(0, 0), (1, 1), (2, 2)]⟩
     ·refine go_ ?_
      refine ch_n fun hU => ?_
      exact ⟨false, hg, sub_ [(0, 0), (1, 1), (2, 2)]⟩
    ·rintro x46_3 hg
     replace hg : g_ref19_Sign.j3 x' key y_2 k_2 x46_3 = some o2 := hg
     show awp _ _ _ _ (mk _ _ _)
     unfold g_ref19_Sign.j3 at hg
     refine cg_ rfl hg (fun h16 hg => ?_) fun h16 hg => ?_
     ·refine awp_skip ?_
      repeat first | refine st_ ?_ | refine sn_ ?_
      refine awp_block ?_
      refine awp_region (sys _ _ []) 3 27 mk_U rfl rfl ?_
      refine go_ ?_
      refine ch_n fun hU => ?_
      obtain rfl := Option.some.inj hg
      exact ⟨(W (k_2 + 1), m2), Nat.lt_succ_self _, hn2, sub_ [(0, 0), (1, 1), (2, 2)]⟩
     ·refine awp_exit ?_
      repeat first | refine st_ ?_ | refine sn_ ?_
      replace hg := leave hg hn2
      refine sr_ 3 43 mk_U ?_
      refine go_ ?_
      obtain ⟨l, hl, hg⟩ := bind_some hg
      refine c0_ rfl rfl (r_sliS_lo sl50 api_Seal.enc_len hl) rfl rfl ?_
      refine go_ ?_
      refine ch_n fun hU => ?_
      refine awp_cut (ι := List api_Seal) (fun (rest_5 : List api_Seal) => mk [(2, .ptr 0 0), (4, .ptr 1 0), (8, .ptr 2 0), (9, .val (.int .i64 k_2)), (10, .sl 2 (encL api_Seal.enc rest_5))] [(0, .box (api_Exception.dv x') 52), (1, .box [.val (.int .i64 0), .val (.int .i64 0), .val (.int .i64 0), .val (.string (⟨#[]⟩ : ByteArray)), .val (.int .i64 0), .val (.int .i64 0), .val (.slice none 0 0)] 52), (2, .box [.val (.int .i64 key), .val (.int .i64 y_2)] 87)] 3) (fun (rest_5 : List api_Seal) => g_ref19_Sign.j5 x' key y_2 k_2 rest_5 = some r) ?_ ?_
      ·refine awp_cut (ι := Bool) (fun (x63_4 : Bool) => mk [(2, .ptr 0 0), (4, .ptr 1 0), (8, .ptr 2 0), (9, .val (.int .i64 k_2)), (10, .sl 2 (encL api_Seal.enc l)), (63, .val (.bool x63_4))] [(0, .box (api_Exception.dv x') 52), (1, .box [.val (.int .i64 0), .val (.int .i64 0), .val (.int .i64 0), .val (.string (⟨#[]⟩ : ByteArray)), .val (.int .i64 0), .val (.int .i64 0), .val (.slice none 0 0)] 52), (2, .box [.val (.int .i64 key), .val (.int .i64 y_2)] 87)] 3) (fun (x63_4 : Bool) => g_ref19_Sign.j4 x' key y_2 k_2 l x63_4 = some r) ?_ ?_
       ·refine awp_region (sys _ _ []) 43 131 hU rfl rfl ?_
        refine go_ ?_
        rcases bc_ hg with ⟨h19, hg⟩ | ⟨h19, hg⟩
        ·refine go_ ?_
         obtain ⟨e_2, he_2, hg⟩ := bind_some hg
         refine go_ ?_
         refine c0_ (gdv_t rfl rfl h19) rfl (r_fieldE fd87_0 ty3 (by decide) (enc_lt api_Seal.enc_len (getI_at he_2) (o := 0) (by decide) rfl)) rfl rfl ?_
         refine c0_ (gdv_t rfl rfl h19) rfl (r_loadE1 ty3 (enc_cell api_Seal.enc_len (getI_at he_2) (o := 0) (c := .int .i64 e_2.Key) rfl rfl)) rfl rfl ?_
         refine go_ ?_
         refine ch_n fun hU => ?_
         exact ⟨decide (e_2.Key = key), hg, sub_ [(0, 0), (1, 1), (2, 2)]⟩
        ·refine go_ ?_
         refine ch_n fun hU => ?_
         exact ⟨false, hg, sub_ [(0, 0), (1, 1), (2, 2)]⟩
       ·rintro x63_4 hg
        replace hg : g_ref19_Sign.j4 x' key y_2 k_2 l x63_4 = some r := hg
        show awp _ _ _ _ (mk _ _ _)
        unfold g_ref19_Sign.j4 at hg
        refine cg_ rfl hg (fun h22 hg => ?_) fun h22 hg => ?_
        ·refine awp_region (sys _ _ []) 3 27 mk_U rfl rfl ?_
         refine go_ ?_
         obtain ⟨l_2, hl_2, hg⟩ := bind_some hg
         refine c0_ rfl rfl (r_sliS_lo sl50 api_Seal.enc_len hl_2) rfl rfl ?_
         refine go_ ?_
         refine ch_n fun hU => ?_
         exact ⟨l_2, hg, sub_ [(0, 0), (1, 1), (2, 2)]⟩
        ·refine awp_skip ?_
         repeat first | refine st_ ?_ | refine sn_ ?_
         exact ⟨l, hg, sub_ [(0, 0), (1, 1), (2, 2)]⟩
      ·rintro rest_5 hg
       replace hg : g_ref19_Sign.j5 x' key y_2 k_2 rest_5 = some r := hg
       show awp _ _ _ _ (mk _ _ _)
       unfold g_ref19_Sign.j5 at hg
       refine awp_seq ?_
       refine awp_draw (sys _ _ []) (by kernel_rfl) [0, 0, 2, 0, 14, 31, 0, 64, 255, 0, 1023, 2047] 3 99 mk_U rfl rfl (by kernel_rfl) ?_
       refine c0_ rfl rfl (r_buildFull sl50 z87 (by decide) rfl rfl rfl rfl ck87 (cs := []) .nil rfl (l := ([] : List api_Seal)) (f := api_Seal.enc) rfl) rfl rfl ?_
       refine go_ ?_
       obtain ⟨l_3, hl_3, hg⟩ := bind_some hg
       refine c0_ rfl rfl (r_sliS_hi sl50 api_Seal.enc_len hl_3) rfl rfl ?_
       obtain ⟨l_4, hl_4, hg⟩ := bind_some hg
       refine ch_s (rd := [3]) rfl rfl (r_append sl50 api_Seal.enc_len .row rfl .sl rfl hl_4 rfl) rfl rfl ?_
       refine go_ ?_
       refine c0_ rfl rfl (r_buildFull sl50 z87 (by decide) rfl rfl rfl rfl ck87 (cs := [.int .i64 key, .int .i64 y_2]) (.cons .int (.cons .int .nil)) rfl (l := ([(api_Seal.mk key y_2)] : List api_Seal)) (f := api_Seal.enc) rfl) rfl rfl ?_
       obtain ⟨l_5, hl_5, hg⟩ := bind_some hg
       refine ch_s (rd := [43, 59]) rfl rfl (r_append sl50 api_Seal.enc_len .row rfl .row rfl hl_5 rfl) rfl rfl ?_
       refine go_ ?_
       obtain ⟨l_6, hl_6, hg⟩ := bind_some hg
       refine ch_s (rd := [67]) rfl rfl (r_append sl50 api_Seal.enc_len .row rfl .sl rfl hl_6 rfl) rfl rfl ?_
       refine go_ ?_
       refine ch_n fun hU => ?_
       refine awp_seq ?_
       refine sr_ 99 123 hU ?_
       refine go_ ?_
       refine ch_n fun hU => ?_
       refine cg_ rfl hg (fun h26 hg => ?_) fun h26 hg => ?_
       ·refine awp_seq ?_
        refine awp_region (sys _ _ []) 123 147 hU rfl rfl ?_
        refine c0_ rfl rfl (.build (r := [.val (.int .i64 0), .val (.int .i64 0), .val (.int .i64 0), .val (.string (⟨#[]⟩ : ByteArray)), .val (.int .i64 0), .val (.int .i64 0), .val (.slice none 0 0)]) und52 pl52 z52 (by kernel_rfl) rfl) rfl rfl ?_
        refine go_ ?_
        refine ch_n fun hU => ?_
        refine aw_r ?_
        obtain rfl := Option.some.inj hg
        exact fin_ [] ⟨rfl, rfl⟩
       ·refine awp_skip ?_
        repeat first | refine st_ ?_ | refine sn_ ?_
        refine sr_ 123 147 hU ?_
        refine go_ ?_
        refine ch_n fun hU => ?_
        refine sr_ 147 171 hU ?_
        refine go_ ?_
        refine ch_n fun hU => ?_
        refine aw_r ?_
        obtain rfl := Option.some.inj hg
        exact fin_ [(0, 83)] ⟨rfl, rfl⟩
theorem w_make_Exception (d : cipherplanmake_Dice) (u : api_Use) (endpoint : ByteArray) (r : api_Exception × cipherplanmake_Dice) (hg : g_make_Exception d u endpoint = some r) : Fn Tryz.prog 25 1 [.ptr 0 0, .agg [.val (.int .i64 u.Alg), .val (.int .i64 u.Bits)], .val (.string endpoint)] [.box [.sl 1 (encL eI d.L), .val (.int .i64 d.At)] 66] (fun d' b' => d' = .agg [.val (.int .i64 r.1.Use.Alg), .val (.int .i64 r.1.Use.Bits), .val (.int .i64 r.1.Purpose), .val (.string r.1.Endpoint), .val (.int .i64 r.1.Days.From), .val (.int .i64 r.1.Days.To), .row 1] ∧ b' = [.box [.sl 1 (encL eI r.2.L), .val (.int .i64 r.2.At)] 66, .row 87 2 (encL api_Seal.enc r.1.Seals)]) := by
 unfold g_make_Exception at hg
 refine Fn.of Tryz.func25 rfl rfl rfl fun w0 I ρ0 => ?_
 show awp _ ⟨w0, I, ρ0, 1, 1, 55, none⟩ _ _ _
 refine sr_ 1 17 mk_U ?_
 refine go_ ?_
 refine ch_n fun hU => ?_
 refine awp_seq ?_
 refine awp_draw (sys _ _ [33]) (by kernel_rfl) [0, 0, 0, 6, 0, 31, 0, 127] 17 81 hU rfl rfl (by kernel_rfl) ?_
 refine go_ ?_
 refine ch_z (rd := []) rfl rfl (r_buildFull sl22 z3 (by decide) rfl rfl rfl rfl ck3 (cs := [.int .i64 1, .int .i64 1, .int .i64 1, .int .i64 2, .int .i64 3]) (.cons .int (.cons .int (.cons .int (.cons .int (.cons .int .nil))))) rfl (l := ([1, 1, 1, 2, 3] : List Int)) (f := eI) rfl) rfl rfl rfl ?_
 obtain ⟨y, hy, hg⟩ := bind_some hg
 refine cb_ [0] [0] [] false (w_make_Dice_Of _ _ _ hy) ?_
 refine go_ ?_
 refine c0_ rfl rfl (.build (r := [.val (.int .i64 u.Alg), .val (.int .i64 u.Bits), .val (.int .i64 y.1), .val (.string endpoint), .val (.int .i64 0), .val (.int .i64 0), .val (.slice none 0 0)]) und52 pl52 z52 (by kernel_rfl) rfl) rfl rfl ?_
 refine go_ ?_
 refine ch_n fun hU => ?_
 refine awp_seq ?_
 refine awp_region (sys _ _ [89]) 81 129 hU rfl rfl ?_
 refine go_ ?_
 refine ch_z (rd := []) rfl rfl (r_buildFull sl22 z3 (by decide) rfl rfl rfl rfl ck3 (cs := [.int .i64 0, .int .i64 10, .int .i64 30]) (.cons .int (.cons .int (.cons .int .nil))) rfl (l := ([0, 10, 30] : List Int)) (f := eI) rfl) rfl rfl rfl ?_
 obtain ⟨y_2, hy_2, hg⟩ := bind_some hg
 refine cb_ [0] [0] [] false (w_make_Dice_Of _ _ _ hy_2) ?_
 refine go_ ?_
 refine ch_n fun hU => ?_
 refine awp_seq ?_
 refine awp_draw (sys _ _ [161]) (by kernel_rfl) [0, 1, 3, 0, 0, 24, 63, 127, 255, 511] 129 209 hU rfl rfl (by kernel_rfl) ?_
 refine go_ ?_
 refine ch_z (rd := []) rfl rfl (r_buildFull sl22 z3 (by decide) rfl rfl rfl rfl ck3 (cs := [.int .i64 40, .int .i64 5, .int .i64 200]) (.cons .int (.cons .int (.cons .int .nil))) rfl (l := ([40, 5, 200] : List Int)) (f := eI) rfl) rfl rfl rfl ?_
 obtain ⟨y_3, hy_3, hg⟩ := bind_some hg
 refine cb_ [0] [0] [] false (w_make_Dice_Of _ _ _ hy_3) ?_
 refine go_ ?_
 refine ch_n fun hU => ?_
 refine awp_seq ?_
 refine sr_ 209 233 hU ?_
 refine go_ ?_
 obtain ⟨y_4, hy_4, hg⟩ := bind_some hg
 refine cb_ [0] [0] [] false (w_make_Dice_Next _ _ _ hy_4) ?_
 refine go_ ?_
 refine ch_n fun hU => ?_
 refine awp_block ?_
 refine lp_ (fun ((i_1, x_1, x_1_2, x_1_3, x_1_4, x_1_5, x_1_6, l_1) : Int × Int × Int × Int × ByteArray × Int × Int × List api_Seal) => mk [(0, .ptr 0 0), (6, .ptr 1 0), (7, .ptr 2 0), (8, .val (.int .i64 i_1))] [(0, .box [.sl 1 (encL eI y_4.2.L), .val (.int .i64 y_4.2.At)] 66), (1, .box [.val (.int .i64 0), .val (.int .i64 0), .val (.int .i64 0), .val (.string (⟨#[]⟩ : ByteArray)), .val (.int .i64 0), .val (.int .i64 0), .val (.slice none 0 0)] 52), (2, .box [.val (.int .i64 x_1), .val (.int .i64 x_1_2), .val (.int .i64 x_1_3), .val (.string x_1_4), .val (.int .i64 x_1_5), .val (.int .i64 x_1_6), .row 3] 52), (3, .row 87 2 (encL api_Seal.enc l_1))] 4) hg (sub_ [(0, 0), (1, 9), (2, 65)]) ?_
 rintro ⟨i_1, x_1, x_1_2, x_1_3, x_1_4, x_1_5, x_1_6, l_1⟩ m1 o1 hg hn1
 replace hg : g_make_Exception.l1 y_4 i_1 x_1 x_1_2 x_1_3 x_1_4 x_1_5 x_1_6 l_1 = some o1 := hg
 show awp _ _ _ _ (mk _ _ _)
 unfold g_make_Exception.l1 at hg
 refine awp_seq ?_
 refine sr_ 4 20 mk_U ?_
 refine go_ ?_
 refine ch_n fun hU => ?_
 refine cg_ rfl hg (fun h7 hg => ?_) fun h7 hg => ?_
 ·refine awp_skip ?_
  repeat first | refine st_ ?_ | refine sn_ ?_
  refine awp_seq ?_
  refine awp_block ?_
  refine awp_sub (σ' := mk [(0, .ptr 0 0), (6, .ptr 1 0), (7, .ptr 2 0), (8, .val (.int .i64 i_1))] [(0, .box [.sl 1 (encL eI y_4.2.L), .val (.int .i64 y_4.2.At)] 66), (1, .box [.val (.int .i64 0), .val (.int .i64 0), .val (.int .i64 0), .val (.string (⟨#[]⟩ : ByteArray)), .val (.int .i64 0), .val (.int .i64 0), .val (.slice none 0 0)] 52), (2, .box [.val (.int .i64 x_1), .val (.int .i64 x_1_2), .val (.int .i64 x_1_3), .val (.string x_1_4), .val (.int .i64 x_1_5), .val (.int .i64 x_1_6), .sl 2 (encL api_Seal.enc l_1)] 52)] 3) (sub_ [(0, 0), (1, 1), (2, 2)]) ?_
  refine awp_region (sys _ _ []) 3 67 mk_U rfl rfl ?_
  refine go_ ?_
  obtain ⟨y_5, hy_5, hg⟩ := bind_some hg
  refine ch_call (rd := []) (ps := []) (gs := []) false rfl (w_ref19_Sign _ _ _ hy_5) rfl rfl (.cons (.agg (.cons .val (.cons .val (.cons .val (.cons .val (.cons .val (.cons .val (.cons .sl .nil)))))))) (.cons .val .nil)) rfl rfl (by intro h; cases h) rfl (by intro h; first | (cases h; done) | exact ⟨_, _, ⟨rfl, rfl⟩, by simp, by simp⟩) ?_
  rintro _ _ ⟨rfl, rfl⟩
  refine go_ ?_
  refine ch_n fun hU => ?_
  refine awp_region (sys _ _ []) 67 91 hU rfl rfl ?_
  refine go_ ?_
  refine ch_n fun hU => ?_
  obtain rfl := Option.some.inj hg
  exact ⟨((W (i_1 - 1), y_5.1.Use.Alg, y_5.1.Use.Bits, y_5.1.Purpose, y_5.1.Endpoint, y_5.1.Days.From, y_5.1.Days.To, y_5.1.Seals), m1), Nat.lt_succ_self _, hn1, sub_ [(0, 0), (1, 1), (2, 2), (3, 27)]⟩
 ·refine awp_exit ?_
  repeat first | refine st_ ?_ | refine sn_ ?_
  replace hg := leave hg hn1
  refine awp_cut (ι := List Int × Int × List api_Seal) (fun ((b_4, b_4_2, l_4) : List Int × Int × List api_Seal) => mk [(6, .ptr 1 0), (7, .ptr 2 0)] [(0, .box [.sl 1 (encL eI b_4), .val (.int .i64 b_4_2)] 66), (1, .box [.val (.int .i64 0), .val (.int .i64 0), .val (.int .i64 0), .val (.string (⟨#[]⟩ : ByteArray)), .val (.int .i64 0), .val (.int .i64 0), .val (.slice none 0 0)] 52), (2, .box [.val (.int .i64 x_1), .val (.int .i64 x_1_2), .val (.int .i64 x_1_3), .val (.string x_1_4), .val (.int .i64 x_1_5), .val (.int .i64 x_1_6), .row 3] 52), (3, .row 87 2 (encL api_Seal.enc l_4))] 4) (fun ((b_4, b_4_2, l_4) : List Int × Int × List api_Seal) => g_make_Exception.j4 x_1 x_1_2 x_1_3 x_1_4 x_1_5 x_1_6 b_4 b_4_2 l_4 = some r) ?_ ?_
  ·refine awp_cut (ι := Bool × List Int × Int) (fun ((x49_3, b_3, b_3_2) : Bool × List Int × Int) => mk [(6, .ptr 1 0), (7, .ptr 2 0), (49, .val (.bool x49_3))] [(0, .box [.sl 1 (encL eI b_3), .val (.int .i64 b_3_2)] 66), (1, .box [.val (.int .i64 0), .val (.int .i64 0), .val (.int .i64 0), .val (.string (⟨#[]⟩ : ByteArray)), .val (.int .i64 0), .val (.int .i64 0), .val (.slice none 0 0)] 52), (2, .box [.val (.int .i64 x_1), .val (.int .i64 x_1_2), .val (.int .i64 x_1_3), .val (.string x_1_4), .val (.int .i64 x_1_5), .val (.int .i64 x_1_6), .row 3] 52), (3, .row 87 2 (encL api_Seal.enc l_1))] 4) (fun ((x49_3, b_3, b_3_2) : Bool × List Int × Int) => g_make_Exception.j3 x_1 x_1_2 x_1_3 x_1_4 x_1_5 x_1_6 l_1 x49_3 b_3 b_3_2 = some r) ?_ ?_
   ·refine awp_region (sys _ _ []) 20 84 hU rfl rfl ?_
    refine go_ ?_
    rcases bc_ hg with ⟨h10, hg⟩ | ⟨h10, hg⟩
    ·refine go_ ?_
     obtain ⟨y_6, hy_6, hg⟩ := bind_some hg
     refine cb_ [0] [0] [] false (w_make_Dice_One _ _ _ hy_6) ?_
     refine go_ ?_
     refine ch_n fun hU => ?_
     exact ⟨(y_6.1, y_6.2.L, y_6.2.At), hg, sub_ [(0, 0), (1, 1), (2, 2), (3, 3)]⟩
    ·refine go_ ?_
     refine ch_n fun hU => ?_
     exact ⟨(false, y_4.2.L, y_4.2.At), hg, sub_ [(0, 0), (1, 1), (2, 2), (3, 3)]⟩
   ·rintro ⟨x49_3, b_3, b_3_2⟩ hg
    replace hg : g_make_Exception.j3 x_1 x_1_2 x_1_3 x_1_4 x_1_5 x_1_6 l_1 x49_3 b_3 b_3_2 = some r := hg
    show awp _ _ _ _ (mk _ _ _)
    unfold g_make_Exception.j3 at hg
    refine cg_ rfl hg (fun h13 hg => ?_) fun h13 hg => ?_
    ·refine awp_region (sys _ _ []) 4 44 mk_U rfl rfl ?_
     refine go_ ?_
     obtain ⟨e, he, hg⟩ := bind_some hg
     refine go_ ?_
     refine ch_s (rd := [3]) rfl rfl (r_storeR ty3 rfl (enc_cells_le api_Seal.enc_len (getI_at he) (o := 1) (m := 1) (by decide) rfl) ck3 (cs' := [.int .i64 7]) (.cons .int .nil) (enc_splice api_Seal.enc_len (getI_at he) (o := 1) (x' := (api_Seal.mk e.Key 7)) (Nat.le_of_ble_eq_true rfl) rfl rfl)) rfl rfl ?_
     refine ch_n fun hU => ?_
     exact ⟨(b_3, b_3_2, setI l_1 ((0 : Int).toNat) (api_Seal.mk e.Key 7)), hg, sub_ [(0, 0), (1, 1), (2, 2), (3, 3)]⟩
    ·refine awp_skip ?_
     repeat first | refine st_ ?_ | refine sn_ ?_
     exact ⟨(b_3, b_3_2, l_1), hg, sub_ [(0, 0), (1, 1), (2, 2), (3, 3)]⟩
  ·rintro ⟨b_4, b_4_2, l_4⟩ hg
   replace hg : g_make_Exception.j4 x_1 x_1_2 x_1_3 x_1_4 x_1_5 x_1_6 b_4 b_4_2 l_4 = some r := hg
   show awp _ _ _ _ (mk _ _ _)
   unfold g_make_Exception.j4 at hg
   refine sr_ 4 20 mk_U ?_
   refine go_ ?_
   refine ch_n fun hU => ?_
   refine aw_r ?_
   obtain rfl := Option.some.inj hg
   exact fin_ [(0, 0), (1, 3)] ⟨rfl, rfl⟩
theorem w_law19_made (d : cipherplanmake_Dice) (r : api_Exception × cipherplanmake_Dice) (hg : g_law19_made d = some r) : Fn Tryz.prog 26 1 [.ptr 0 0] [.box [.sl 1 (encL eI d.L), .val (.int .i64 d.At)] 66] (fun d' b' => d' = .agg [.val (.int .i64 r.1.Use.Alg), .val (.int .i64 r.1.Use.Bits), .val (.int .i64 r.1.Purpose), .val (.string r.1.Endpoint), .val (.int .i64 r.1.Days.From), .val (.int .i64 r.1.Days.To), .row 1] ∧ b' = [.box [.sl 1 (encL eI r.2.L), .val (.int .i64 r.2.At)] 66, .row 87 2 (encL api_Seal.enc r.1.Seals)]) := by
 unfold g_law19_made at hg
 refine Fn.of Tryz.func26 rfl rfl rfl fun w0 I ρ0 => ?_
 show awp _ ⟨w0, I, ρ0, 1, 1, 72, none⟩ _ _ _
 refine sr_ 1 9 mk_U ?_
 refine go_ ?_
 refine ch_n fun hU => ?_
 refine awp_seq ?_
 refine awp_region (sys _ _ [41]) 9 81 hU rfl rfl ?_
 refine go_ ?_
 obtain ⟨y, hy, hg⟩ := bind_some hg
 refine cb_ [0] [0] [] false (w_make_Use _ _ hy) ?_
 refine go_ ?_
 refine ch_z (rd := []) rfl rfl (r_buildFull sl42 z9 (by decide) rfl rfl rfl rfl ck9 (cs := [.str (⟨#[119, 101, 98]⟩ : ByteArray), .str (⟨#[100, 98]⟩ : ByteArray)]) (.cons .str (.cons .str .nil)) rfl (l := ([(⟨#[119, 101, 98]⟩ : ByteArray), (⟨#[100, 98]⟩ : ByteArray)] : List ByteArray)) (f := eS) rfl) rfl rfl rfl ?_
 obtain ⟨y_2, hy_2, hg⟩ := bind_some hg
 refine cb_ [0] [0] [] false (w_make_Dice_Word _ _ _ hy_2) ?_
 obtain ⟨y_3, hy_3, hg⟩ := bind_some hg
 refine ch_call (rd := [0]) (ps := [0]) (gs := []) false rfl (w_make_Exception _ _ _ _ hy_3) rfl rfl (.cons (.ptr rfl) (.cons (.agg (.cons .val (.cons .val .nil))) (.cons .val .nil))) ⟨_, _, _, rfl, .head _, ⟨_, rfl, (by repeat' (first | exact AgL.nil | apply AgL.cons | exact Ag.val | exact Ag.sl | exact Ag.nils | exact Ag.ptr rfl | exact Ag.rowK rfl))⟩, rfl⟩ rfl (by intro h; cases h) rfl (by intro h; first | (cases h; done) | exact ⟨_, _, ⟨rfl, rfl⟩, by simp, by simp⟩) ?_
 rintro _ _ ⟨rfl, rfl⟩
 refine go_ ?_
 refine ch_n fun hU => ?_
 refine awp_cut (ι := List Int × Int × Int × Int × Int × ByteArray × Int × Int × List api_Seal) (fun ((b_2, b_2_2, x_2, x_2_2, x_2_3, x_2_4, x_2_5, x_2_6, l_2_2) : List Int × Int × Int × Int × Int × ByteArray × Int × Int × List api_Seal) => mk [(2, .ptr 1 0), (3, .ptr 2 0)] [(0, .box [.sl 1 (encL eI b_2), .val (.int .i64 b_2_2)] 66), (1, .box [.val (.int .i64 0), .val (.int .i64 0), .val (.int .i64 0), .val (.string (⟨#[]⟩ : ByteArray)), .val (.int .i64 0), .val (.int .i64 0), .val (.slice none 0 0)] 52), (2, .box [.val (.int .i64 x_2), .val (.int .i64 x_2_2), .val (.int .i64 x_2_3), .val (.string x_2_4), .val (.int .i64 x_2_5), .val (.int .i64 x_2_6), .row 3] 52), (3, .row 87 2 (encL api_Seal.enc l_2_2))] 4) (fun ((b_2, b_2_2, x_2, x_2_2, x_2_3, x_2_4, x_2_5, x_2_6, l_2_2) : List Int × Int × Int × Int × Int × ByteArray × Int × Int × List api_Seal) => g_law19_made.j2 b_2 b_2_2 x_2 x_2_2 x_2_3 x_2_4 x_2_5 x_2_6 l_2_2 = some r) ?_ ?_
 ·refine awp_seq ?_
  refine awp_region (sys _ _ []) 81 97 hU rfl rfl ?_
  refine go_ ?_
  obtain ⟨y_4, hy_4, hg⟩ := bind_some hg
  refine cb_ [0] [0] [] false (w_make_Dice_Next _ _ _ hy_4) ?_
  refine ch_n fun hU => ?_
  refine awp_block ?_
  refine sr_ 97 113 hU ?_
  refine go_ ?_
  refine ch_n fun hU => ?_
  refine cg_ rfl hg (fun h5 hg => ?_) fun h5 hg => ?_
  ·refine awp_region (sys _ _ []) 113 137 hU rfl rfl ?_
   refine c0_ rfl rfl (.build (r := [.val (.int .i64 99), .val (.int .i64 0)]) und36 pl36 z36 (by kernel_rfl) rfl) rfl rfl ?_
   refine go_ ?_
   refine ch_n fun hU => ?_
   exact ⟨(y_4.2.L, y_4.2.At, 99, 0, y_3.1.Purpose, y_3.1.Endpoint, y_3.1.Days.From, y_3.1.Days.To, y_3.1.Seals), hg, sub_ [(0, 0), (1, 1), (2, 65), (3, 57)]⟩
  ·refine awp_seq ?_
   refine awp_region (sys _ _ []) 113 129 hU rfl rfl ?_
   refine go_ ?_
   refine ch_n fun hU => ?_
   refine cg_ rfl hg (fun h8 hg => ?_) fun h8 hg => ?_
   ·refine awp_region (sys _ _ [137]) 129 169 hU rfl rfl ?_
    refine go_ ?_
    refine ch_z (rd := []) rfl rfl (r_buildFull sl22 z3 (by decide) rfl rfl rfl rfl ck3 (cs := [.int .i64 0, .int .i64 5]) (.cons .int (.cons .int .nil)) rfl (l := ([0, 5] : List Int)) (f := eI) rfl) rfl rfl rfl ?_
    obtain ⟨y_5, hy_5, hg⟩ := bind_some hg
    refine cb_ [0] [0] [] false (w_make_Dice_Of _ _ _ hy_5) ?_
    refine go_ ?_
    refine ch_n fun hU => ?_
    exact ⟨(y_5.2.L, y_5.2.At, y_3.1.Use.Alg, y_3.1.Use.Bits, y_5.1, y_3.1.Endpoint, y_3.1.Days.From, y_3.1.Days.To, y_3.1.Seals), hg, sub_ [(0, 0), (1, 1), (2, 65), (3, 57)]⟩
   ·refine awp_seq ?_
    refine awp_region (sys _ _ []) 129 145 hU rfl rfl ?_
    refine go_ ?_
    refine ch_n fun hU => ?_
    refine cg_ rfl hg (fun h11 hg => ?_) fun h11 hg => ?_
    ·refine awp_region (sys _ _ [153]) 145 185 hU rfl rfl ?_
     refine go_ ?_
     refine ch_z (rd := []) rfl rfl (r_buildFull sl42 z9 (by decide) rfl rfl rfl rfl ck9 (cs := [.str (⟨#[]⟩ : ByteArray), .str (⟨#[97, 32, 98]⟩ : ByteArray)]) (.cons .str (.cons .str .nil)) rfl (l := ([(⟨#[]⟩ : ByteArray), (⟨#[97, 32, 98]⟩ : ByteArray)] : List ByteArray)) (f := eS) rfl) rfl rfl rfl ?_
     obtain ⟨y_6, hy_6, hg⟩ := bind_some hg
     refine cb_ [0] [0] [] false (w_make_Dice_Word _ _ _ hy_6) ?_
     refine go_ ?_
     refine ch_n fun hU => ?_
     exact ⟨(y_6.2.L, y_6.2.At, y_3.1.Use.Alg, y_3.1.Use.Bits, y_3.1.Purpose, y_6.1, y_3.1.Days.From, y_3.1.Days.To, y_3.1.Seals), hg, sub_ [(0, 0), (1, 1), (2, 65), (3, 57)]⟩
    ·refine awp_seq ?_
     refine awp_region (sys _ _ []) 145 161 hU rfl rfl ?_
     refine go_ ?_
     refine ch_n fun hU => ?_
     refine cg_ rfl hg (fun h14 hg => ?_) fun h14 hg => ?_
     ·refine awp_region (sys _ _ [169, 193]) 161 233 hU rfl rfl ?_
      refine go_ ?_
      refine ch_z (rd := []) rfl rfl (r_buildFull sl22 z3 (by decide) rfl rfl rfl rfl ck3 (cs := [.int .i64 9, .int .i64 (-1), .int .i64 0]) (.cons .int (.cons .int (.cons .int .nil))) rfl (l := ([9, -1, 0] : List Int)) (f := eI) rfl) rfl rfl rfl ?_
      obtain ⟨y_7, hy_7, hg⟩ := bind_some hg
      refine cb_ [0] [0] [] false (w_make_Dice_Of _ _ _ hy_7) ?_
      refine go_ ?_
      refine ch_z (rd := []) rfl rfl (r_buildFull sl22 z3 (by decide) rfl rfl rfl rfl ck3 (cs := [.int .i64 9, .int .i64 40001, .int .i64 40002]) (.cons .int (.cons .int (.cons .int .nil))) rfl (l := ([9, 40001, 40002] : List Int)) (f := eI) rfl) rfl rfl rfl ?_
      obtain ⟨y_8, hy_8, hg⟩ := bind_some hg
      refine cb_ [0] [0] [] false (w_make_Dice_Of _ _ _ hy_8) ?_
      refine c0_ rfl rfl (.build (r := [.val (.int .i64 y_7.1), .val (.int .i64 y_8.1)]) und49 pl49 z49 (by kernel_rfl) rfl) rfl rfl ?_
      refine go_ ?_
      refine ch_n fun hU => ?_
      exact ⟨(y_8.2.L, y_8.2.At, y_3.1.Use.Alg, y_3.1.Use.Bits, y_3.1.Purpose, y_3.1.Endpoint, y_7.1, y_8.1, y_3.1.Seals), hg, sub_ [(0, 0), (1, 1), (2, 65), (3, 57)]⟩
     ·refine awp_seq ?_
      refine awp_region (sys _ _ []) 161 177 hU rfl rfl ?_
      refine go_ ?_
      refine ch_n fun hU => ?_
      refine cg_ rfl hg (fun h17 hg => ?_) fun h17 hg => ?_
      ·refine awp_draw (sys _ _ [201, 225]) (by kernel_rfl) [0, 1, 0, 0, 12, 0, 0, 124, 252, 508, 1023, 2047, 4095] 177 281 hU rfl rfl (by kernel_rfl) ?_
       refine go_ ?_
       refine ch_z (rd := []) rfl rfl (r_buildFull sl22 z3 (by decide) rfl rfl rfl rfl ck3 (cs := [.int .i64 0, .int .i64 2147483648, .int .i64 2147483649]) (.cons .int (.cons .int (.cons .int .nil))) rfl (l := ([0, 2147483648, 2147483649] : List Int)) (f := eI) rfl) rfl rfl rfl ?_
       obtain ⟨y_9, hy_9, hg⟩ := bind_some hg
       refine cb_ [0] [0] [] false (w_make_Dice_Of _ _ _ hy_9) ?_
       refine go_ ?_
       refine ch_z (rd := []) rfl rfl (r_buildFull sl22 z3 (by decide) rfl rfl rfl rfl ck3 (cs := [.int .i64 4294967296, .int .i64 5]) (.cons .int (.cons .int .nil)) rfl (l := ([4294967296, 5] : List Int)) (f := eI) rfl) rfl rfl rfl ?_
       obtain ⟨y_10, hy_10, hg⟩ := bind_some hg
       refine cb_ [0] [0] [] false (w_make_Dice_Of _ _ _ hy_10) ?_
       refine c0_ rfl rfl (.build (r := [.val (.int .i64 y_9.1), .val (.int .i64 y_10.1)]) und87 pl87 z87 (by kernel_rfl) rfl) rfl rfl ?_
       refine c0_ rfl rfl (r_buildFull sl50 z87 (by decide) rfl rfl rfl rfl ck87 (cs := [.int .i64 y_9.1, .int .i64 y_10.1]) (.cons .int (.cons .int .nil)) rfl (l := ([(api_Seal.mk y_9.1 y_10.1)] : List api_Seal)) (f := api_Seal.enc) rfl) rfl rfl ?_
       obtain ⟨l, hl, hg⟩ := bind_some hg
       refine ch_s (rd := [57, 249]) rfl rfl (r_append sl50 api_Seal.enc_len .row rfl .row rfl hl rfl) rfl rfl ?_
       refine go_ ?_
       refine ch_n fun hU => ?_
       exact ⟨(y_10.2.L, y_10.2.At, y_3.1.Use.Alg, y_3.1.Use.Bits, y_3.1.Purpose, y_3.1.Endpoint, y_3.1.Days.From, y_3.1.Days.To, l), hg, sub_ [(0, 0), (1, 1), (2, 65), (3, 257)]⟩
      ·refine awp_seq ?_
       refine awp_region (sys _ _ []) 177 193 hU rfl rfl ?_
       refine go_ ?_
       refine ch_n fun hU => ?_
       refine cg_ rfl hg (fun h20 hg => ?_) fun h20 hg => ?_
       ·refine awp_seq ?_
        refine awp_region (sys _ _ []) 193 201 hU rfl rfl ?_
        refine go_ ?_
        refine ch_n fun hU => ?_
        refine awp_block ?_
        refine lp_ (fun ((i_1, d_1, d_1_2, l_1) : Int × List Int × Int × List api_Seal) => mk [(0, .ptr 0 0), (2, .ptr 1 0), (3, .ptr 2 0), (4, .val (.int .i64 i_1))] [(0, .box [.sl 1 (encL eI d_1), .val (.int .i64 d_1_2)] 66), (1, .box [.val (.int .i64 0), .val (.int .i64 0), .val (.int .i64 0), .val (.string (⟨#[]⟩ : ByteArray)), .val (.int .i64 0), .val (.int .i64 0), .val (.slice none 0 0)] 52), (2, .box [.val (.int .i64 y_3.1.Use.Alg), .val (.int .i64 y_3.1.Use.Bits), .val (.int .i64 y_3.1.Purpose), .val (.string y_3.1.Endpoint), .val (.int .i64 y_3.1.Days.From), .val (.int .i64 y_3.1.Days.To), .row 3] 52), (3, .row 87 2 (encL api_Seal.enc l_1))] 4) hg (sub_ [(0, 0), (1, 1), (2, 65), (3, 57)]) ?_
        rintro ⟨i_1, d_1, d_1_2, l_1⟩ m1 o1 hg hn1
        replace hg : g_law19_made.l1 y_3 i_1 d_1 d_1_2 l_1 = some o1 := hg
        show awp _ _ _ _ (mk _ _ _)
        unfold g_law19_made.l1 at hg
        refine awp_seq ?_
        refine sr_ 4 44 mk_U ?_
        refine go_ ?_
        obtain ⟨y_11, hy_11, hg⟩ := bind_some hg
        refine cb_ [0] [0] [] false (w_make_Dice_Next _ _ _ hy_11) ?_
        refine go_ ?_
        refine ch_n fun hU => ?_
        refine cg_ rfl hg (fun h23 hg => ?_) fun h23 hg => ?_
        ·refine awp_skip ?_
         repeat first | refine st_ ?_ | refine sn_ ?_
         refine awp_seq ?_
         refine awp_block ?_
         refine awp_region (sys _ _ []) 44 116 hU rfl rfl ?_
         refine go_ ?_
         refine c0_ rfl rfl (.build (r := [.val (.int .i64 (W (100 + i_1))), .val (.int .i64 0)]) und87 pl87 z87 (by kernel_rfl) rfl) rfl rfl ?_
         refine c0_ rfl rfl (r_buildFull sl50 z87 (by decide) rfl rfl rfl rfl ck87 (cs := [.int .i64 (W (100 + i_1)), .int .i64 0]) (.cons .int (.cons .int .nil)) rfl (l := ([(api_Seal.mk (W (100 + i_1)) 0)] : List api_Seal)) (f := api_Seal.enc) rfl) rfl rfl ?_
         obtain ⟨l_2, hl_2, hg⟩ := bind_some hg
         refine ch_s (rd := [3, 84]) rfl rfl (r_append sl50 api_Seal.enc_len .row rfl .row rfl hl_2 rfl) rfl rfl ?_
         refine go_ ?_
         refine ch_n fun hU => ?_
         refine awp_region (sys _ _ []) 116 140 hU rfl rfl ?_
         refine go_ ?_
         refine ch_n fun hU => ?_
         obtain rfl := Option.some.inj hg
         exact ⟨((W (i_1 + 1), y_11.2.L, y_11.2.At, l_2), m1), Nat.lt_succ_self _, hn1, sub_ [(0, 0), (1, 1), (2, 2), (3, 92)]⟩
        ·refine awp_exit ?_
         repeat first | refine st_ ?_ | refine sn_ ?_
         replace hg := leave hg hn1
         exact ⟨(y_11.2.L, y_11.2.At, y_3.1.Use.Alg, y_3.1.Use.Bits, y_3.1.Purpose, y_3.1.Endpoint, y_3.1.Days.From, y_3.1.Days.To, l_1), hg, sub_ [(0, 0), (1, 1), (2, 2), (3, 3)]⟩
       ·refine awp_skip ?_
        repeat first | refine st_ ?_ | refine sn_ ?_
        exact ⟨(y_4.2.L, y_4.2.At, y_3.1.Use.Alg, y_3.1.Use.Bits, y_3.1.Purpose, y_3.1.Endpoint, y_3.1.Days.From, y_3.1.Days.To, y_3.1.Seals), hg, sub_ [(0, 0), (1, 1), (2, 65), (3, 57)]⟩
 ·rintro ⟨b_2, b_2_2, x_2, x_2_2, x_2_3, x_2_4, x_2_5, x_2_6, l_2_2⟩ hg
  replace hg : g_law19_made.j2 b_2 b_2_2 x_2 x_2_2 x_2_3 x_2_4 x_2_5 x_2_6 l_2_2 = some r := hg
  show awp _ _ _ _ (mk _ _ _)
  unfold g_law19_made.j2 at hg
  refine sr_ 4 20 mk_U ?_
  refine go_ ?_
  refine ch_n fun hU => ?_
  refine aw_r ?_
  obtain rfl := Option.some.inj hg
  exact fin_ [(0, 0), (1, 3)] ⟨rfl, rfl⟩
theorem w_law19_list (d : cipherplanmake_Dice) (u : api_Use) (odd : Bool) (r : (List api_Exception) × cipherplanmake_Dice) (hg : g_law19_list d u odd = some r) : Fn Tryz.prog 11 1 [.ptr 0 0, .agg [.val (.int .i64 u.Alg), .val (.int .i64 u.Bits)], .val (.bool odd)] [.box [.sl 1 (encL eI d.L), .val (.int .i64 d.At)] 66] (fun d' b' => d' = .sl 7 (encL api_Exception.enc r.1) ∧ b' = [.box [.sl 1 (encL eI r.2.L), .val (.int .i64 r.2.At)] 66]) := by
 unfold g_law19_list at hg
 refine Fn.of Tryz.func11 rfl rfl rfl fun w0 I ρ0 => ?_
 show awp _ ⟨w0, I, ρ0, 1, 1, 34, none⟩ _ _ _
 refine sr_ 1 17 mk_U ?_
 refine go_ ?_
 refine ch_n fun hU => ?_
 refine sr_ 17 25 hU ?_
 refine go_ ?_
 refine ch_n fun hU => ?_
 refine awp_seq ?_
 refine sr_ 25 49 hU ?_
 refine go_ ?_
 obtain ⟨y, hy, hg⟩ := bind_some hg
 refine cb_ [0] [0] [] false (w_make_Dice_Next _ _ _ hy) ?_
 refine go_ ?_
 refine ch_n fun hU => ?_
 refine awp_block ?_
 refine lp_ (fun ((i_1, d_1, l_1) : Int × cipherplanmake_Dice × List api_Exception) => mk [(0, .ptr 0 0), (2, .val (.bool odd)), (4, .ptr 1 0), (7, .row 2), (8, .val (.int .i64 i_1))] [(0, .box [.sl 1 (encL eI d_1.L), .val (.int .i64 d_1.At)] 66), (1, .box [.val (.int .i64 u.Alg), .val (.int .i64 u.Bits)] 36), (2, .row 52 7 (encL api_Exception.enc l_1))] 3) hg (sub_ [(0, 0), (1, 1)]) ?_
 rintro ⟨i_1, d_1, l_1⟩ m1 o1 hg hn1
 replace hg : g_law19_list.l1 u odd i_1 d_1 l_1 = some o1 := hg
 show awp _ _ _ _ (mk _ _ _)
 unfold g_law19_list.l1 at hg
 refine awp_seq ?_
 refine sr_ 3 19 mk_U ?_
 refine go_ ?_
 refine ch_n fun hU => ?_
 refine cg_ rfl hg (fun h5 hg => ?_) fun h5 hg => ?_
 ·refine awp_skip ?_
  repeat first | refine st_ ?_ | refine sn_ ?_
  refine awp_seq ?_
  refine awp_block ?_
  refine awp_seq ?_
  refine awp_draw (sys _ _ [43]) (by kernel_rfl) [0, 0, 0, 0, 12, 31, 0, 127] 19 83 hU rfl rfl (by kernel_rfl) ?_
  refine go_ ?_
  refine ch_z (rd := []) rfl rfl (r_buildFull sl42 z9 (by decide) rfl rfl rfl rfl ck9 (cs := [.str (⟨#[119, 101, 98]⟩ : ByteArray), .str (⟨#[119, 101, 98]⟩ : ByteArray), .str (⟨#[100, 98]⟩ : ByteArray)]) (.cons .str (.cons .str (.cons .str .nil))) rfl (l := ([(⟨#[119, 101, 98]⟩ : ByteArray), (⟨#[119, 101, 98]⟩ : ByteArray), (⟨#[100, 98]⟩ : ByteArray)] : List ByteArray)) (f := eS) rfl) rfl rfl rfl ?_
  obtain ⟨y_2, hy_2, hg⟩ := bind_some hg
  refine cb_ [0] [0] [] false (w_make_Dice_Word _ _ _ hy_2) ?_
  obtain ⟨y_3, hy_3, hg⟩ := bind_some hg
  refine ch_call (rd := [0]) (ps := [0]) (gs := []) false rfl (w_make_Exception _ _ _ _ hy_3) rfl rfl (.cons (.ptr rfl) (.cons (.agg (.cons .val (.cons .val .nil))) (.cons .val .nil))) ⟨_, _, _, rfl, .head _, ⟨_, rfl, (by repeat' (first | exact AgL.nil | apply AgL.cons | exact Ag.val | exact Ag.sl | exact Ag.nils | exact Ag.ptr rfl | exact Ag.rowK rfl))⟩, rfl⟩ rfl (by intro h; cases h) rfl (by intro h; first | (cases h; done) | exact ⟨_, _, ⟨rfl, rfl⟩, by simp, by simp⟩) ?_
  rintro _ _ ⟨rfl, rfl⟩
  refine go_ ?_
  refine ch_n fun hU => ?_
  refine awp_cut (ι := cipherplanmake_Dice × Int × Int × Int × ByteArray × Int × Int × List api_Seal) (fun ((d_3, x_3, x_3_2, x_3_3, x_3_4, x_3_5, x_3_6, l_3) : cipherplanmake_Dice × Int × Int × Int × ByteArray × Int × Int × List api_Seal) => mk [(0, .ptr 0 0), (2, .val (.bool odd)), (4, .ptr 1 0), (7, .row 2), (8, .val (.int .i64 i_1)), (9, .ptr 3 0)] [(0, .box [.sl 1 (encL eI d_3.L), .val (.int .i64 d_3.At)] 66), (1, .box [.val (.int .i64 u.Alg), .val (.int .i64 u.Bits)] 36), (2, .row 52 7 (encL api_Exception.enc l_1)), (3, .box [.val (.int .i64 x_3), .val (.int .i64 x_3_2), .val (.int .i64 x_3_3), .val (.string x_3_4), .val (.int .i64 x_3_5), .val (.int .i64 x_3_6), .row 4] 52), (4, .row 87 2 (encL api_Seal.enc l_3))] 5) (fun ((d_3, x_3, x_3_2, x_3_3, x_3_4, x_3_5, x_3_6, l_3) : cipherplanmake_Dice × Int × Int × Int × ByteArray × Int × Int × List api_Seal) => g_law19_list.j3 i_1 l_1 d_3 x_3 x_3_2 x_3_3 x_3_4 x_3_5 x_3_6 l_3 = some o1) ?_ ?_
  ·refine awp_cut (ι := Bool × cipherplanmake_Dice) (fun ((x26_2, d_2) : Bool × cipherplanmake_Dice) => mk [(0, .ptr 0 0), (2, .val (.bool odd)), (4, .ptr 1 0), (7, .row 2), (8, .val (.int .i64 i_1)), (9, .ptr 3 0), (26, .val (.bool x26_2))] [(0, .box [.sl 1 (encL eI d_2.L), .val (.int .i64 d_2.At)] 66), (1, .box [.val (.int .i64 u.Alg), .val (.int .i64 u.Bits)] 36), (2, .row 52 7 (encL api_Exception.enc l_1)), (3, .box [.val (.int .i64 y_3.1.Use.Alg), .val (.int .i64 y_3.1.Use.Bits), .val (.int .i64 y_3.1.Purpose), .val (.string y_3.1.Endpoint), .val (.int .i64 y_3.1.Days.From), .val (.int .i64 y_3.1.Days.To), .row 4] 52), (4, .row 87 2 (encL api_Seal.enc y_3.1.Seals))] 5) (fun ((x26_2, d_2) : Bool × cipherplanmake_Dice) => g_law19_list.j2 i_1 l_1 y_3 x26_2 d_2 = some o1) ?_ ?_
   ·refine awp_region (sys _ _ []) 83 123 hU rfl rfl ?_
    refine go_ ?_
    rcases bc_ hg with ⟨h7, hg⟩ | ⟨h7, hg⟩
    ·refine go_ ?_
     obtain ⟨y_4, hy_4, hg⟩ := bind_some hg
     refine cb_ [0] [0] [] false (w_make_Dice_One _ _ _ hy_4) ?_
     refine go_ ?_
     refine ch_n fun hU => ?_
     exact ⟨(y_4.1, y_4.2), hg, sub_ [(0, 0), (1, 1), (2, 2), (3, 67), (4, 59)]⟩
    ·refine go_ ?_
     refine ch_n fun hU => ?_
     exact ⟨(false, y_3.2), hg, sub_ [(0, 0), (1, 1), (2, 2), (3, 67), (4, 59)]⟩
   ·rintro ⟨x26_2, d_2⟩ hg
    replace hg : g_law19_list.j2 i_1 l_1 y_3 x26_2 d_2 = some o1 := hg
    show awp _ _ _ _ (mk _ _ _)
    unfold g_law19_list.j2 at hg
    refine cg_ rfl hg (fun h10 hg => ?_) fun h10 hg => ?_
    ·refine awp_region (sys _ _ []) 5 29 mk_U rfl rfl ?_
     refine go_ ?_
     obtain ⟨y_5, hy_5, hg⟩ := bind_some hg
     refine ch_call (rd := [0]) (ps := [0]) (gs := []) false rfl (w_law19_made _ _ hy_5) rfl rfl (.cons (.ptr rfl) .nil) ⟨_, _, _, rfl, .head _, ⟨_, rfl, (by repeat' (first | exact AgL.nil | apply AgL.cons | exact Ag.val | exact Ag.sl | exact Ag.nils | exact Ag.ptr rfl | exact Ag.rowK rfl))⟩, rfl⟩ rfl (by intro h; cases h) rfl (by intro h; first | (cases h; done) | exact ⟨_, _, ⟨rfl, rfl⟩, by simp, by simp⟩) ?_
     rintro _ _ ⟨rfl, rfl⟩
     refine go_ ?_
     refine ch_n fun hU => ?_
     exact ⟨(y_5.2, y_5.1.Use.Alg, y_5.1.Use.Bits, y_5.1.Purpose, y_5.1.Endpoint, y_5.1.Days.From, y_5.1.Days.To, y_5.1.Seals), hg, sub_ [(0, 0), (1, 1), (2, 2), (3, 3), (4, 13)]⟩
    ·refine awp_skip ?_
     repeat first | refine st_ ?_ | refine sn_ ?_
     exact ⟨(d_2, y_3.1.Use.Alg, y_3.1.Use.Bits, y_3.1.Purpose, y_3.1.Endpoint, y_3.1.Days.From, y_3.1.Days.To, y_3.1.Seals), hg, sub_ [(0, 0), (1, 1), (2, 2), (3, 3), (4, 4)]⟩
  ·rintro ⟨d_3, x_3, x_3_2, x_3_3, x_3_4, x_3_5, x_3_6, l_3⟩ hg
   replace hg : g_law19_list.j3 i_1 l_1 d_3 x_3 x_3_2 x_3_3 x_3_4 x_3_5 x_3_6 l_3 = some o1 := hg
   show awp _ _ _ _ (mk _ _ _)
   unfold g_law19_list.j3 at hg
   refine awp_sub (σ' := mk [(0, .ptr 0 0), (2, .val (.bool odd)), (4, .ptr 1 0), (7, .row 2), (8, .val (.int .i64 i_1)), (9, .ptr 3 0)] [(0, .box [.sl 1 (encL eI d_3.L), .val (.int .i64 d_3.At)] 66), (1, .box [.val (.int .i64 u.Alg), .val (.int .i64 u.Bits)] 36), (2, .row 52 7 (encL api_Exception.enc l_1)), (3, .box [.val (.int .i64 x_3), .val (.int .i64 x_3_2), .val (.int .i64 x_3_3), .val (.string x_3_4), .val (.int .i64 x_3_5), .val (.int .i64 x_3_6), .sl 2 (encL api_Seal.enc l_3)] 52)] 4) (sub_ [(0, 0), (1, 1), (2, 2), (3, 3)]) ?_
   refine awp_region (sys _ _ []) 4 44 mk_U rfl rfl ?_
   refine go_ ?_
   refine c0_ rfl rfl (r_buildFull sl38 z52 (by decide) rfl rfl rfl rfl ck52 (cs := [.int .i64 x_3, .int .i64 x_3_2, .int .i64 x_3_3, .str x_3_4, .int .i64 x_3_5, .int .i64 x_3_6, .sl 2 (encL api_Seal.enc l_3)]) (.cons .int (.cons .int (.cons .int (.cons .str (.cons .int (.cons .int (.cons .sl .nil))))))) rfl (l := ([(api_Exception.mk (api_Use.mk x_3 x_3_2) x_3_3 x_3_4 (api_Span.mk x_3_5 x_3_6) l_3)] : List api_Exception)) (f := api_Exception.enc) rfl) rfl rfl ?_
   obtain ⟨l, hl, hg⟩ := bind_some hg
   refine ch_s (rd := [2, 20]) rfl rfl (r_append sl38 api_Exception.enc_len .row rfl .row rfl hl rfl) rfl rfl ?_
   refine go_ ?_
   refine ch_n fun hU => ?_
   refine awp_region (sys _ _ []) 44 68 hU rfl rfl ?_
   refine go_ ?_
   refine ch_n fun hU => ?_
   obtain rfl := Option.some.inj hg
   exact ⟨((W (i_1 - 1), d_3, l), m1), Nat.lt_succ_self _, hn1, sub_ [(0, 0), (1, 1), (2, 28)]⟩
 ·refine awp_exit ?_
  repeat first | refine st_ ?_ | refine sn_ ?_
  replace hg := leave hg hn1
  refine sr_ 19 35 hU ?_
  refine go_ ?_
  refine ch_n fun hU => ?_
  refine aw_r ?_
  obtain rfl := Option.some.inj hg
  exact fin_ [(0, 0)] ⟨rfl, rfl⟩
theorem w_ref17_Ruled (r' : api_Rule) (r : Bool) (hg : g_ref17_Ruled r' = some r) : Fn Tryz.prog 71 0 [.agg (api_Rule.dv r')] [] (fun d' b' => d' = .val (.bool r) ∧ b' = []) := by
 unfold g_ref17_Ruled at hg
 refine Fn.of Tryz.func71 rfl rfl rfl fun w0 I ρ0 => ?_
 show awp _ ⟨w0, I, ρ0, 0, 0, 48, none⟩ _ _ _
 refine sr_ 0 16 mk_U ?_
 refine go_ ?_
 refine ch_n fun hU => ?_
 refine sr_ 16 384 hU ?_
 refine go_ ?_
 rcases bc_ hg with ⟨h2, hg⟩ | ⟨h2, hg⟩
 ·refine go_ ?_
  rcases bc_ hg with ⟨h3, hg⟩ | ⟨h3, hg⟩
  ·refine go_ ?_
   rcases bc_ hg with ⟨h4, hg⟩ | ⟨h4, hg⟩
   ·refine go_ ?_
    rcases bc_ hg with ⟨h5, hg⟩ | ⟨h5, hg⟩
    ·refine go_ ?_
     rcases bc_ hg with ⟨h6, hg⟩ | ⟨h6, hg⟩
     ·refine go_ ?_
      rcases bc_ hg with ⟨h7, hg⟩ | ⟨h7, hg⟩
      ·refine go_ ?_
       rcases bc_ hg with ⟨h8, hg⟩ | ⟨h8, hg⟩
       ·refine go_ ?_
        rcases bc_ hg with ⟨h9, hg⟩ | ⟨h9, hg⟩
        ·refine go_ ?_
         refine ch_n fun hU => ?_
         refine aw_r ?_
         obtain rfl := Option.some.inj hg
         exact fin_ [] ⟨rfl, rfl⟩
        ·refine go_ ?_
         refine ch_n fun hU => ?_
         refine aw_r ?_
         obtain rfl := Option.some.inj hg
         exact fin_ [] ⟨rfl, rfl⟩
       ·refine go_ ?_
        refine ch_n fun hU => ?_
        refine aw_r ?_
        obtain rfl := Option.some.inj hg
        exact fin_ [] ⟨rfl, rfl⟩
      ·refine go_ ?_
       refine ch_n fun hU => ?_
       refine aw_r ?_
       obtain rfl := Option.some.inj hg
       exact fin_ [] ⟨rfl, rfl⟩
     ·refine go_ ?_
      refine ch_n fun hU => ?_
      refine aw_r ?_
      obtain rfl := Option.some.inj hg
      exact fin_ [] ⟨rfl, rfl⟩
    ·refine go_ ?_
     refine ch_n fun hU => ?_
     refine aw_r ?_
     obtain rfl := Option.some.inj hg
     exact fin_ [] ⟨rfl, rfl⟩
   ·refine go_ ?_
    refine ch_n fun hU => ?_
    refine aw_r ?_
    obtain rfl := Option.some.inj hg
    exact fin_ [] ⟨rfl, rfl⟩
  ·refine go_ ?_
   refine ch_n fun hU => ?_
   refine aw_r ?_
   obtain rfl := Option.some.inj hg
   exact fin_ [] ⟨rfl, rfl⟩
 ·refine go_ ?_
  refine ch_n fun hU => ?_
  refine aw_r ?_
  obtain rfl := Option.some.inj hg
  exact fin_ [] ⟨rfl, rfl⟩
end Go.Proofs.YtmbhoimeiahbaaaGreat
