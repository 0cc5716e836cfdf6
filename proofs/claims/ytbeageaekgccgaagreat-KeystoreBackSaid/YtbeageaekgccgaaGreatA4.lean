/- The program computes the plain functions. -/
import Derived.Test.YtbeageaekgccgaaGreatT1
import Derived.Test.YtbeageaekgccgaaGreatA2
import Derived.Test.YtbeageaekgccgaaGreatA3
set_option linter.unusedVariables false
set_option linter.unusedSimpArgs false
set_option maxRecDepth 100000
set_option maxHeartbeats 1600000
namespace Go.Proofs.YtbeageaekgccgaaGreat
open Go.RowKit
theorem w_ref01_Text (s : ByteArray) (r : api_Value) (hg : g_ref01_Text s = some r) : Fn Tryz.prog 81 0 [.val (.string s)] [] (fun d' b' => d' = .agg (api_Value.dv r) ∧ b' = []) := by
 unfold g_ref01_Text at hg
 refine Fn.of Tryz.func81 rfl rfl rfl fun w0 I ρ0 => ?_
 show awp _ ⟨w0, I, ρ0, 0, 0, 6⟩ _ _ _
 refine sr_ 0 8 mk_U ?_
 refine go_ ?_
 refine ch_n fun hU => ?_
 refine sr_ 8 40 hU ?_
 refine go_ ?_
 refine c0_ rfl rfl (r_convB und9 und29 und5) rfl rfl ?_
 refine c0_ rfl rfl (.build (r := [.val (.int .i64 12), .sl 1 (encL e8 (toB s)), .val (.bool false), .val (.slice none 0 0)]) und50 pl50 z50 (by kernel_rfl) rfl) rfl rfl ?_
 refine go_ ?_
 refine ch_n fun hU => ?_
 refine aw_r ?_
 obtain rfl := Option.some.inj hg
 exact fin_ [] ⟨rfl, rfl⟩
theorem w_ref01_Int (n : Int) (r : api_Value) (hg : g_ref01_Int n = some r) : Fn Tryz.prog 24 0 [.val (.int .i64 n)] [] (fun d' b' => d' = .agg (api_Value.dv r) ∧ b' = []) := by
 unfold g_ref01_Int at hg
 refine Fn.of Tryz.func24 rfl rfl rfl fun w0 I ρ0 => ?_
 show awp _ ⟨w0, I, ρ0, 0, 0, 45⟩ _ _ _
 refine sr_ 0 8 mk_U ?_
 refine go_ ?_
 refine ch_n fun hU => ?_
 refine sr_ 8 40 hU ?_
 refine go_ ?_
 refine c0_ rfl rfl (r_conv_u8 und3 und5) rfl rfl ?_
 refine c0_ rfl rfl (r_buildFull sl29 z5 (by decide) rfl rfl rfl rfl ck5 (cs := [.int .u8 ((u8 n).toNat : Int)]) (.cons .int .nil) rfl (l := ([(u8 n)] : List UInt8)) (f := e8) rfl) rfl rfl ?_
 refine go_ ?_
 refine ch_n fun hU => ?_
 refine awp_seq ?_
 refine sr_ 40 64 hU ?_
 refine go_ ?_
 obtain ⟨q, hq, hg⟩ := bind_some hg
 refine c0_ rfl rfl (r_shrK hq) rfl rfl ?_
 refine go_ ?_
 refine ch_n fun hU => ?_
 refine awp_block ?_
 refine lp_ (fun ((x_1, b_1) : Int × List UInt8) => mk [(2, .ptr 0 0), (3, .row 1), (4, .val (.int .i64 x_1))] [(0, .box [.val (.int .i64 0), .val (.slice none 0 0), .val (.bool false), .val (.slice none 0 0)] 50), (1, .row 5 1 (encL e8 b_1))] 2) hg (sub_ [(0, 0), (1, 24)]) ?_
 rintro ⟨x_1, b_1⟩ m1 o1 hg hn1
 replace hg : g_ref01_Int.l1 x_1 b_1 = some o1 := hg
 show awp _ _ _ _ (mk _ _ _)
 unfold g_ref01_Int.l1 at hg
 refine awp_seq ?_
 refine awp_cut (ι := Bool) (fun (x35_2 : Bool) => mk [(2, .ptr 0 0), (3, .row 1), (4, .val (.int .i64 x_1)), (35, .val (.bool x35_2))] [(0, .box [.val (.int .i64 0), .val (.slice none 0 0), .val (.bool false), .val (.slice none 0 0)] 50), (1, .row 5 1 (encL e8 b_1))] 2) (fun (x35_2 : Bool) => g_ref01_Int.j2 x_1 b_1 x35_2 = some o1) ?_ ?_
 ·refine awp_region (sys _ _ []) 2 210 mk_U rfl rfl ?_
  refine go_ ?_
  rcases bc_ hg with ⟨h4, hg⟩ | ⟨h4, hg⟩
  ·refine go_ ?_
   rcases bc_ hg with ⟨h5, hg⟩ | ⟨h5, hg⟩
   ·refine go_ ?_
    refine ch_n fun hU => ?_
    exact ⟨true, hg, sub_ [(0, 0), (1, 1)]⟩
   ·refine go_ ?_
    rcases bc_ hg with ⟨h7, hg⟩ | ⟨h7, hg⟩
    ·refine go_ ?_
     obtain ⟨e, he, hg⟩ := bind_some hg
     refine go_ ?_
     refine ch_s (rd := [1]) (gdv_t rfl rfl h7) rfl (.loadR1 ty5 (enc_cell e8_len (getI_at he) (o := 0) (c := .int .u8 (e.toNat : Int)) rfl rfl)) rfl rfl ?_
     refine go_ ?_
     rcases bc_ hg with ⟨h8, hg⟩ | ⟨h8, hg⟩
     ·refine go_ ?_
      refine ch_n fun hU => ?_
      exact ⟨true, hg, sub_ [(0, 0), (1, 1)]⟩
     ·refine go_ ?_
      rcases bc_ hg with ⟨h10, hg⟩ | ⟨h10, hg⟩
      ·refine go_ ?_
       refine ch_s (rd := [1]) (gdv_t rfl rfl h10) rfl (.loadR1 ty5 (enc_cell e8_len (getI_at he) (o := 0) (c := .int .u8 (e.toNat : Int)) rfl rfl)) rfl rfl ?_
       refine go_ ?_
       refine ch_n fun hU => ?_
       exact ⟨decide ((e.toNat : Int) < 128), hg, sub_ [(0, 0), (1, 1)]⟩
      ·refine go_ ?_
       refine ch_n fun hU => ?_
       exact ⟨false, hg, sub_ [(0, 0), (1, 1)]⟩
    ·refine go_ ?_
     rcases bc_ hg with ⟨h13, hg⟩ | ⟨h13, hg⟩
     ·refine go_ ?_
      obtain ⟨e_2, he_2, hg⟩ := bind_some hg
      refine go_ ?_
      refine ch_s (rd := [1]) (gdv_t rfl rfl h13) rfl (.loadR1 ty5 (enc_cell e8_len (getI_at he_2) (o := 0) (c := .int .u8 (e_2.toNat : Int)) rfl rfl)) rfl rfl ?_
      refine go_ ?_
      refine ch_n fun hU => ?_
      exact ⟨decide ((e_2.toNat : Int) < 128), hg, sub_ [(0, 0), (1, 1)]⟩
     ·refine go_ ?_
      refine ch_n fun hU => ?_
      exact ⟨false, hg, sub_ [(0, 0), (1, 1)]⟩
  ·refine go_ ?_
   rcases bc_ hg with ⟨h16, hg⟩ | ⟨h16, hg⟩
   ·refine go_ ?_
    obtain ⟨e_3, he_3, hg⟩ := bind_some hg
    refine go_ ?_
    refine ch_s (rd := [1]) (gdv_t rfl rfl h16) rfl (.loadR1 ty5 (enc_cell e8_len (getI_at he_3) (o := 0) (c := .int .u8 (e_3.toNat : Int)) rfl rfl)) rfl rfl ?_
    refine go_ ?_
    rcases bc_ hg with ⟨h17, hg⟩ | ⟨h17, hg⟩
    ·refine go_ ?_
     refine ch_n fun hU => ?_
     exact ⟨true, hg, sub_ [(0, 0), (1, 1)]⟩
    ·refine go_ ?_
     rcases bc_ hg with ⟨h19, hg⟩ | ⟨h19, hg⟩
     ·refine go_ ?_
      refine ch_s (rd := [1]) (gdv_t rfl rfl h19) rfl (.loadR1 ty5 (enc_cell e8_len (getI_at he_3) (o := 0) (c := .int .u8 (e_3.toNat : Int)) rfl rfl)) rfl rfl ?_
      refine go_ ?_
      refine ch_n fun hU => ?_
      exact ⟨decide ((e_3.toNat : Int) < 128), hg, sub_ [(0, 0), (1, 1)]⟩
     ·refine go_ ?_
      refine ch_n fun hU => ?_
      exact ⟨false, hg, sub_ [(0, 0), (1, 1)]⟩
   ·refine go_ ?_
    rcases bc_ hg with ⟨h22, hg⟩ | ⟨h22, hg⟩
    ·refine go_ ?_
     obtain ⟨e_4, he_4, hg⟩ := bind_some hg
     refine go_ ?_
     refine ch_s (rd := [1]) (gdv_t rfl rfl h22) rfl (.loadR1 ty5 (enc_cell e8_len (getI_at he_4) (o := 0) (c := .int .u8 (e_4.toNat : Int)) rfl rfl)) rfl rfl ?_
     refine go_ ?_
     refine ch_n fun hU => ?_
     exact ⟨decide ((e_4.toNat : Int) < 128), hg, sub_ [(0, 0), (1, 1)]⟩
    ·refine go_ ?_
     refine ch_n fun hU => ?_
     exact ⟨false, hg, sub_ [(0, 0), (1, 1)]⟩
 ·rintro x35_2 hg
  replace hg : g_ref01_Int.j2 x_1 b_1 x35_2 = some o1 := hg
  show awp _ _ _ _ (mk _ _ _)
  unfold g_ref01_Int.j2 at hg
  refine cg_ rfl hg (fun h25 hg => ?_) fun h25 hg => ?_
  ·refine awp_skip ?_
   repeat first | refine st_ ?_ | refine sn_ ?_
   refine awp_seq ?_
   refine awp_block ?_
   refine awp_region (sys _ _ []) 2 50 mk_U rfl rfl ?_
   refine go_ ?_
   refine c0_ rfl rfl (r_conv_u8 und3 und5) rfl rfl ?_
   refine c0_ rfl rfl (r_buildFull sl29 z5 (by decide) rfl rfl rfl rfl ck5 (cs := [.int .u8 ((u8 x_1).toNat : Int)]) (.cons .int .nil) rfl (l := ([(u8 x_1)] : List UInt8)) (f := e8) rfl) rfl rfl ?_
   refine go_ ?_
   obtain ⟨l, hl, hg⟩ := bind_some hg
   refine ch_s (rd := [18, 1]) rfl rfl (r_append sl29 e8_len .row rfl .row rfl hl rfl) rfl rfl ?_
   refine go_ ?_
   refine ch_n fun hU => ?_
   refine awp_region (sys _ _ []) 50 74 hU rfl rfl ?_
   refine go_ ?_
   obtain ⟨q_2, hq_2, hg⟩ := bind_some hg
   refine c0_ rfl rfl (r_shrK hq_2) rfl rfl ?_
   refine go_ ?_
   refine ch_n fun hU => ?_
   obtain rfl := Option.some.inj hg
   exact ⟨((q_2, l), m1), Nat.lt_succ_self _, hn1, sub_ [(0, 0), (1, 34)]⟩
  ·refine awp_exit ?_
   repeat first | refine st_ ?_ | refine sn_ ?_
   replace hg := leave hg hn1
   refine sr_ 2 26 mk_U ?_
   refine go_ ?_
   refine c0_ rfl rfl (.build (r := [.val (.int .i64 2), .row 1, .val (.bool false), .val (.slice none 0 0)]) und50 pl50 z50 (by kernel_rfl) rfl) rfl rfl ?_
   refine go_ ?_
   refine ch_n fun hU => ?_
   refine aw_r ?_
   obtain rfl := Option.some.inj hg
   exact fin_ [] ⟨rfl, rfl⟩
theorem w_ref01_copies.F (rec : (List api_Value) → Option ((List api_Value))) (hrec : ∀ (l : (List api_Value)) (r : (List api_Value)), rec l = some r → Fn Tryz.prog 83 0 [.sl 4 (encL api_Value.enc l)] [] (fun d' b' => d' = .sl 4 (encL api_Value.enc r) ∧ b' = [])) (l : (List api_Value)) (r : (List api_Value)) (hg : g_ref01_copies.F rec l = some r) : Fn Tryz.prog 83 0 [.sl 4 (encL api_Value.enc l)] [] (fun d' b' => d' = .sl 4 (encL api_Value.enc r) ∧ b' = []) := by
 unfold g_ref01_copies.F at hg
 refine Fn.of Tryz.func83 rfl rfl rfl fun w0 I ρ0 => ?_
 show awp _ ⟨w0, I, ρ0, 0, 0, 30⟩ _ _ _
 refine sr_ 0 8 mk_U ?_
 refine go_ ?_
 refine ch_n fun hU => ?_
 refine sr_ 8 16 hU ?_
 refine go_ ?_
 refine ch_n fun hU => ?_
 refine awp_seq ?_
 refine sr_ 16 24 hU ?_
 refine go_ ?_
 refine ch_n fun hU => ?_
 refine awp_block ?_
 refine lp_ (fun ((i_1, out_1) : Int × List api_Value) => mk [(0, .sl 4 (encL api_Value.enc l)), (3, .row 0), (4, .val (.int .i64 i_1))] [(0, .row 50 4 (encL api_Value.enc out_1))] 1) hg (sub_ []) ?_
 rintro ⟨i_1, out_1⟩ m1 o1 hg hn1
 replace hg : g_ref01_copies.l1 rec l i_1 out_1 = some o1 := hg
 show awp _ _ _ _ (mk _ _ _)
 unfold g_ref01_copies.l1 at hg
 refine awp_seq ?_
 refine sr_ 1 33 mk_U ?_
 refine go_ ?_
 refine ch_n fun hU => ?_
 refine cg_ rfl hg (fun h5 hg => ?_) fun h5 hg => ?_
 ·refine awp_skip ?_
  repeat first | refine st_ ?_ | refine sn_ ?_
  refine awp_seq ?_
  refine awp_block ?_
  refine sr_ 33 81 hU ?_
  refine go_ ?_
  obtain ⟨e, he, hg⟩ := bind_some hg
  refine go_ ?_
  refine c0_ rfl rfl (r_loadEA ty50 (enc_cells api_Value.enc_len (getI_at he) (o := 0) (m := 4) (cs := [.int .i64 e.Tag, .sl 1 (encL e8 e.Bytes), .bool e.Nested, .sl 4 (encL api_Value.enc e.Elements)]) (by simp only [api_Value.enc_eq]; rfl) (by decide) rfl) (enc_cells_le api_Value.enc_len (getI_at he) (o := 0) (m := 4) (by decide) rfl)) rfl rfl ?_
  refine go_ ?_
  refine ch_n fun hU => ?_
  refine sr_ 81 129 hU ?_
  refine c0_ rfl rfl (r_buildFull sl29 z5 (by decide) rfl rfl rfl rfl ck5 (cs := []) .nil rfl (l := ([] : List UInt8)) (f := e8) rfl) rfl rfl ?_
  refine go_ ?_
  obtain ⟨l_2, hl_2, hg⟩ := bind_some hg
  refine ch_s (rd := [81]) rfl rfl (r_append sl29 e8_len .row rfl .sl rfl hl_2 rfl) rfl rfl ?_
  refine go_ ?_
  refine ch_n fun hU => ?_
  refine sr_ 129 169 hU ?_
  refine go_ ?_
  obtain ⟨y, hy, hg⟩ := bind_some hg
  refine ca_ (hrec _ _ hy) ?_
  refine go_ ?_
  refine ch_n fun hU => ?_
  refine awp_sub (σ' := mk [(0, .sl 4 (encL api_Value.enc l)), (3, .row 0), (4, .val (.int .i64 i_1)), (5, .ptr 1 0)] [(0, .row 50 4 (encL api_Value.enc out_1)), (1, .box [.val (.int .i64 e.Tag), .sl 1 (encL e8 l_2), .val (.bool e.Nested), .sl 4 (encL api_Value.enc y)] 50)] 2) (sub_ [(0, 0), (1, 65)]) ?_
  refine awp_region (sys _ _ []) 2 42 mk_U rfl rfl ?_
  refine go_ ?_
  refine c0_ rfl rfl (r_buildFull sl48 z50 (by decide) rfl rfl rfl rfl ck50 (cs := [.int .i64 e.Tag, .sl 1 (encL e8 l_2), .bool e.Nested, .sl 4 (encL api_Value.enc y)]) (.cons .int (.cons .sl (.cons .bool (.cons .sl .nil)))) rfl (l := ([(api_Value.mk e.Tag l_2 e.Nested y)] : List api_Value)) (f := api_Value.enc) (by simp only [encL, List.flatMap_cons, List.flatMap_nil, api_Value.enc_eq]; rfl)) rfl rfl ?_
  obtain ⟨l_3, hl_3, hg⟩ := bind_some hg
  refine ch_s (rd := [0, 18]) rfl rfl (r_append sl48 api_Value.enc_len .row rfl .row rfl hl_3 rfl) rfl rfl ?_
  refine go_ ?_
  refine ch_n fun hU => ?_
  refine awp_region (sys _ _ []) 42 66 hU rfl rfl ?_
  refine go_ ?_
  refine ch_n fun hU => ?_
  obtain rfl := Option.some.inj hg
  exact ⟨((W (i_1 + 1), l_3), m1), Nat.lt_succ_self _, hn1, sub_ [(0, 26)]⟩
 ·refine awp_exit ?_
  repeat first | refine st_ ?_ | refine sn_ ?_
  replace hg := leave hg hn1
  refine sr_ 33 49 hU ?_
  refine go_ ?_
  refine ch_n fun hU => ?_
  refine aw_r ?_
  obtain rfl := Option.some.inj hg
  exact fin_ [] ⟨rfl, rfl⟩
theorem w_ref01_copies (l : (List api_Value)) (r : (List api_Value)) (hg : g_ref01_copies l = some r) : Fn Tryz.prog 83 0 [.sl 4 (encL api_Value.enc l)] [] (fun d' b' => d' = .sl 4 (encL api_Value.enc r) ∧ b' = []) :=
 fixT_ind (motive := fun (x : (List api_Value)) (r : (List api_Value)) => Fn Tryz.prog 83 0 [.sl 4 (encL api_Value.enc x)] [] (fun d' b' => d' = .sl 4 (encL api_Value.enc r) ∧ b' = [])) (fun rec hrec x r h => w_ref01_copies.F _ (fun l r h => hrec l r h) x r h) l r hg
theorem w_ref01_List (l : (List api_Value)) (r : api_Value) (hg : g_ref01_List l = some r) : Fn Tryz.prog 36 0 [.sl 4 (encL api_Value.enc l)] [] (fun d' b' => d' = .agg (api_Value.dv r) ∧ b' = []) := by
 unfold g_ref01_List at hg
 refine Fn.of Tryz.func36 rfl rfl rfl fun w0 I ρ0 => ?_
 show awp _ ⟨w0, I, ρ0, 0, 0, 6⟩ _ _ _
 refine sr_ 0 8 mk_U ?_
 refine go_ ?_
 refine ch_n fun hU => ?_
 refine sr_ 8 40 hU ?_
 refine go_ ?_
 obtain ⟨y, hy, hg⟩ := bind_some hg
 refine ca_ (w_ref01_copies _ _ hy) ?_
 refine c0_ rfl rfl (.build (r := [.val (.int .i64 48), .val (.slice none 0 0), .val (.bool true), .sl 4 (encL api_Value.enc y)]) und50 pl50 z50 (by kernel_rfl) rfl) rfl rfl ?_
 refine go_ ?_
 refine ch_n fun hU => ?_
 refine aw_r ?_
 obtain rfl := Option.some.inj hg
 exact fin_ [] ⟨rfl, rfl⟩
theorem w_ref03_use (u : api_Use) (r : api_Value) (hg : g_ref03_use u = some r) : Fn Tryz.prog 158 0 [.agg [.val (.int .i64 u.Alg), .val (.int .i64 u.Bits)]] [] (fun d' b' => d' = .agg (api_Value.dv r) ∧ b' = []) := by
 unfold g_ref03_use at hg
 refine Fn.of Tryz.func158 rfl rfl rfl fun w0 I ρ0 => ?_
 show awp _ ⟨w0, I, ρ0, 0, 0, 11⟩ _ _ _
 refine sr_ 0 16 mk_U ?_
 refine go_ ?_
 refine ch_n fun hU => ?_
 refine awp_seq ?_
 refine awp_draw (sys _ _ [64]) (by kernel_rfl) [0, 1, 3, 0, 8, 31, 63, 127, 255] 16 88 hU rfl rfl (by kernel_rfl) ?_
 refine go_ ?_
 obtain ⟨y, hy, hg⟩ := bind_some hg
 refine ca_ (w_ref01_Int _ _ hy) ?_
 refine go_ ?_
 obtain ⟨y_2, hy_2, hg⟩ := bind_some hg
 refine ca_ (w_ref01_Int _ _ hy_2) ?_
 refine ch_z (rd := []) rfl rfl (r_buildFull sl48 z50 (by decide) rfl rfl rfl rfl ck50 (cs := [.int .i64 y.Tag, .sl 1 (encL e8 y.Bytes), .bool y.Nested, .sl 4 (encL api_Value.enc y.Elements), .int .i64 y_2.Tag, .sl 1 (encL e8 y_2.Bytes), .bool y_2.Nested, .sl 4 (encL api_Value.enc y_2.Elements)]) (.cons .int (.cons .sl (.cons .bool (.cons .sl (.cons .int (.cons .sl (.cons .bool (.cons .sl .nil)))))))) rfl (l := ([y, y_2] : List api_Value)) (f := api_Value.enc) (by simp only [encL, List.flatMap_cons, List.flatMap_nil, api_Value.enc_eq]; rfl)) rfl rfl rfl ?_
 obtain ⟨y_3, hy_3, hg⟩ := bind_some hg
 refine ca_ (w_ref01_List _ _ hy_3) ?_
 refine go_ ?_
 refine ch_n fun hU => ?_
 refine aw_r ?_
 obtain rfl := Option.some.inj hg
 exact fin_ [] ⟨rfl, rfl⟩
theorem w_ref01_Bool (b : Bool) (r : api_Value) (hg : g_ref01_Bool b = some r) : Fn Tryz.prog 82 0 [.val (.bool b)] [] (fun d' b' => d' = .agg (api_Value.dv r) ∧ b' = []) := by
 unfold g_ref01_Bool at hg
 refine Fn.of Tryz.func82 rfl rfl rfl fun w0 I ρ0 => ?_
 show awp _ ⟨w0, I, ρ0, 0, 0, 8⟩ _ _ _
 refine sr_ 0 8 mk_U ?_
 refine go_ ?_
 refine ch_n fun hU => ?_
 refine awp_seq ?_
 refine sr_ 8 16 hU ?_
 refine go_ ?_
 refine ch_n fun hU => ?_
 refine cg_ rfl hg (fun h3 hg => ?_) fun h3 hg => ?_
 ·refine awp_seq ?_
  refine awp_region (sys _ _ []) 16 40 hU rfl rfl ?_
  refine c0_ rfl rfl (r_buildFull sl29 z5 (by decide) rfl rfl rfl rfl ck5 (cs := [.int .u8 255]) (.cons .int .nil) rfl (l := ([(255 : UInt8)] : List UInt8)) (f := e8) rfl) rfl rfl ?_
  refine c0_ rfl rfl (.build (r := [.val (.int .i64 1), .row 16, .val (.bool false), .val (.slice none 0 0)]) und50 pl50 z50 (by kernel_rfl) rfl) rfl rfl ?_
  refine go_ ?_
  refine ch_n fun hU => ?_
  refine aw_r ?_
  obtain rfl := Option.some.inj hg
  exact fin_ [] ⟨rfl, rfl⟩
 ·refine awp_skip ?_
  repeat first | refine st_ ?_ | refine sn_ ?_
  refine sr_ 16 40 hU ?_
  refine c0_ rfl rfl (r_buildFull sl29 z5 (by decide) rfl rfl rfl rfl ck5 (cs := [.int .u8 0]) (.cons .int .nil) rfl (l := ([(0 : UInt8)] : List UInt8)) (f := e8) rfl) rfl rfl ?_
  refine c0_ rfl rfl (.build (r := [.val (.int .i64 1), .row 16, .val (.bool false), .val (.slice none 0 0)]) und50 pl50 z50 (by kernel_rfl) rfl) rfl rfl ?_
  refine go_ ?_
  refine ch_n fun hU => ?_
  refine aw_r ?_
  obtain rfl := Option.some.inj hg
  exact fin_ [] ⟨rfl, rfl⟩
theorem w_ref03_body (c : api_Certificate) (r : api_Value) (hg : g_ref03_body c = some r) : Fn Tryz.prog 123 0 [.agg (api_Certificate.dv c)] [] (fun d' b' => d' = .agg (api_Value.dv r) ∧ b' = []) := by
 unfold g_ref03_body at hg
 refine Fn.of Tryz.func123 rfl rfl rfl fun w0 I ρ0 => ?_
 show awp _ ⟨w0, I, ρ0, 0, 0, 55⟩ _ _ _
 refine sr_ 0 16 mk_U ?_
 refine go_ ?_
 refine ch_n fun hU => ?_
 refine sr_ 16 24 hU ?_
 refine go_ ?_
 refine ch_n fun hU => ?_
 refine awp_seq ?_
 refine sr_ 24 32 hU ?_
 refine go_ ?_
 refine ch_n fun hU => ?_
 refine awp_block ?_
 refine lp_ (fun ((i_1, names_1) : Int × List api_Value) => mk [(1, .ptr 0 0), (2, .ptr 1 0), (3, .row 2), (4, .val (.int .i64 i_1))] [(0, .box (api_Certificate.dv c) 68), (1, .box [.val (.int .i64 0), .val (.slice none 0 0), .val (.bool false), .val (.slice none 0 0)] 50), (2, .row 50 4 (encL api_Value.enc names_1))] 3) hg (sub_ [(0, 0), (1, 8)]) ?_
 rintro ⟨i_1, names_1⟩ m1 o1 hg hn1
 replace hg : g_ref03_body.l1 c i_1 names_1 = some o1 := hg
 show awp _ _ _ _ (mk _ _ _)
 unfold g_ref03_body.l1 at hg
 refine awp_seq ?_
 refine sr_ 3 43 mk_U ?_
 refine go_ ?_
 refine ch_n fun hU => ?_
 refine cg_ rfl hg (fun h5 hg => ?_) fun h5 hg => ?_
 ·refine awp_skip ?_
  repeat first | refine st_ ?_ | refine sn_ ?_
  refine awp_seq ?_
  refine awp_block ?_
  refine awp_region (sys _ _ []) 43 123 hU rfl rfl ?_
  refine go_ ?_
  obtain ⟨e, he, hg⟩ := bind_some hg
  refine go_ ?_
  refine c0_ rfl rfl (r_loadE1 ty9 (enc_cell eS_len (getI_at he) (o := 0) (c := .str e) rfl rfl)) rfl rfl ?_
  obtain ⟨y, hy, hg⟩ := bind_some hg
  refine ca_ (w_ref01_Text _ _ hy) ?_
  refine c0_ rfl rfl (r_buildFull sl48 z50 (by decide) rfl rfl rfl rfl ck50 (cs := [.int .i64 y.Tag, .sl 1 (encL e8 y.Bytes), .bool y.Nested, .sl 4 (encL api_Value.enc y.Elements)]) (.cons .int (.cons .sl (.cons .bool (.cons .sl .nil)))) rfl (l := ([y] : List api_Value)) (f := api_Value.enc) (by simp only [encL, List.flatMap_cons, List.flatMap_nil, api_Value.enc_eq]; rfl)) rfl rfl ?_
  obtain ⟨l, hl, hg⟩ := bind_some hg
  refine ch_s (rd := [2, 99]) rfl rfl (r_append sl48 api_Value.enc_len .row rfl .row rfl hl rfl) rfl rfl ?_
  refine go_ ?_
  refine ch_n fun hU => ?_
  refine awp_region (sys _ _ []) 123 147 hU rfl rfl ?_
  refine go_ ?_
  refine ch_n fun hU => ?_
  obtain rfl := Option.some.inj hg
  exact ⟨((W (i_1 + 1), l), m1), Nat.lt_succ_self _, hn1, sub_ [(0, 0), (1, 1), (2, 107)]⟩
 ·refine awp_exit ?_
  repeat first | refine st_ ?_ | refine sn_ ?_
  replace hg := leave hg hn1
  refine awp_seq ?_
  refine awp_sub (σ' := mk [(1, .ptr 0 0), (2, .ptr 1 0), (3, .sl 4 (encL api_Value.enc names_1))] [(0, .box (api_Certificate.dv c) 68), (1, .box [.val (.int .i64 0), .val (.slice none 0 0), .val (.bool false), .val (.slice none 0 0)] 50)] 2) (sub_ [(0, 0), (1, 1)]) ?_
  refine awp_draw (sys _ _ [258]) (by kernel_rfl) [0, 1, 3, 0, 8, 31, 0, 64, 255, 0, 512, 2047, 0, 4096, 16383, 0, 32768, 131071, 0, 262144, 1048575, 0, 2097152, 8388607, 0, 16777216, 67108863, 0, 134217728, 536870911, 0, 2147483647, 4294967295, 8589934591, 17179869183] 2 282 mk_U rfl rfl (by kernel_rfl) ?_
  refine go_ ?_
  obtain ⟨y_12, hy_12, hg⟩ := bind_some hg
  refine ca_ (w_ref01_Int _ _ hy_12) ?_
  refine go_ ?_
  obtain ⟨y_13, hy_13, hg⟩ := bind_some hg
  refine ca_ (w_ref01_Text _ _ hy_13) ?_
  refine go_ ?_
  obtain ⟨y_14, hy_14, hg⟩ := bind_some hg
  refine ca_ (w_ref01_Text _ _ hy_14) ?_
  refine go_ ?_
  obtain ⟨y_15, hy_15, hg⟩ := bind_some hg
  refine ca_ (w_ref03_use _ _ hy_15) ?_
  refine go_ ?_
  obtain ⟨y_16, hy_16, hg⟩ := bind_some hg
  refine ca_ (w_ref01_Int _ _ hy_16) ?_
  refine go_ ?_
  obtain ⟨y_17, hy_17, hg⟩ := bind_some hg
  refine ca_ (w_ref03_use _ _ hy_17) ?_
  refine go_ ?_
  obtain ⟨y_18, hy_18, hg⟩ := bind_some hg
  refine ca_ (w_ref01_Int _ _ hy_18) ?_
  refine go_ ?_
  obtain ⟨y_19, hy_19, hg⟩ := bind_some hg
  refine ca_ (w_ref01_Int _ _ hy_19) ?_
  refine go_ ?_
  obtain ⟨y_20, hy_20, hg⟩ := bind_some hg
  refine ca_ (w_ref01_Bool _ _ hy_20) ?_
  refine go_ ?_
  obtain ⟨y_21, hy_21, hg⟩ := bind_some hg
  refine ca_ (w_ref01_Int _ _ hy_21) ?_
  refine go_ ?_
  obtain ⟨y_22, hy_22, hg⟩ := bind_some hg
  refine ca_ (w_ref01_List _ _ hy_22) ?_
  refine ch_z (rd := []) rfl rfl (r_buildFull sl48 z50 (by decide) rfl rfl rfl rfl ck50 (cs := [.int .i64 y_12.Tag, .sl 1 (encL e8 y_12.Bytes), .bool y_12.Nested, .sl 4 (encL api_Value.enc y_12.Elements), .int .i64 y_13.Tag, .sl 1 (encL e8 y_13.Bytes), .bool y_13.Nested, .sl 4 (encL api_Value.enc y_13.Elements), .int .i64 y_14.Tag, .sl 1 (encL e8 y_14.Bytes), .bool y_14.Nested, .sl 4 (encL api_Value.enc y_14.Elements), .int .i64 y_15.Tag, .sl 1 (encL e8 y_15.Bytes), .bool y_15.Nested, .sl 4 (encL api_Value.enc y_15.Elements), .int .i64 y_16.Tag, .sl 1 (encL e8 y_16.Bytes), .bool y_16.Nested, .sl 4 (encL api_Value.enc y_16.Elements), .int .i64 y_17.Tag, .sl 1 (encL e8 y_17.Bytes), .bool y_17.Nested, .sl 4 (encL api_Value.enc y_17.Elements), .int .i64 y_18.Tag, .sl 1 (encL e8 y_18.Bytes), .bool y_18.Nested, .sl 4 (encL api_Value.enc y_18.Elements), .int .i64 y_19.Tag, .sl 1 (encL e8 y_19.Bytes), .bool y_19.Nested, .sl 4 (encL api_Value.enc y_19.Elements), .int .i64 y_20.Tag, .sl 1 (encL e8 y_20.Bytes), .bool y_20.Nested, .sl 4 (encL api_Value.enc y_20.Elements), .int .i64 y_21.Tag, .sl 1 (encL e8 y_21.Bytes), .bool y_21.Nested, .sl 4 (encL api_Value.enc y_21.Elements), .int .i64 y_22.Tag, .sl 1 (encL e8 y_22.Bytes), .bool y_22.Nested, .sl 4 (encL api_Value.enc y_22.Elements)]) (.cons .int (.cons .sl (.cons .bool (.cons .sl (.cons .int (.cons .sl (.cons .bool (.cons .sl (.cons .int (.cons .sl (.cons .bool (.cons .sl (.cons .int (.cons .sl (.cons .bool (.cons .sl (.cons .int (.cons .sl (.cons .bool (.cons .sl (.cons .int (.cons .sl (.cons .bool (.cons .sl (.cons .int (.cons .sl (.cons .bool (.cons .sl (.cons .int (.cons .sl (.cons .bool (.cons .sl (.cons .int (.cons .sl (.cons .bool (.cons .sl (.cons .int (.cons .sl (.cons .bool (.cons .sl (.cons .int (.cons .sl (.cons .bool (.cons .sl .nil)))))))))))))))))))))))))))))))))))))))))))) rfl (l := ([y_12, y_13, y_14, y_15, y_16, y_17, y_18, y_19, y_20, y_21, y_22] : List api_Value)) (f := api_Value.enc) (by simp only [encL, List.flatMap_cons, List.flatMap_nil, api_Value.enc_eq]; rfl)) rfl rfl rfl ?_
  obtain ⟨y_23, hy_23, hg⟩ := bind_some hg
  refine ca_ (w_ref01_List _ _ hy_23) ?_
  refine go_ ?_
  refine ch_n fun hU => ?_
  refine aw_r ?_
  obtain rfl := Option.some.inj hg
  exact fin_ [] ⟨rfl, rfl⟩
theorem w_ref01_tag (n : Int) (r : Bool) (hg : g_ref01_tag n = some r) : Fn Tryz.prog 98 0 [.val (.int .i64 n)] [] (fun d' b' => d' = .val (.bool r) ∧ b' = []) := by
 unfold g_ref01_tag at hg
 refine Fn.of Tryz.func98 rfl rfl rfl fun w0 I ρ0 => ?_
 show awp _ ⟨w0, I, ρ0, 0, 0, 14⟩ _ _ _
 refine sr_ 0 8 mk_U ?_
 refine go_ ?_
 refine ch_n fun hU => ?_
 refine sr_ 8 104 hU ?_
 refine go_ ?_
 rcases bc_ hg with ⟨h2, hg⟩ | ⟨h2, hg⟩
 ·refine go_ ?_
  rcases bc_ hg with ⟨h3, hg⟩ | ⟨h3, hg⟩
  ·refine go_ ?_
   obtain ⟨q, hq, hg⟩ := bind_some hg
   refine c0_ (gdv_t rfl rfl h3) rfl (r_rem hq) rfl rfl ?_
   refine go_ ?_
   refine ch_n fun hU => ?_
   refine aw_r ?_
   obtain rfl := Option.some.inj hg
   exact fin_ [] ⟨rfl, rfl⟩
  ·refine go_ ?_
   refine ch_n fun hU => ?_
   refine aw_r ?_
   obtain rfl := Option.some.inj hg
   exact fin_ [] ⟨rfl, rfl⟩
 ·refine go_ ?_
  refine ch_n fun hU => ?_
  refine aw_r ?_
  obtain rfl := Option.some.inj hg
  exact fin_ [] ⟨rfl, rfl⟩
theorem w_ref01_formed.F (rec : api_Value → Option (Bool)) (hrec : ∀ (v : api_Value) (r : Bool), rec v = some r → Fn Tryz.prog 54 0 [.agg (api_Value.dv v)] [] (fun d' b' => d' = .val (.bool r) ∧ b' = [])) (v : api_Value) (r : Bool) (hg : g_ref01_formed.F rec v = some r) : Fn Tryz.prog 54 0 [.agg (api_Value.dv v)] [] (fun d' b' => d' = .val (.bool r) ∧ b' = []) := by
 unfold g_ref01_formed.F at hg
 refine Fn.of Tryz.func54 rfl rfl rfl fun w0 I ρ0 => ?_
 show awp _ ⟨w0, I, ρ0, 0, 0, 53⟩ _ _ _
 refine sr_ 0 16 mk_U ?_
 refine go_ ?_
 refine ch_n fun hU => ?_
 refine awp_seq ?_
 refine awp_cut (ι := Bool) (fun (x38_1 : Bool) => mk [(1, .ptr 0 0), (38, .val (.bool x38_1))] [(0, .box (api_Value.dv v) 50)] 1) (fun (x38_1 : Bool) => g_ref01_formed.j1 rec v x38_1 = some r) ?_ ?_
 ·refine awp_region (sys _ _ []) 16 296 hU rfl rfl ?_
  refine go_ ?_
  obtain ⟨y, hy, hg⟩ := bind_some hg
  refine ca_ (w_ref01_tag _ _ hy) ?_
  refine go_ ?_
  rcases bc_ hg with ⟨h2, hg⟩ | ⟨h2, hg⟩
  ·refine go_ ?_
   refine ch_n fun hU => ?_
   exact ⟨true, hg, sub_ [(0, 0)]⟩
  ·refine go_ ?_
   obtain ⟨q, hq, hg⟩ := bind_some hg
   refine c0_ (gdv_t rfl rfl h2) rfl (r_quo hq) rfl rfl ?_
   obtain ⟨q_2, hq_2, hg⟩ := bind_some hg
   refine c0_ (gdv_t rfl rfl h2) rfl (r_rem hq_2) rfl rfl ?_
   refine go_ ?_
   refine c0_ (gdv_t rfl rfl h2) rfl (r_bneq und4) rfl rfl ?_
   refine go_ ?_
   rcases bc_ hg with ⟨h4, hg⟩ | ⟨h4, hg⟩
   ·refine go_ ?_
    refine ch_n fun hU => ?_
    exact ⟨true, hg, sub_ [(0, 0)]⟩
   ·refine go_ ?_
    rcases bc_ hg with ⟨h6, hg⟩ | ⟨h6, hg⟩
    ·refine go_ ?_
     rcases bc_ hg with ⟨h7, hg⟩ | ⟨h7, hg⟩
     ·refine go_ ?_
      refine ch_n fun hU => ?_
      exact ⟨true, hg, sub_ [(0, 0)]⟩
     ·refine go_ ?_
      refine ch_n fun hU => ?_
      exact ⟨false, hg, sub_ [(0, 0)]⟩
    ·refine go_ ?_
     refine ch_n fun hU => ?_
     exact ⟨decide (0 < (v.Elements.length : Int)), hg, sub_ [(0, 0)]⟩
 ·rintro x38_1 hg
  replace hg : g_ref01_formed.j1 rec v x38_1 = some r := hg
  show awp _ _ _ _ (mk _ _ _)
  unfold g_ref01_formed.j1 at hg
  refine cg_ rfl hg (fun h11 hg => ?_) fun h11 hg => ?_
  ·refine awp_seq ?_
   refine awp_region (sys _ _ []) 1 9 mk_U rfl rfl ?_
   refine go_ ?_
   refine ch_n fun hU => ?_
   refine aw_r ?_
   obtain rfl := Option.some.inj hg
   exact fin_ [] ⟨rfl, rfl⟩
  ·refine awp_skip ?_
   repeat first | refine st_ ?_ | refine sn_ ?_
   refine awp_seq ?_
   refine sr_ 1 9 mk_U ?_
   refine go_ ?_
   refine ch_n fun hU => ?_
   refine awp_block ?_
   refine lp_ (fun (i_2 : Int) => mk [(1, .ptr 0 0), (3, .val (.int .i64 i_2))] [(0, .box (api_Value.dv v) 50)] 1) hg (sub_ [(0, 0)]) ?_
   rintro i_2 m2 o2 hg hn2
   replace hg : g_ref01_formed.l2 rec v i_2 = some o2 := hg
   show awp _ _ _ _ (mk _ _ _)
   unfold g_ref01_formed.l2 at hg
   refine awp_seq ?_
   refine sr_ 1 41 mk_U ?_
   refine go_ ?_
   refine ch_n fun hU => ?_
   refine cg_ rfl hg (fun h15 hg => ?_) fun h15 hg => ?_
   ·refine awp_skip ?_
    repeat first | refine st_ ?_ | refine sn_ ?_
    refine awp_seq ?_
    refine awp_block ?_
    refine sr_ 41 97 hU ?_
    refine go_ ?_
    obtain ⟨e, he, hg⟩ := bind_some hg
    refine go_ ?_
    refine c0_ rfl rfl (r_loadEA ty50 (enc_cells api_Value.enc_len (getI_at he) (o := 0) (m := 4) (cs := [.int .i64 e.Tag, .sl 1 (encL e8 e.Bytes), .bool e.Nested, .sl 4 (encL api_Value.enc e.Elements)]) (by simp only [api_Value.enc_eq]; rfl) (by decide) rfl) (enc_cells_le api_Value.enc_len (getI_at he) (o := 0) (m := 4) (by decide) rfl)) rfl rfl ?_
    obtain ⟨y_2, hy_2, hg⟩ := bind_some hg
    refine ca_ (hrec _ _ hy_2) ?_
    refine go_ ?_
    refine ch_n fun hU => ?_
    refine cg_ rfl hg (fun h17 hg => ?_) fun h17 hg => ?_
    ·refine awp_seq ?_
     refine awp_region (sys _ _ []) 97 105 hU rfl rfl ?_
     refine go_ ?_
     refine ch_n fun hU => ?_
     refine aw_r ?_
     replace hg := leave hg hn2
     obtain rfl := Option.some.inj hg
     exact fin_ [] ⟨rfl, rfl⟩
    ·refine awp_skip ?_
     repeat first | refine st_ ?_ | refine sn_ ?_
     refine awp_region (sys _ _ []) 97 121 hU rfl rfl ?_
     refine go_ ?_
     refine ch_n fun hU => ?_
     obtain rfl := Option.some.inj hg
     exact ⟨(W (i_2 + 1), m2), Nat.lt_succ_self _, hn2, sub_ [(0, 0)]⟩
   ·refine awp_exit ?_
    repeat first | refine st_ ?_ | refine sn_ ?_
    replace hg := leave hg hn2
    refine sr_ 41 49 hU ?_
    refine go_ ?_
    refine ch_n fun hU => ?_
    refine aw_r ?_
    obtain rfl := Option.some.inj hg
    exact fin_ [] ⟨rfl, rfl⟩
theorem w_ref01_formed (v : api_Value) (r : Bool) (hg : g_ref01_formed v = some r) : Fn Tryz.prog 54 0 [.agg (api_Value.dv v)] [] (fun d' b' => d' = .val (.bool r) ∧ b' = []) :=
 fixT_ind (motive := fun (x : api_Value) (r : Bool) => Fn Tryz.prog 54 0 [.agg (api_Value.dv x)] [] (fun d' b' => d' = .val (.bool r) ∧ b' = [])) (fun rec hrec x r h => w_ref01_formed.F _ (fun v r h => hrec v r h) x r h) v r hg
theorem w_ref01_depth.F (rec : api_Value → Option (Int)) (hrec : ∀ (v : api_Value) (r : Int), rec v = some r → Fn Tryz.prog 53 0 [.agg (api_Value.dv v)] [] (fun d' b' => d' = .val (.int .i64 r) ∧ b' = [])) (v : api_Value) (r : Int) (hg : g_ref01_depth.F rec v = some r) : Fn Tryz.prog 53 0 [.agg (api_Value.dv v)] [] (fun d' b' => d' = .val (.int .i64 r) ∧ b' = []) := by
 unfold g_ref01_depth.F at hg
 refine Fn.of Tryz.func53 rfl rfl rfl fun w0 I ρ0 => ?_
 show awp _ ⟨w0, I, ρ0, 0, 0, 22⟩ _ _ _
 refine sr_ 0 16 mk_U ?_
 refine go_ ?_
 refine ch_n fun hU => ?_
 refine sr_ 16 24 hU ?_
 refine go_ ?_
 refine ch_n fun hU => ?_
 refine awp_seq ?_
 refine sr_ 24 32 hU ?_
 refine go_ ?_
 refine ch_n fun hU => ?_
 refine awp_block ?_
 refine lp_ (fun ((d_1, i_1) : Int × Int) => mk [(1, .ptr 0 0), (3, .val (.int .i64 d_1)), (4, .val (.int .i64 i_1))] [(0, .box (api_Value.dv v) 50)] 1) hg (sub_ [(0, 0)]) ?_
 rintro ⟨d_1, i_1⟩ m1 o1 hg hn1
 replace hg : g_ref01_depth.l1 rec v d_1 i_1 = some o1 := hg
 show awp _ _ _ _ (mk _ _ _)
 unfold g_ref01_depth.l1 at hg
 refine awp_seq ?_
 refine sr_ 1 41 mk_U ?_
 refine go_ ?_
 refine ch_n fun hU => ?_
 refine cg_ rfl hg (fun h5 hg => ?_) fun h5 hg => ?_
 ·refine awp_skip ?_
  repeat first | refine st_ ?_ | refine sn_ ?_
  refine awp_seq ?_
  refine awp_block ?_
  refine awp_region (sys _ _ []) 41 113 hU rfl rfl ?_
  refine go_ ?_
  obtain ⟨e, he, hg⟩ := bind_some hg
  refine go_ ?_
  refine c0_ rfl rfl (r_loadEA ty50 (enc_cells api_Value.enc_len (getI_at he) (o := 0) (m := 4) (cs := [.int .i64 e.Tag, .sl 1 (encL e8 e.Bytes), .bool e.Nested, .sl 4 (encL api_Value.enc e.Elements)]) (by simp only [api_Value.enc_eq]; rfl) (by decide) rfl) (enc_cells_le api_Value.enc_len (getI_at he) (o := 0) (m := 4) (by decide) rfl)) rfl rfl ?_
  obtain ⟨y, hy, hg⟩ := bind_some hg
  refine ca_ (hrec _ _ hy) ?_
  refine c0_ rfl rfl r_max rfl rfl ?_
  refine go_ ?_
  refine ch_n fun hU => ?_
  refine awp_region (sys _ _ []) 113 137 hU rfl rfl ?_
  refine go_ ?_
  refine ch_n fun hU => ?_
  obtain rfl := Option.some.inj hg
  exact ⟨((max d_1 y, W (i_1 + 1)), m1), Nat.lt_succ_self _, hn1, sub_ [(0, 0)]⟩
 ·refine awp_exit ?_
  repeat first | refine st_ ?_ | refine sn_ ?_
  replace hg := leave hg hn1
  refine sr_ 41 65 hU ?_
  refine go_ ?_
  refine ch_n fun hU => ?_
  refine aw_r ?_
  obtain rfl := Option.some.inj hg
  exact fin_ [] ⟨rfl, rfl⟩
theorem w_ref01_depth (v : api_Value) (r : Int) (hg : g_ref01_depth v = some r) : Fn Tryz.prog 53 0 [.agg (api_Value.dv v)] [] (fun d' b' => d' = .val (.int .i64 r) ∧ b' = []) :=
 fixT_ind (motive := fun (x : api_Value) (r : Int) => Fn Tryz.prog 53 0 [.agg (api_Value.dv x)] [] (fun d' b' => d' = .val (.int .i64 r) ∧ b' = [])) (fun rec hrec x r h => w_ref01_depth.F _ (fun v r h => hrec v r h) x r h) v r hg
theorem w_ref01_length (n : Int) (r : (List UInt8)) (hg : g_ref01_length n = some r) : Fn Tryz.prog 99 0 [.val (.int .i64 n)] [] (fun d' b' => d' = .sl 1 (encL e8 r) ∧ b' = []) := by
 unfold g_ref01_length at hg
 refine Fn.of Tryz.func99 rfl rfl rfl fun w0 I ρ0 => ?_
 show awp _ ⟨w0, I, ρ0, 0, 0, 26⟩ _ _ _
 refine sr_ 0 8 mk_U ?_
 refine go_ ?_
 refine ch_n fun hU => ?_
 refine awp_seq ?_
 refine sr_ 8 24 hU ?_
 refine go_ ?_
 refine ch_n fun hU => ?_
 refine cg_ rfl hg (fun h3 hg => ?_) fun h3 hg => ?_
 ·refine awp_seq ?_
  refine awp_region (sys _ _ []) 24 56 hU rfl rfl ?_
  refine go_ ?_
  refine c0_ rfl rfl (r_conv_u8 und3 und5) rfl rfl ?_
  refine c0_ rfl rfl (r_buildFull sl29 z5 (by decide) rfl rfl rfl rfl ck5 (cs := [.int .u8 ((u8 n).toNat : Int)]) (.cons .int .nil) rfl (l := ([(u8 n)] : List UInt8)) (f := e8) rfl) rfl rfl ?_
  refine go_ ?_
  refine ch_n fun hU => ?_
  refine aw_r ?_
  obtain rfl := Option.some.inj hg
  exact fin_ [] ⟨rfl, rfl⟩
 ·refine awp_skip ?_
  repeat first | refine st_ ?_ | refine sn_ ?_
  refine sr_ 24 32 hU ?_
  refine go_ ?_
  refine ch_n fun hU => ?_
  refine awp_seq ?_
  refine awp_block ?_
  refine lp_ (fun ((n_1, b_1) : Int × List UInt8) => mk [(0, .val (.int .i64 n_1)), (3, .row 0)] [(0, .row 5 1 (encL e8 b_1))] 1) hg (sub_ []) ?_
  rintro ⟨n_1, b_1⟩ m1 o1 hg hn1
  replace hg : g_ref01_length.l1 n_1 b_1 = some o1 := hg
  show awp _ _ _ _ (mk _ _ _)
  unfold g_ref01_length.l1 at hg
  refine awp_seq ?_
  refine sr_ 1 17 mk_U ?_
  refine go_ ?_
  refine ch_n fun hU => ?_
  refine cg_ rfl hg (fun h7 hg => ?_) fun h7 hg => ?_
  ·refine awp_skip ?_
   repeat first | refine st_ ?_ | refine sn_ ?_
   refine awp_block ?_
   refine sr_ 17 73 hU ?_
   refine go_ ?_
   obtain ⟨q, hq, hg⟩ := bind_some hg
   refine c0_ rfl rfl (r_rem hq) rfl rfl ?_
   refine c0_ rfl rfl (r_conv_u8 und3 und5) rfl rfl ?_
   refine c0_ rfl rfl (r_buildFull sl29 z5 (by decide) rfl rfl rfl rfl ck5 (cs := [.int .u8 ((u8 q).toNat : Int)]) (.cons .int .nil) rfl (l := ([(u8 q)] : List UInt8)) (f := e8) rfl) rfl rfl ?_
   refine go_ ?_
   obtain ⟨l, hl, hg⟩ := bind_some hg
   refine ch_s (rd := [41, 0]) rfl rfl (r_append sl29 e8_len .row rfl .row rfl hl rfl) rfl rfl ?_
   refine go_ ?_
   refine ch_n fun hU => ?_
   refine awp_region (sys _ _ []) 73 97 hU rfl rfl ?_
   refine go_ ?_
   obtain ⟨q_2, hq_2, hg⟩ := bind_some hg
   refine c0_ rfl rfl (r_quo hq_2) rfl rfl ?_
   refine go_ ?_
   refine ch_n fun hU => ?_
   obtain rfl := Option.some.inj hg
   exact ⟨((q_2, l), m1), Nat.lt_succ_self _, hn1, sub_ [(0, 57)]⟩
  ·refine awp_exit ?_
   repeat first | refine st_ ?_ | refine sn_ ?_
   replace hg := leave hg hn1
   refine sr_ 17 81 hU ?_
   refine go_ ?_
   refine c0_ rfl rfl (r_conv_u8 und3 und5) rfl rfl ?_
   refine c0_ rfl rfl (r_buildFull sl29 z5 (by decide) rfl rfl rfl rfl ck5 (cs := [.int .u8 ((u8 (W (128 + (b_1.length : Int)))).toNat : Int)]) (.cons .int .nil) rfl (l := ([(u8 (W (128 + (b_1.length : Int))))] : List UInt8)) (f := e8) rfl) rfl rfl ?_
   refine go_ ?_
   obtain ⟨l_2, hl_2, hg⟩ := bind_some hg
   refine ch_s (rd := [49, 0]) rfl rfl (r_append sl29 e8_len .row rfl .row rfl hl_2 rfl) rfl rfl ?_
   refine go_ ?_
   refine ch_n fun hU => ?_
   refine aw_r ?_
   obtain rfl := Option.some.inj hg
   exact fin_ [] ⟨rfl, rfl⟩
theorem w_ref01_put_own.F (rec : api_Value → Option ((List UInt8))) (hrec : ∀ (v : api_Value) (r : (List UInt8)), rec v = some r → Fn Tryz.prog 55 0 [.agg (api_Value.dv v)] [] (fun d' b' => d' = .row 0 ∧ b' = [.row 5 1 (encL e8 r)])) (v : api_Value) (r : (List UInt8)) (hg : g_ref01_put.F rec v = some r) : Fn Tryz.prog 55 0 [.agg (api_Value.dv v)] [] (fun d' b' => d' = .row 0 ∧ b' = [.row 5 1 (encL e8 r)]) := by
 unfold g_ref01_put.F at hg
 refine Fn.of Tryz.func55 rfl rfl rfl fun w0 I ρ0 => ?_
 show awp _ ⟨w0, I, ρ0, 0, 0, 34⟩ _ _ _
 refine sr_ 0 16 mk_U ?_
 refine go_ ?_
 refine ch_n fun hU => ?_
 refine sr_ 16 56 hU ?_
 refine c0_ rfl rfl (r_buildFull sl29 z5 (by decide) rfl rfl rfl rfl ck5 (cs := []) .nil rfl (l := ([] : List UInt8)) (f := e8) rfl) rfl rfl ?_
 refine go_ ?_
 obtain ⟨l, hl, hg⟩ := bind_some hg
 refine ch_s (rd := [16]) rfl rfl (r_append sl29 e8_len .row rfl .sl rfl hl rfl) rfl rfl ?_
 refine go_ ?_
 refine ch_n fun hU => ?_
 refine awp_seq ?_
 refine sr_ 56 64 hU ?_
 refine go_ ?_
 refine ch_n fun hU => ?_
 refine awp_block ?_
 refine lp_ (fun ((i_1, b_1) : Int × List UInt8) => mk [(1, .ptr 0 0), (3, .row 1), (4, .val (.int .i64 i_1))] [(0, .box (api_Value.dv v) 50), (1, .row 5 1 (encL e8 b_1))] 2) hg (sub_ [(0, 0), (1, 40)]) ?_
 rintro ⟨i_1, b_1⟩ m1 o1 hg hn1
 replace hg : g_ref01_put.l1 rec v i_1 b_1 = some o1 := hg
 show awp _ _ _ _ (mk _ _ _)
 unfold g_ref01_put.l1 at hg
 refine awp_seq ?_
 refine sr_ 2 42 mk_U ?_
 refine go_ ?_
 refine ch_n fun hU => ?_
 refine cg_ rfl hg (fun h5 hg => ?_) fun h5 hg => ?_
 ·refine awp_skip ?_
  repeat first | refine st_ ?_ | refine sn_ ?_
  refine awp_seq ?_
  refine awp_block ?_
  refine awp_region (sys _ _ []) 42 114 hU rfl rfl ?_
  refine go_ ?_
  obtain ⟨e, he, hg⟩ := bind_some hg
  refine go_ ?_
  refine c0_ rfl rfl (r_loadEA ty50 (enc_cells api_Value.enc_len (getI_at he) (o := 0) (m := 4) (cs := [.int .i64 e.Tag, .sl 1 (encL e8 e.Bytes), .bool e.Nested, .sl 4 (encL api_Value.enc e.Elements)]) (by simp only [api_Value.enc_eq]; rfl) (by decide) rfl) (enc_cells_le api_Value.enc_len (getI_at he) (o := 0) (m := 4) (by decide) rfl)) rfl rfl ?_
  obtain ⟨y, hy, hg⟩ := bind_some hg
  refine ch_call (rd := []) (ps := []) (gs := []) false rfl (hrec _ _ hy) rfl rfl (.cons (.agg (.cons .val (.cons .sl (.cons .val (.cons .sl .nil))))) .nil) rfl rfl (by intro h; cases h) rfl (by intro h; first | (cases h; done) | exact ⟨_, _, ⟨rfl, rfl⟩, by simp, by simp⟩) ?_
  rintro _ _ ⟨rfl, rfl⟩
  obtain ⟨l_2, hl_2, hg⟩ := bind_some hg
  refine ch_s (rd := [1, 90]) rfl rfl (r_append sl29 e8_len .row rfl .row rfl hl_2 rfl) rfl rfl ?_
  refine go_ ?_
  refine ch_n fun hU => ?_
  refine awp_region (sys _ _ []) 114 138 hU rfl rfl ?_
  refine go_ ?_
  refine ch_n fun hU => ?_
  obtain rfl := Option.some.inj hg
  exact ⟨((W (i_1 + 1), l_2), m1), Nat.lt_succ_self _, hn1, sub_ [(0, 0), (1, 98)]⟩
 ·refine awp_exit ?_
  repeat first | refine st_ ?_ | refine sn_ ?_
  replace hg := leave hg hn1
  refine awp_seq ?_
  refine awp_draw (sys _ _ []) (by kernel_rfl) [0, 1, 3, 7, 0, 16, 48, 127, 0, 511, 1023] 42 130 hU rfl rfl (by kernel_rfl) ?_
  refine go_ ?_
  refine c0_ rfl rfl (r_conv_u8 und3 und5) rfl rfl ?_
  refine c0_ rfl rfl (r_buildFull sl29 z5 (by decide) rfl rfl rfl rfl ck5 (cs := [.int .u8 ((u8 v.Tag).toNat : Int)]) (.cons .int .nil) rfl (l := ([(u8 v.Tag)] : List UInt8)) (f := e8) rfl) rfl rfl ?_
  refine go_ ?_
  obtain ⟨y_2, hy_2, hg⟩ := bind_some hg
  refine ca_ (w_ref01_length _ _ hy_2) ?_
  obtain ⟨l_3, hl_3, hg⟩ := bind_some hg
  refine ch_s (rd := [66]) rfl rfl (r_append sl29 e8_len .row rfl .sl rfl hl_3 rfl) rfl rfl ?_
  refine go_ ?_
  obtain ⟨l_4, hl_4, hg⟩ := bind_some hg
  refine ch_s (rd := [98, 1]) rfl rfl (r_append sl29 e8_len .row rfl .row rfl hl_4 rfl) rfl rfl ?_
  refine go_ ?_
  refine ch_n fun hU => ?_
  refine aw_r ?_
  obtain rfl := Option.some.inj hg
  exact fin_ [(0, 114)] ⟨rfl, rfl⟩
theorem w_ref01_put_own (v : api_Value) (r : (List UInt8)) (hg : g_ref01_put v = some r) : Fn Tryz.prog 55 0 [.agg (api_Value.dv v)] [] (fun d' b' => d' = .row 0 ∧ b' = [.row 5 1 (encL e8 r)]) :=
 fixT_ind (motive := fun (x : api_Value) (r : (List UInt8)) => Fn Tryz.prog 55 0 [.agg (api_Value.dv x)] [] (fun d' b' => d' = .row 0 ∧ b' = [.row 5 1 (encL e8 r)])) (fun rec hrec x r h => w_ref01_put_own.F _ (fun v r h => hrec v r h) x r h) v r hg
theorem w_ref01_Encode_own (v : api_Value) (r : (List UInt8) × Int) (hg : g_ref01_Encode v = some r) : Fn Tryz.prog 25 0 [.agg (api_Value.dv v)] [] (fun d' b' => d' = .tup [.row 0, .val (.int .i64 r.2)] ∧ b' = [.row 5 1 (encL e8 r.1)]) := by
 unfold g_ref01_Encode at hg
 refine Fn.of Tryz.func25 rfl rfl rfl fun w0 I ρ0 => ?_
 show awp _ ⟨w0, I, ρ0, 0, 0, 17⟩ _ _ _
 refine sr_ 0 24 mk_U ?_
 refine go_ ?_
 refine ch_n fun hU => ?_
 refine awp_seq ?_
 refine sr_ 24 48 hU ?_
 refine go_ ?_
 obtain ⟨y, hy, hg⟩ := bind_some hg
 refine ca_ (w_ref01_formed _ _ hy) ?_
 refine go_ ?_
 refine ch_n fun hU => ?_
 refine cg_ rfl hg (fun h3 hg => ?_) fun h3 hg => ?_
 ·refine awp_seq ?_
  refine awp_region (sys _ _ []) 48 64 hU rfl rfl ?_
  refine go_ ?_
  refine ch_n fun hU => ?_
  refine aw_r ?_
  obtain rfl := Option.some.inj hg
  exact fin_ [] ⟨rfl, rfl⟩
 ·refine awp_skip ?_
  repeat first | refine st_ ?_ | refine sn_ ?_
  refine awp_seq ?_
  refine sr_ 48 72 hU ?_
  refine go_ ?_
  obtain ⟨y_2, hy_2, hg⟩ := bind_some hg
  refine ca_ (w_ref01_depth _ _ hy_2) ?_
  refine go_ ?_
  refine ch_n fun hU => ?_
  refine cg_ rfl hg (fun h6 hg => ?_) fun h6 hg => ?_
  ·refine awp_seq ?_
   refine awp_region (sys _ _ []) 72 88 hU rfl rfl ?_
   refine go_ ?_
   refine ch_n fun hU => ?_
   refine aw_r ?_
   obtain rfl := Option.some.inj hg
   exact fin_ [] ⟨rfl, rfl⟩
  ·refine awp_skip ?_
   repeat first | refine st_ ?_ | refine sn_ ?_
   refine sr_ 72 96 hU ?_
   refine go_ ?_
   obtain ⟨y_3, hy_3, hg⟩ := bind_some hg
   refine ch_call (rd := []) (ps := []) (gs := []) false rfl (w_ref01_put_own _ _ hy_3) rfl rfl (.cons (.agg (.cons .val (.cons .sl (.cons .val (.cons .sl .nil))))) .nil) rfl rfl (by intro h; cases h) rfl (by intro h; first | (cases h; done) | exact ⟨_, _, ⟨rfl, rfl⟩, by simp, by simp⟩) ?_
   rintro _ _ ⟨rfl, rfl⟩
   refine go_ ?_
   refine ch_n fun hU => ?_
   refine awp_seq ?_
   refine sr_ 96 120 hU ?_
   refine go_ ?_
   refine ch_n fun hU => ?_
   refine cg_ rfl hg (fun h10 hg => ?_) fun h10 hg => ?_
   ·refine awp_seq ?_
    refine awp_region (sys _ _ []) 120 136 hU rfl rfl ?_
    refine go_ ?_
    refine ch_n fun hU => ?_
    refine aw_r ?_
    obtain rfl := Option.some.inj hg
    exact fin_ [] ⟨rfl, rfl⟩
   ·refine awp_skip ?_
    repeat first | refine st_ ?_ | refine sn_ ?_
    refine sr_ 120 144 hU ?_
    refine go_ ?_
    refine ch_n fun hU => ?_
    refine aw_r ?_
    obtain rfl := Option.some.inj hg
    exact fin_ [(0, 80)] ⟨rfl, rfl⟩
theorem w_ref03_Bytes (c : api_Certificate) (r : (List UInt8) × Int) (hg : g_ref03_Bytes c = some r) : Fn Tryz.prog 115 0 [.agg (api_Certificate.dv c)] [] (fun d' b' => d' = .tup [.sl 1 (encL e8 r.1), .val (.int .i64 r.2)] ∧ b' = []) := by
 unfold g_ref03_Bytes at hg
 refine Fn.of Tryz.func115 rfl rfl rfl fun w0 I ρ0 => ?_
 show awp _ ⟨w0, I, ρ0, 0, 0, 12⟩ _ _ _
 refine sr_ 0 24 mk_U ?_
 refine go_ ?_
 refine ch_n fun hU => ?_
 refine awp_seq ?_
 refine sr_ 24 48 hU ?_
 refine go_ ?_
 obtain ⟨y, hy, hg⟩ := bind_some hg
 refine ca_ (w_ref03_Check _ _ hy) ?_
 refine go_ ?_
 refine ch_n fun hU => ?_
 refine cg_ rfl hg (fun h3 hg => ?_) fun h3 hg => ?_
 ·refine awp_seq ?_
  refine awp_region (sys _ _ []) 48 64 hU rfl rfl ?_
  refine go_ ?_
  refine ch_n fun hU => ?_
  refine aw_r ?_
  obtain rfl := Option.some.inj hg
  exact fin_ [] ⟨rfl, rfl⟩
 ·refine awp_skip ?_
  repeat first | refine st_ ?_ | refine sn_ ?_
  refine sr_ 48 104 hU ?_
  refine go_ ?_
  obtain ⟨y_2, hy_2, hg⟩ := bind_some hg
  refine ca_ (w_ref03_body _ _ hy_2) ?_
  obtain ⟨y_3, hy_3, hg⟩ := bind_some hg
  refine ch_call (rd := []) (ps := []) (gs := []) false rfl (w_ref01_Encode_own _ _ hy_3) rfl rfl (.cons (.agg (.cons .val (.cons .sl (.cons .val (.cons .sl .nil))))) .nil) rfl rfl (by intro h; cases h) rfl (by intro h; first | (cases h; done) | exact ⟨_, _, ⟨rfl, rfl⟩, by simp, by simp⟩) ?_
  rintro _ _ ⟨rfl, rfl⟩
  refine go_ ?_
  refine ch_n fun hU => ?_
  refine aw_r ?_
  obtain rfl := Option.some.inj hg
  exact fin_ [] ⟨rfl, rfl⟩
theorem w_ref03_Sum (b : (List UInt8)) (r : Int) (hg : g_ref03_Sum b = some r) : Fn Tryz.prog 116 0 [.sl 1 (encL e8 b)] [] (fun d' b' => d' = .val (.int .i64 r) ∧ b' = []) := by
 unfold g_ref03_Sum at hg
 refine Fn.of Tryz.func116 rfl rfl rfl fun w0 I ρ0 => ?_
 show awp _ ⟨w0, I, ρ0, 0, 0, 21⟩ _ _ _
 refine sr_ 0 8 mk_U ?_
 refine go_ ?_
 refine ch_n fun hU => ?_
 refine sr_ 8 16 hU ?_
 refine go_ ?_
 refine ch_n fun hU => ?_
 refine awp_seq ?_
 refine sr_ 16 24 hU ?_
 refine go_ ?_
 refine ch_n fun hU => ?_
 refine awp_block ?_
 refine lp_ (fun ((h_1, i_1) : Int × Int) => mk [(0, .sl 1 (encL e8 b)), (3, .val (.int .u32 h_1)), (4, .val (.int .i64 i_1))] [] 0) hg (sub_ []) ?_
 rintro ⟨h_1, i_1⟩ m1 o1 hg hn1
 replace hg : g_ref03_Sum.l1 b h_1 i_1 = some o1 := hg
 show awp _ _ _ _ (mk _ _ _)
 unfold g_ref03_Sum.l1 at hg
 refine awp_seq ?_
 refine sr_ 0 32 mk_U ?_
 refine go_ ?_
 refine ch_n fun hU => ?_
 refine cg_ rfl hg (fun h5 hg => ?_) fun h5 hg => ?_
 ·refine awp_skip ?_
  repeat first | refine st_ ?_ | refine sn_ ?_
  refine awp_seq ?_
  refine awp_block ?_
  refine awp_region (sys _ _ []) 32 104 hU rfl rfl ?_
  refine go_ ?_
  obtain ⟨e, he, hg⟩ := bind_some hg
  refine go_ ?_
  refine c0_ rfl rfl (r_loadE1 ty5 (enc_cell e8_len (getI_at he) (o := 0) (c := .int .u8 (e.toNat : Int)) rfl rfl)) rfl rfl ?_
  refine c0_ rfl rfl (r_convK und5 und153) rfl rfl ?_
  refine c0_ rfl rfl r_xorK rfl rfl ?_
  refine c0_ rfl rfl r_mulK rfl rfl ?_
  refine go_ ?_
  refine ch_n fun hU => ?_
  refine awp_region (sys _ _ []) 104 128 hU rfl rfl ?_
  refine go_ ?_
  refine ch_n fun hU => ?_
  obtain rfl := Option.some.inj hg
  exact ⟨((IntKind.wrap .u32 ((xorK .u32 h_1 (IntKind.wrap .u32 (e.toNat : Int))) * 16777619), W (i_1 + 1)), m1), Nat.lt_succ_self _, hn1, sub_ []⟩
 ·refine awp_exit ?_
  repeat first | refine st_ ?_ | refine sn_ ?_
  replace hg := leave hg hn1
  refine sr_ 32 56 hU ?_
  refine go_ ?_
  refine c0_ rfl rfl (r_conv_i64 und153 und3) rfl rfl ?_
  refine go_ ?_
  refine ch_n fun hU => ?_
  refine aw_r ?_
  obtain rfl := Option.some.inj hg
  exact fin_ [] ⟨rfl, rfl⟩
theorem w_ref03_Sign (c : api_Certificate) (key : Int) (r : api_Certificate × Int) (hg : g_ref03_Sign c key = some r) : Fn Tryz.prog 70 0 [.agg (api_Certificate.dv c), .val (.int .i64 key)] [] (fun d' b' => d' = .tup [.agg (api_Certificate.dv r.1), .val (.int .i64 r.2)] ∧ b' = []) := by
 unfold g_ref03_Sign at hg
 refine Fn.of Tryz.func70 rfl rfl rfl fun w0 I ρ0 => ?_
 show awp _ ⟨w0, I, ρ0, 0, 0, 35⟩ _ _ _
 refine sr_ 0 24 mk_U ?_
 refine go_ ?_
 refine ch_n fun hU => ?_
 refine sr_ 24 48 hU ?_
 refine go_ ?_
 obtain ⟨y, hy, hg⟩ := bind_some hg
 refine ca_ (w_ref03_Copy _ _ hy) ?_
 refine go_ ?_
 refine ch_n fun hU => ?_
 refine sr_ 48 72 hU ?_
 refine c0_ rfl rfl (.build (r := [.val (.int .i64 0), .val (.int .i64 0)]) und66 pl66 z66 (by kernel_rfl) rfl) rfl rfl ?_
 refine go_ ?_
 refine ch_n fun hU => ?_
 refine awp_seq ?_
 refine awp_cut (ι := Bool) (fun (x22_1 : Bool) => mk [(1, .val (.int .i64 key)), (2, .ptr 0 0), (4, .ptr 1 0), (22, .val (.bool x22_1))] [(0, .box [.val (.int .i64 y.Serial), .val (.string y.Issuer), .val (.string y.Subject), .val (.int .i64 y.Key.Alg), .val (.int .i64 y.Key.Bits), .val (.int .i64 y.KeyId), .val (.int .i64 y.Hash.Alg), .val (.int .i64 y.Hash.Bits), .val (.int .i64 y.From), .val (.int .i64 y.To), .val (.bool y.Authority), .val (.int .i64 y.Path), .sl 1 (encL eS y.Names), .val (.int .i64 0), .val (.int .i64 0)] 68), (1, .box [.val (.int .i64 0), .val (.string (⟨#[]⟩ : ByteArray)), .val (.string (⟨#[]⟩ : ByteArray)), .val (.int .i64 0), .val (.int .i64 0), .val (.int .i64 0), .val (.int .i64 0), .val (.int .i64 0), .val (.int .i64 0), .val (.int .i64 0), .val (.bool false), .val (.int .i64 0), .val (.slice none 0 0), .val (.int .i64 0), .val (.int .i64 0)] 68)] 2) (fun (x22_1 : Bool) => g_ref03_Sign.j1 key y x22_1 = some r) ?_ ?_
 ·refine awp_region (sys _ _ []) 72 160 hU rfl rfl ?_
  refine go_ ?_
  obtain ⟨y_2, hy_2, hg⟩ := bind_some hg
  refine ca_ (w_ref03_Check _ _ hy_2) ?_
  refine go_ ?_
  rcases bc_ hg with ⟨h4, hg⟩ | ⟨h4, hg⟩
  ·refine go_ ?_
   refine ch_n fun hU => ?_
   exact ⟨true, hg, sub_ [(0, 0), (1, 8)]⟩
  ·refine go_ ?_
   rcases bc_ hg with ⟨h6, hg⟩ | ⟨h6, hg⟩
   ·refine go_ ?_
    refine ch_n fun hU => ?_
    exact ⟨true, hg, sub_ [(0, 0), (1, 8)]⟩
   ·refine go_ ?_
    refine ch_n fun hU => ?_
    exact ⟨decide (2147483648 < key), hg, sub_ [(0, 0), (1, 8)]⟩
 ·rintro x22_1 hg
  replace hg : g_ref03_Sign.j1 key y x22_1 = some r := hg
  show awp _ _ _ _ (mk _ _ _)
  unfold g_ref03_Sign.j1 at hg
  refine cg_ rfl hg (fun h9 hg => ?_) fun h9 hg => ?_
  ·refine awp_seq ?_
   refine awp_region (sys _ _ []) 2 26 mk_U rfl rfl ?_
   refine c0_ rfl rfl (.build (r := [.val (.int .i64 0), .val (.string (⟨#[]⟩ : ByteArray)), .val (.string (⟨#[]⟩ : ByteArray)), .val (.int .i64 0), .val (.int .i64 0), .val (.int .i64 0), .val (.int .i64 0), .val (.int .i64 0), .val (.int .i64 0), .val (.int .i64 0), .val (.bool false), .val (.int .i64 0), .val (.slice none 0 0), .val (.int .i64 0), .val (.int .i64 0)]) und68 pl68 z68 (by kernel_rfl) rfl) rfl rfl ?_
   refine go_ ?_
   refine ch_n fun hU => ?_
   refine aw_r ?_
   obtain rfl := Option.some.inj hg
   exact fin_ [] ⟨rfl, rfl⟩
  ·refine awp_skip ?_
   repeat first | refine st_ ?_ | refine sn_ ?_
   refine sr_ 2 58 mk_U ?_
   refine go_ ?_
   obtain ⟨y_3, hy_3, hg⟩ := bind_some hg
   refine ca_ (w_ref03_Bytes _ _ hy_3) ?_
   refine go_ ?_
   refine ch_n fun hU => ?_
   refine sr_ 58 106 hU ?_
   refine go_ ?_
   obtain ⟨y_4, hy_4, hg⟩ := bind_some hg
   refine ca_ (w_ref03_Sum _ _ hy_4) ?_
   refine c0_ rfl rfl (.build (r := [.val (.int .i64 key), .val (.int .i64 y_4)]) und66 pl66 z66 (by kernel_rfl) rfl) rfl rfl ?_
   refine go_ ?_
   refine ch_n fun hU => ?_
   refine sr_ 106 130 hU ?_
   refine go_ ?_
   refine ch_n fun hU => ?_
   refine aw_r ?_
   obtain rfl := Option.some.inj hg
   exact fin_ [] ⟨rfl, rfl⟩
theorem w_make_Certificate (d : cipherplanmake_Dice) (issuer : ByteArray) (subject : ByteArray) (key : api_Use) (id : Int) (signer : Int) (authority : Bool) (r : api_Certificate × cipherplanmake_Dice) (hg : g_make_Certificate d issuer subject key id signer authority = some r) : Fn Tryz.prog 31 1 [.ptr 0 0, .val (.string issuer), .val (.string subject), .agg [.val (.int .i64 key.Alg), .val (.int .i64 key.Bits)], .val (.int .i64 id), .val (.int .i64 signer), .val (.bool authority)] [.box [.sl 1 (encL eI d.L), .val (.int .i64 d.At)] 60] (fun d' b' => d' = .agg (api_Certificate.dv r.1) ∧ b' = [.box [.sl 1 (encL eI r.2.L), .val (.int .i64 r.2.At)] 60]) := by
 unfold g_make_Certificate at hg
 refine Fn.of Tryz.func31 rfl rfl rfl fun w0 I ρ0 => ?_
 show awp _ ⟨w0, I, ρ0, 1, 1, 58⟩ _ _ _
 refine sr_ 1 17 mk_U ?_
 refine go_ ?_
 refine ch_n fun hU => ?_
 refine awp_seq ?_
 refine awp_draw (sys _ _ [73, 105, 129]) (by kernel_rfl) [0, 1, 0, 0, 0, 0, 0, 0, 195, 451, 0, 0, 3523, 0, 0, 32195, 0, 131071, 0, 524287] 17 177 hU rfl rfl (by kernel_rfl) ?_
 refine go_ ?_
 obtain ⟨y, hy, hg⟩ := bind_some hg
 refine cb_ [0] [0] [] false (w_make_Dice_Next _ _ _ hy) ?_
 refine go_ ?_
 refine ch_z (rd := []) rfl rfl (r_buildFull sl22 z3 (by decide) rfl rfl rfl rfl ck3 (cs := [.int .i64 3, .int .i64 2, .int .i64 4, .int .i64 1]) (.cons .int (.cons .int (.cons .int (.cons .int .nil)))) rfl (l := ([3, 2, 4, 1] : List Int)) (f := eI) rfl) rfl rfl rfl ?_
 obtain ⟨y_2, hy_2, hg⟩ := bind_some hg
 refine cb_ [0] [0] [] false (w_make_Dice_Of _ _ _ hy_2) ?_
 refine c0_ rfl rfl (.build (r := [.val (.int .i64 y_2.1), .val (.int .i64 0)]) und37 pl37 z37 (by kernel_rfl) rfl) rfl rfl ?_
 refine go_ ?_
 refine ch_z (rd := []) rfl rfl (r_buildFull sl22 z3 (by decide) rfl rfl rfl rfl ck3 (cs := [.int .i64 0, .int .i64 5, .int .i64 10]) (.cons .int (.cons .int (.cons .int .nil))) rfl (l := ([0, 5, 10] : List Int)) (f := eI) rfl) rfl rfl rfl ?_
 obtain ⟨y_3, hy_3, hg⟩ := bind_some hg
 refine cb_ [0] [0] [] false (w_make_Dice_Of _ _ _ hy_3) ?_
 refine go_ ?_
 refine ch_z (rd := []) rfl rfl (r_buildFull sl22 z3 (by decide) rfl rfl rfl rfl ck3 (cs := [.int .i64 1000, .int .i64 100, .int .i64 50, .int .i64 20]) (.cons .int (.cons .int (.cons .int (.cons .int .nil)))) rfl (l := ([1000, 100, 50, 20] : List Int)) (f := eI) rfl) rfl rfl rfl ?_
 obtain ⟨y_4, hy_4, hg⟩ := bind_some hg
 refine cb_ [0] [0] [] false (w_make_Dice_Of _ _ _ hy_4) ?_
 refine go_ ?_
 refine c0_ rfl rfl (.build (r := [.val (.int .i64 y.1), .val (.string issuer), .val (.string subject), .val (.int .i64 key.Alg), .val (.int .i64 key.Bits), .val (.int .i64 id), .val (.int .i64 y_2.1), .val (.int .i64 0), .val (.int .i64 y_3.1), .val (.int .i64 y_4.1), .val (.bool authority), .val (.int .i64 0), .val (.slice none 0 0), .val (.int .i64 0), .val (.int .i64 0)]) und68 pl68 z68 (by kernel_rfl) rfl) rfl rfl ?_
 refine go_ ?_
 refine ch_n fun hU => ?_
 refine awp_cut (ι := cipherplanmake_Dice × Int) (fun ((d_1, c_1) : cipherplanmake_Dice × Int) => mk [(0, .ptr 0 0), (2, .val (.string subject)), (5, .val (.int .i64 signer)), (14, .ptr 1 0), (15, .ptr 2 0)] [(0, .box [.sl 1 (encL eI d_1.L), .val (.int .i64 d_1.At)] 60), (1, .box [.val (.int .i64 0), .val (.string (⟨#[]⟩ : ByteArray)), .val (.string (⟨#[]⟩ : ByteArray)), .val (.int .i64 0), .val (.int .i64 0), .val (.int .i64 0), .val (.int .i64 0), .val (.int .i64 0), .val (.int .i64 0), .val (.int .i64 0), .val (.bool false), .val (.int .i64 0), .val (.slice none 0 0), .val (.int .i64 0), .val (.int .i64 0)] 68), (2, .box [.val (.int .i64 y.1), .val (.string issuer), .val (.string subject), .val (.int .i64 key.Alg), .val (.int .i64 key.Bits), .val (.int .i64 id), .val (.int .i64 y_2.1), .val (.int .i64 0), .val (.int .i64 y_3.1), .val (.int .i64 y_4.1), .val (.bool authority), .val (.int .i64 c_1), .val (.slice none 0 0), .val (.int .i64 0), .val (.int .i64 0)] 68)] 3) (fun ((d_1, c_1) : cipherplanmake_Dice × Int) => g_make_Certificate.j1 issuer subject key id signer authority y y_2 y_3 y_4 d_1 c_1 = some r) ?_ ?_
 ·refine awp_seq ?_
  refine awp_region (sys _ _ []) 177 185 hU rfl rfl ?_
  refine go_ ?_
  refine ch_n fun hU => ?_
  refine cg_ rfl hg (fun h4 hg => ?_) fun h4 hg => ?_
  ·refine awp_region (sys _ _ [193]) 185 225 hU rfl rfl ?_
   refine go_ ?_
   refine ch_z (rd := []) rfl rfl (r_buildFull sl22 z3 (by decide) rfl rfl rfl rfl ck3 (cs := [.int .i64 3, .int .i64 0, .int .i64 1]) (.cons .int (.cons .int (.cons .int .nil))) rfl (l := ([3, 0, 1] : List Int)) (f := eI) rfl) rfl rfl rfl ?_
   obtain ⟨y_5, hy_5, hg⟩ := bind_some hg
   refine cb_ [0] [0] [] false (w_make_Dice_Of _ _ _ hy_5) ?_
   refine go_ ?_
   refine ch_n fun hU => ?_
   exact ⟨(y_5.2, y_5.1), hg, sub_ [(0, 0), (1, 9), (2, 161)]⟩
  ·refine awp_skip ?_
   repeat first | refine st_ ?_ | refine sn_ ?_
   exact ⟨(y_4.2, 0), hg, sub_ [(0, 0), (1, 9), (2, 161)]⟩
 ·rintro ⟨d_1, c_1⟩ hg
  replace hg : g_make_Certificate.j1 issuer subject key id signer authority y y_2 y_3 y_4 d_1 c_1 = some r := hg
  show awp _ _ _ _ (mk _ _ _)
  unfold g_make_Certificate.j1 at hg
  refine sr_ 3 35 mk_U ?_
  refine go_ ?_
  refine c0_ rfl rfl (r_buildFull sl64 z9 (by decide) rfl rfl rfl rfl ck9 (cs := [.str subject]) (.cons .str .nil) rfl (l := ([subject] : List ByteArray)) (f := eS) rfl) rfl rfl ?_
  refine go_ ?_
  refine ch_n fun hU => ?_
  refine awp_cut (ι := cipherplanmake_Dice × List ByteArray) (fun ((b_2, l_2) : cipherplanmake_Dice × List ByteArray) => mk [(5, .val (.int .i64 signer)), (14, .ptr 1 0), (15, .ptr 2 0)] [(0, .box [.sl 1 (encL eI b_2.L), .val (.int .i64 b_2.At)] 60), (1, .box [.val (.int .i64 0), .val (.string (⟨#[]⟩ : ByteArray)), .val (.string (⟨#[]⟩ : ByteArray)), .val (.int .i64 0), .val (.int .i64 0), .val (.int .i64 0), .val (.int .i64 0), .val (.int .i64 0), .val (.int .i64 0), .val (.int .i64 0), .val (.bool false), .val (.int .i64 0), .val (.slice none 0 0), .val (.int .i64 0), .val (.int .i64 0)] 68), (2, .box [.val (.int .i64 y.1), .val (.string issuer), .val (.string subject), .val (.int .i64 key.Alg), .val (.int .i64 key.Bits), .val (.int .i64 id), .val (.int .i64 y_2.1), .val (.int .i64 0), .val (.int .i64 y_3.1), .val (.int .i64 y_4.1), .val (.bool authority), .val (.int .i64 c_1), .row 3, .val (.int .i64 0), .val (.int .i64 0)] 68), (3, .row 9 1 (encL eS l_2))] 4) (fun ((b_2, l_2) : cipherplanmake_Dice × List ByteArray) => g_make_Certificate.j2 issuer subject key id signer authority y y_2 y_3 y_4 c_1 b_2 l_2 = some r) ?_ ?_
  ·refine awp_seq ?_
   refine awp_region (sys _ _ []) 35 51 hU rfl rfl ?_
   refine go_ ?_
   obtain ⟨y_6, hy_6, hg⟩ := bind_some hg
   refine cb_ [0] [0] [] false (w_make_Dice_One _ _ _ hy_6) ?_
   refine ch_n fun hU => ?_
   refine cg_ rfl hg (fun h8 hg => ?_) fun h8 hg => ?_
   ·refine awp_region (sys _ _ []) 51 115 hU rfl rfl ?_
    refine go_ ?_
    obtain ⟨s, hs, hg⟩ := bind_some hg
    refine c0_ rfl rfl (r_cat hs) rfl rfl ?_
    refine c0_ rfl rfl (r_buildFull sl64 z9 (by decide) rfl rfl rfl rfl ck9 (cs := [.str s]) (.cons .str .nil) rfl (l := ([s] : List ByteArray)) (f := eS) rfl) rfl rfl ?_
    obtain ⟨l, hl, hg⟩ := bind_some hg
    refine ch_s (rd := [11, 83]) rfl rfl (r_append sl64 eS_len .row rfl .row rfl hl rfl) rfl rfl ?_
    refine go_ ?_
    refine ch_n fun hU => ?_
    exact ⟨(y_6.2, l), hg, sub_ [(0, 0), (1, 1), (2, 2), (3, 91)]⟩
   ·refine awp_skip ?_
    repeat first | refine st_ ?_ | refine sn_ ?_
    exact ⟨(y_6.2, ([subject] : List ByteArray)), hg, sub_ [(0, 0), (1, 1), (2, 2), (3, 11)]⟩
  ·rintro ⟨b_2, l_2⟩ hg
   replace hg : g_make_Certificate.j2 issuer subject key id signer authority y y_2 y_3 y_4 c_1 b_2 l_2 = some r := hg
   show awp _ _ _ _ (mk _ _ _)
   unfold g_make_Certificate.j2 at hg
   refine awp_seq ?_
   refine awp_sub (σ' := mk [(5, .val (.int .i64 signer)), (14, .ptr 1 0), (15, .ptr 2 0)] [(0, .box [.sl 1 (encL eI b_2.L), .val (.int .i64 b_2.At)] 60), (1, .box [.val (.int .i64 0), .val (.string (⟨#[]⟩ : ByteArray)), .val (.string (⟨#[]⟩ : ByteArray)), .val (.int .i64 0), .val (.int .i64 0), .val (.int .i64 0), .val (.int .i64 0), .val (.int .i64 0), .val (.int .i64 0), .val (.int .i64 0), .val (.bool false), .val (.int .i64 0), .val (.slice none 0 0), .val (.int .i64 0), .val (.int .i64 0)] 68), (2, .box [.val (.int .i64 y.1), .val (.string issuer), .val (.string subject), .val (.int .i64 key.Alg), .val (.int .i64 key.Bits), .val (.int .i64 id), .val (.int .i64 y_2.1), .val (.int .i64 0), .val (.int .i64 y_3.1), .val (.int .i64 y_4.1), .val (.bool authority), .val (.int .i64 c_1), .sl 1 (encL eS l_2), .val (.int .i64 0), .val (.int .i64 0)] 68)] 3) (sub_ [(0, 0), (1, 1), (2, 2)]) ?_
   refine awp_region (sys _ _ []) 3 59 mk_U rfl rfl ?_
   refine go_ ?_
   obtain ⟨y_7, hy_7, hg⟩ := bind_some hg
   refine ca_ (w_ref03_Sign _ _ _ hy_7) ?_
   refine go_ ?_
   refine ch_n fun hU => ?_
   refine sr_ 59 75 hU ?_
   refine go_ ?_
   refine ch_n fun hU => ?_
   refine aw_r ?_
   obtain rfl := Option.some.inj hg
   exact fin_ [(0, 0)] ⟨rfl, rfl⟩
end Go.Proofs.YtbeageaekgccgaaGreat
