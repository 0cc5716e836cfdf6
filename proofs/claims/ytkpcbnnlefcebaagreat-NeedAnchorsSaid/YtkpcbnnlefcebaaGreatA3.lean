/- The program computes the plain functions. -/
import Derived.Test.YtkpcbnnlefcebaaGreatT1
import Derived.Test.YtkpcbnnlefcebaaGreatA1
import Derived.Test.YtkpcbnnlefcebaaGreatA2
set_option linter.unusedVariables false
set_option linter.unusedSimpArgs false
set_option maxRecDepth 100000
set_option maxHeartbeats 1600000
namespace Go.Proofs.YtkpcbnnlefcebaaGreat
open Go.RowKit
theorem w_ref01_copies.F (rec : (List api_Value) → Option ((List api_Value))) (hrec : ∀ (l : (List api_Value)) (r : (List api_Value)), rec l = some r → Fn Tryz.prog 143 0 [.sl 4 (encL api_Value.enc l)] [] (fun d' b' => d' = .sl 4 (encL api_Value.enc r) ∧ b' = [])) (l : (List api_Value)) (r : (List api_Value)) (hg : g_ref01_copies.F rec l = some r) : Fn Tryz.prog 143 0 [.sl 4 (encL api_Value.enc l)] [] (fun d' b' => d' = .sl 4 (encL api_Value.enc r) ∧ b' = []) := by
 unfold g_ref01_copies.F at hg
 refine Fn.of Tryz.func143 rfl rfl rfl fun w0 I ρ0 => ?_
 show awp _ ⟨w0, I, ρ0, 0, 0, 30⟩ _ _ _
 refine sr_ 0 8 mk_U ?_
 refine go_ ?_
 refine ch_n fun hU => ?_
 refine sr_ 8 16 hU ?_
 refine go_ ?_
 refine ch_n fun hU => ?_
 refine awp_seq ?_
 refine sr_ 16 24 hU ?_
 refine go_ ?_
 refine ch_n fun hU => ?_
 refine awp_block ?_
 refine lp_ (fun ((i_1, out_1) : Int × List api_Value) => mk [(0, .sl 4 (encL api_Value.enc l)), (3, .row 0), (4, .val (.int .i64 i_1))] [(0, .row 138 4 (encL api_Value.enc out_1))] 1) hg (sub_ []) ?_
 rintro ⟨i_1, out_1⟩ m1 o1 hg hn1
 replace hg : g_ref01_copies.l1 rec l i_1 out_1 = some o1 := hg
 show awp _ _ _ _ (mk _ _ _)
 unfold g_ref01_copies.l1 at hg
 refine awp_seq ?_
 refine sr_ 1 33 mk_U ?_
 refine go_ ?_
 refine ch_n fun hU => ?_
 refine cg_ rfl hg (fun h5 hg => ?_) fun h5 hg => ?_
 ·refine awp_skip ?_
  repeat first | refine st_ ?_ | refine sn_ ?_
  refine awp_seq ?_
  refine awp_block ?_
  refine sr_ 33 81 hU ?_
  refine go_ ?_
  obtain ⟨e, he, hg⟩ := bind_some hg
  refine go_ ?_
  refine c0_ rfl rfl (r_loadEA ty138 (enc_cells api_Value.enc_len (getI_at he) (o := 0) (m := 4) (cs := [.int .i64 e.Tag, .sl 1 (encL e8 e.Bytes), .bool e.Nested, .sl 4 (encL api_Value.enc e.Elements)]) (by simp only [api_Value.enc_eq]; rfl) (by decide) rfl) (enc_cells_le api_Value.enc_len (getI_at he) (o := 0) (m := 4) (by decide) rfl)) rfl rfl ?_
  refine go_ ?_
  refine ch_n fun hU => ?_
  refine sr_ 81 129 hU ?_
  refine c0_ rfl rfl (r_buildFull sl110 z5 (by decide) rfl rfl rfl rfl ck5 (cs := []) .nil rfl (l := ([] : List UInt8)) (f := e8) rfl) rfl rfl ?_
  refine go_ ?_
  obtain ⟨l_2, hl_2, hg⟩ := bind_some hg
  refine ch_s (rd := [81]) rfl rfl (r_append sl110 e8_len .row rfl .sl rfl hl_2 rfl) rfl rfl ?_
  refine go_ ?_
  refine ch_n fun hU => ?_
  refine sr_ 129 169 hU ?_
  refine go_ ?_
  obtain ⟨y, hy, hg⟩ := bind_some hg
  refine ca_ (hrec _ _ hy) ?_
  refine go_ ?_
  refine ch_n fun hU => ?_
  refine awp_sub (σ' := mk [(0, .sl 4 (encL api_Value.enc l)), (3, .row 0), (4, .val (.int .i64 i_1)), (5, .ptr 1 0)] [(0, .row 138 4 (encL api_Value.enc out_1)), (1, .box [.val (.int .i64 e.Tag), .sl 1 (encL e8 l_2), .val (.bool e.Nested), .sl 4 (encL api_Value.enc y)] 138)] 2) (sub_ [(0, 0), (1, 65)]) ?_
  refine awp_region (sys _ _ []) 2 42 mk_U rfl rfl ?_
  refine go_ ?_
  refine c0_ rfl rfl (r_buildFull sl136 z138 (by decide) rfl rfl rfl rfl ck138 (cs := [.int .i64 e.Tag, .sl 1 (encL e8 l_2), .bool e.Nested, .sl 4 (encL api_Value.enc y)]) (.cons .int (.cons .sl (.cons .bool (.cons .sl .nil)))) rfl (l := ([(api_Value.mk e.Tag l_2 e.Nested y)] : List api_Value)) (f := api_Value.enc) (by simp only [encL, List.flatMap_cons, List.flatMap_nil, api_Value.enc_eq]; rfl)) rfl rfl ?_
  obtain ⟨l_3, hl_3, hg⟩ := bind_some hg
  refine ch_s (rd := [0, 18]) rfl rfl (r_append sl136 api_Value.enc_len .row rfl .row rfl hl_3 rfl) rfl rfl ?_
  refine go_ ?_
  refine ch_n fun hU => ?_
  refine awp_region (sys _ _ []) 42 66 hU rfl rfl ?_
  refine go_ ?_
  refine ch_n fun hU => ?_
  obtain rfl := Option.some.inj hg
  exact ⟨((W (i_1 + 1), l_3), m1), Nat.lt_succ_self _, hn1, sub_ [(0, 26)]⟩
 ·refine awp_exit ?_
  repeat first | refine st_ ?_ | refine sn_ ?_
  replace hg := leave hg hn1
  refine sr_ 33 49 hU ?_
  refine go_ ?_
  refine ch_n fun hU => ?_
  refine aw_r ?_
  obtain rfl := Option.some.inj hg
  exact fin_ [] ⟨rfl, rfl⟩
theorem w_ref01_copies (l : (List api_Value)) (r : (List api_Value)) (hg : g_ref01_copies l = some r) : Fn Tryz.prog 143 0 [.sl 4 (encL api_Value.enc l)] [] (fun d' b' => d' = .sl 4 (encL api_Value.enc r) ∧ b' = []) :=
 fixT_ind (motive := fun (x : (List api_Value)) (r : (List api_Value)) => Fn Tryz.prog 143 0 [.sl 4 (encL api_Value.enc x)] [] (fun d' b' => d' = .sl 4 (encL api_Value.enc r) ∧ b' = [])) (fun rec hrec x r h => w_ref01_copies.F _ (fun l r h => hrec l r h) x r h) l r hg
theorem w_ref01_List (l : (List api_Value)) (r : api_Value) (hg : g_ref01_List l = some r) : Fn Tryz.prog 114 0 [.sl 4 (encL api_Value.enc l)] [] (fun d' b' => d' = .agg (api_Value.dv r) ∧ b' = []) := by
 unfold g_ref01_List at hg
 refine Fn.of Tryz.func114 rfl rfl rfl fun w0 I ρ0 => ?_
 show awp _ ⟨w0, I, ρ0, 0, 0, 6⟩ _ _ _
 refine sr_ 0 8 mk_U ?_
 refine go_ ?_
 refine ch_n fun hU => ?_
 refine sr_ 8 40 hU ?_
 refine go_ ?_
 obtain ⟨y, hy, hg⟩ := bind_some hg
 refine ca_ (w_ref01_copies _ _ hy) ?_
 refine c0_ rfl rfl (.build (r := [.val (.int .i64 48), .val (.slice none 0 0), .val (.bool true), .sl 4 (encL api_Value.enc y)]) und138 pl138 z138 (by kernel_rfl) rfl) rfl rfl ?_
 refine go_ ?_
 refine ch_n fun hU => ?_
 refine aw_r ?_
 obtain rfl := Option.some.inj hg
 exact fin_ [] ⟨rfl, rfl⟩
theorem w_ref03_use (u : api_Use) (r : api_Value) (hg : g_ref03_use u = some r) : Fn Tryz.prog 116 0 [.agg [.val (.int .i64 u.Alg), .val (.int .i64 u.Bits)]] [] (fun d' b' => d' = .agg (api_Value.dv r) ∧ b' = []) := by
 unfold g_ref03_use at hg
 refine Fn.of Tryz.func116 rfl rfl rfl fun w0 I ρ0 => ?_
 show awp _ ⟨w0, I, ρ0, 0, 0, 11⟩ _ _ _
 refine sr_ 0 16 mk_U ?_
 refine go_ ?_
 refine ch_n fun hU => ?_
 refine awp_seq ?_
 refine awp_draw (sys _ _ [64]) (by kernel_rfl) [0, 1, 3, 0, 8, 31, 63, 127, 255] 16 88 hU rfl rfl (by kernel_rfl) ?_
 refine go_ ?_
 obtain ⟨y, hy, hg⟩ := bind_some hg
 refine ca_ (w_ref01_Int _ _ hy) ?_
 refine go_ ?_
 obtain ⟨y_2, hy_2, hg⟩ := bind_some hg
 refine ca_ (w_ref01_Int _ _ hy_2) ?_
 refine ch_z (rd := []) rfl rfl (r_buildFull sl136 z138 (by decide) rfl rfl rfl rfl ck138 (cs := [.int .i64 y.Tag, .sl 1 (encL e8 y.Bytes), .bool y.Nested, .sl 4 (encL api_Value.enc y.Elements), .int .i64 y_2.Tag, .sl 1 (encL e8 y_2.Bytes), .bool y_2.Nested, .sl 4 (encL api_Value.enc y_2.Elements)]) (.cons .int (.cons .sl (.cons .bool (.cons .sl (.cons .int (.cons .sl (.cons .bool (.cons .sl .nil)))))))) rfl (l := ([y, y_2] : List api_Value)) (f := api_Value.enc) (by simp only [encL, List.flatMap_cons, List.flatMap_nil, api_Value.enc_eq]; rfl)) rfl rfl rfl ?_
 obtain ⟨y_3, hy_3, hg⟩ := bind_some hg
 refine ca_ (w_ref01_List _ _ hy_3) ?_
 refine go_ ?_
 refine ch_n fun hU => ?_
 refine aw_r ?_
 obtain rfl := Option.some.inj hg
 exact fin_ [] ⟨rfl, rfl⟩
theorem w_ref01_Bool (b : Bool) (r : api_Value) (hg : g_ref01_Bool b = some r) : Fn Tryz.prog 117 0 [.val (.bool b)] [] (fun d' b' => d' = .agg (api_Value.dv r) ∧ b' = []) := by
 unfold g_ref01_Bool at hg
 refine Fn.of Tryz.func117 rfl rfl rfl fun w0 I ρ0 => ?_
 show awp _ ⟨w0, I, ρ0, 0, 0, 8⟩ _ _ _
 refine sr_ 0 8 mk_U ?_
 refine go_ ?_
 refine ch_n fun hU => ?_
 refine awp_seq ?_
 refine sr_ 8 16 hU ?_
 refine go_ ?_
 refine ch_n fun hU => ?_
 refine cg_ rfl hg (fun h3 hg => ?_) fun h3 hg => ?_
 ·refine awp_seq ?_
  refine awp_region (sys _ _ []) 16 40 hU rfl rfl ?_
  refine c0_ rfl rfl (r_buildFull sl110 z5 (by decide) rfl rfl rfl rfl ck5 (cs := [.int .u8 255]) (.cons .int .nil) rfl (l := ([(255 : UInt8)] : List UInt8)) (f := e8) rfl) rfl rfl ?_
  refine c0_ rfl rfl (.build (r := [.val (.int .i64 1), .row 16, .val (.bool false), .val (.slice none 0 0)]) und138 pl138 z138 (by kernel_rfl) rfl) rfl rfl ?_
  refine go_ ?_
  refine ch_n fun hU => ?_
  refine aw_r ?_
  obtain rfl := Option.some.inj hg
  exact fin_ [] ⟨rfl, rfl⟩
 ·refine awp_skip ?_
  repeat first | refine st_ ?_ | refine sn_ ?_
  refine sr_ 16 40 hU ?_
  refine c0_ rfl rfl (r_buildFull sl110 z5 (by decide) rfl rfl rfl rfl ck5 (cs := [.int .u8 0]) (.cons .int .nil) rfl (l := ([(0 : UInt8)] : List UInt8)) (f := e8) rfl) rfl rfl ?_
  refine c0_ rfl rfl (.build (r := [.val (.int .i64 1), .row 16, .val (.bool false), .val (.slice none 0 0)]) und138 pl138 z138 (by kernel_rfl) rfl) rfl rfl ?_
  refine go_ ?_
  refine ch_n fun hU => ?_
  refine aw_r ?_
  obtain rfl := Option.some.inj hg
  exact fin_ [] ⟨rfl, rfl⟩
theorem w_ref03_body (c : api_Certificate) (r : api_Value) (hg : g_ref03_body c = some r) : Fn Tryz.prog 84 0 [.agg (api_Certificate.dv c)] [] (fun d' b' => d' = .agg (api_Value.dv r) ∧ b' = []) := by
 unfold g_ref03_body at hg
 refine Fn.of Tryz.func84 rfl rfl rfl fun w0 I ρ0 => ?_
 show awp _ ⟨w0, I, ρ0, 0, 0, 55⟩ _ _ _
 refine sr_ 0 16 mk_U ?_
 refine go_ ?_
 refine ch_n fun hU => ?_
 refine sr_ 16 24 hU ?_
 refine go_ ?_
 refine ch_n fun hU => ?_
 refine awp_seq ?_
 refine sr_ 24 32 hU ?_
 refine go_ ?_
 refine ch_n fun hU => ?_
 refine awp_block ?_
 refine lp_ (fun ((i_1, names_1) : Int × List api_Value) => mk [(1, .ptr 0 0), (2, .ptr 1 0), (3, .row 2), (4, .val (.int .i64 i_1))] [(0, .box (api_Certificate.dv c) 85), (1, .box [.val (.int .i64 0), .val (.slice none 0 0), .val (.bool false), .val (.slice none 0 0)] 138), (2, .row 138 4 (encL api_Value.enc names_1))] 3) hg (sub_ [(0, 0), (1, 8)]) ?_
 rintro ⟨i_1, names_1⟩ m1 o1 hg hn1
 replace hg : g_ref03_body.l1 c i_1 names_1 = some o1 := hg
 show awp _ _ _ _ (mk _ _ _)
 unfold g_ref03_body.l1 at hg
 refine awp_seq ?_
 refine sr_ 3 43 mk_U ?_
 refine go_ ?_
 refine ch_n fun hU => ?_
 refine cg_ rfl hg (fun h5 hg => ?_) fun h5 hg => ?_
 ·refine awp_skip ?_
  repeat first | refine st_ ?_ | refine sn_ ?_
  refine awp_seq ?_
  refine awp_block ?_
  refine awp_region (sys _ _ []) 43 123 hU rfl rfl ?_
  refine go_ ?_
  obtain ⟨e, he, hg⟩ := bind_some hg
  refine go_ ?_
  refine c0_ rfl rfl (r_loadE1 ty9 (enc_cell eS_len (getI_at he) (o := 0) (c := .str e) rfl rfl)) rfl rfl ?_
  obtain ⟨y, hy, hg⟩ := bind_some hg
  refine ca_ (w_ref01_Text _ _ hy) ?_
  refine c0_ rfl rfl (r_buildFull sl136 z138 (by decide) rfl rfl rfl rfl ck138 (cs := [.int .i64 y.Tag, .sl 1 (encL e8 y.Bytes), .bool y.Nested, .sl 4 (encL api_Value.enc y.Elements)]) (.cons .int (.cons .sl (.cons .bool (.cons .sl .nil)))) rfl (l := ([y] : List api_Value)) (f := api_Value.enc) (by simp only [encL, List.flatMap_cons, List.flatMap_nil, api_Value.enc_eq]; rfl)) rfl rfl ?_
  obtain ⟨l, hl, hg⟩ := bind_some hg
  refine ch_s (rd := [2, 99]) rfl rfl (r_append sl136 api_Value.enc_len .row rfl .row rfl hl rfl) rfl rfl ?_
  refine go_ ?_
  refine ch_n fun hU => ?_
  refine awp_region (sys _ _ []) 123 147 hU rfl rfl ?_
  refine go_ ?_
  refine ch_n fun hU => ?_
  obtain rfl := Option.some.inj hg
  exact ⟨((W (i_1 + 1), l), m1), Nat.lt_succ_self _, hn1, sub_ [(0, 0), (1, 1), (2, 107)]⟩
 ·refine awp_exit ?_
  repeat first | refine st_ ?_ | refine sn_ ?_
  replace hg := leave hg hn1
  refine awp_seq ?_
  refine awp_sub (σ' := mk [(1, .ptr 0 0), (2, .ptr 1 0), (3, .sl 4 (encL api_Value.enc names_1))] [(0, .box (api_Certificate.dv c) 85), (1, .box [.val (.int .i64 0), .val (.slice none 0 0), .val (.bool false), .val (.slice none 0 0)] 138)] 2) (sub_ [(0, 0), (1, 1)]) ?_
  refine awp_draw (sys _ _ [258]) (by kernel_rfl) [0, 1, 3, 0, 8, 31, 0, 64, 255, 0, 512, 2047, 0, 4096, 16383, 0, 32768, 131071, 0, 262144, 1048575, 0, 2097152, 8388607, 0, 16777216, 67108863, 0, 134217728, 536870911, 0, 2147483647, 4294967295, 8589934591, 17179869183] 2 282 mk_U rfl rfl (by kernel_rfl) ?_
  refine go_ ?_
  obtain ⟨y_12, hy_12, hg⟩ := bind_some hg
  refine ca_ (w_ref01_Int _ _ hy_12) ?_
  refine go_ ?_
  obtain ⟨y_13, hy_13, hg⟩ := bind_some hg
  refine ca_ (w_ref01_Text _ _ hy_13) ?_
  refine go_ ?_
  obtain ⟨y_14, hy_14, hg⟩ := bind_some hg
  refine ca_ (w_ref01_Text _ _ hy_14) ?_
  refine go_ ?_
  obtain ⟨y_15, hy_15, hg⟩ := bind_some hg
  refine ca_ (w_ref03_use _ _ hy_15) ?_
  refine go_ ?_
  obtain ⟨y_16, hy_16, hg⟩ := bind_some hg
  refine ca_ (w_ref01_Int _ _ hy_16) ?_
  refine go_ ?_
  obtain ⟨y_17, hy_17, hg⟩ := bind_some hg
  refine ca_ (w_ref03_use _ _ hy_17) ?_
  refine go_ ?_
  obtain ⟨y_18, hy_18, hg⟩ := bind_some hg
  refine ca_ (w_ref01_Int _ _ hy_18) ?_
  refine go_ ?_
  obtain ⟨y_19, hy_19, hg⟩ := bind_some hg
  refine ca_ (w_ref01_Int _ _ hy_19) ?_
  refine go_ ?_
  obtain ⟨y_20, hy_20, hg⟩ := bind_some hg
  refine ca_ (w_ref01_Bool _ _ hy_20) ?_
  refine go_ ?_
  obtain ⟨y_21, hy_21, hg⟩ := bind_some hg
  refine ca_ (w_ref01_Int _ _ hy_21) ?_
  refine go_ ?_
  obtain ⟨y_22, hy_22, hg⟩ := bind_some hg
  refine ca_ (w_ref01_List _ _ hy_22) ?_
  refine ch_z (rd := []) rfl rfl (r_buildFull sl136 z138 (by decide) rfl rfl rfl rfl ck138 (cs := [.int .i64 y_12.Tag, .sl 1 (encL e8 y_12.Bytes), .bool y_12.Nested, .sl 4 (encL api_Value.enc y_12.Elements), .int .i64 y_13.Tag, .sl 1 (encL e8 y_13.Bytes), .bool y_13.Nested, .sl 4 (encL api_Value.enc y_13.Elements), .int .i64 y_14.Tag, .sl 1 (encL e8 y_14.Bytes), .bool y_14.Nested, .sl 4 (encL api_Value.enc y_14.Elements), .int .i64 y_15.Tag, .sl 1 (encL e8 y_15.Bytes), .bool y_15.Nested, .sl 4 (encL api_Value.enc y_15.Elements), .int .i64 y_16.Tag, .sl 1 (encL e8 y_16.Bytes), .bool y_16.Nested, .sl 4 (encL api_Value.enc y_16.Elements), .int .i64 y_17.Tag, .sl 1 (encL e8 y_17.Bytes), .bool y_17.Nested, .sl 4 (encL api_Value.enc y_17.Elements), .int .i64 y_18.Tag, .sl 1 (encL e8 y_18.Bytes), .bool y_18.Nested, .sl 4 (encL api_Value.enc y_18.Elements), .int .i64 y_19.Tag, .sl 1 (encL e8 y_19.Bytes), .bool y_19.Nested, .sl 4 (encL api_Value.enc y_19.Elements), .int .i64 y_20.Tag, .sl 1 (encL e8 y_20.Bytes), .bool y_20.Nested, .sl 4 (encL api_Value.enc y_20.Elements), .int .i64 y_21.Tag, .sl 1 (encL e8 y_21.Bytes), .bool y_21.Nested, .sl 4 (encL api_Value.enc y_21.Elements), .int .i64 y_22.Tag, .sl 1 (encL e8 y_22.Bytes), .bool y_22.Nested, .sl 4 (encL api_Value.enc y_22.Elements)]) (.cons .int (.cons .sl (.cons .bool (.cons .sl (.cons .int (.cons .sl (.cons .bool (.cons .sl (.cons .int (.cons .sl (.cons .bool (.cons .sl (.cons .int (.cons .sl (.cons .bool (.cons .sl (.cons .int (.cons .sl (.cons .bool (.cons .sl (.cons .int (.cons .sl (.cons .bool (.cons .sl (.cons .int (.cons .sl (.cons .bool (.cons .sl (.cons .int (.cons .sl (.cons .bool (.cons .sl (.cons .int (.cons .sl (.cons .bool (.cons .sl (.cons .int (.cons .sl (.cons .bool (.cons .sl (.cons .int (.cons .sl (.cons .bool (.cons .sl .nil)))))))))))))))))))))))))))))))))))))))))))) rfl (l := ([y_12, y_13, y_14, y_15, y_16, y_17, y_18, y_19, y_20, y_21, y_22] : List api_Value)) (f := api_Value.enc) (by simp only [encL, List.flatMap_cons, List.flatMap_nil, api_Value.enc_eq]; rfl)) rfl rfl rfl ?_
  obtain ⟨y_23, hy_23, hg⟩ := bind_some hg
  refine ca_ (w_ref01_List _ _ hy_23) ?_
  refine go_ ?_
  refine ch_n fun hU => ?_
  refine aw_r ?_
  obtain rfl := Option.some.inj hg
  exact fin_ [] ⟨rfl, rfl⟩
theorem w_ref01_tag (n : Int) (r : Bool) (hg : g_ref01_tag n = some r) : Fn Tryz.prog 141 0 [.val (.int .i64 n)] [] (fun d' b' => d' = .val (.bool r) ∧ b' = []) := by
 unfold g_ref01_tag at hg
 refine Fn.of Tryz.func141 rfl rfl rfl fun w0 I ρ0 => ?_
 show awp _ ⟨w0, I, ρ0, 0, 0, 14⟩ _ _ _
 refine sr_ 0 8 mk_U ?_
 refine go_ ?_
 refine ch_n fun hU => ?_
 refine sr_ 8 104 hU ?_
 refine go_ ?_
 rcases bc_ hg with ⟨h2, hg⟩ | ⟨h2, hg⟩
 ·refine go_ ?_
  rcases bc_ hg with ⟨h3, hg⟩ | ⟨h3, hg⟩
  ·refine go_ ?_
   obtain ⟨q, hq, hg⟩ := bind_some hg
   refine c0_ (gdv_t rfl rfl h3) rfl (r_rem hq) rfl rfl ?_
   refine go_ ?_
   refine ch_n fun hU => ?_
   refine aw_r ?_
   obtain rfl := Option.some.inj hg
   exact fin_ [] ⟨rfl, rfl⟩
  ·refine go_ ?_
   refine ch_n fun hU => ?_
   refine aw_r ?_
   obtain rfl := Option.some.inj hg
   exact fin_ [] ⟨rfl, rfl⟩
 ·refine go_ ?_
  refine ch_n fun hU => ?_
  refine aw_r ?_
  obtain rfl := Option.some.inj hg
  exact fin_ [] ⟨rfl, rfl⟩
theorem w_ref01_formed.F (rec : api_Value → Option (Bool)) (hrec : ∀ (v : api_Value) (r : Bool), rec v = some r → Fn Tryz.prog 110 0 [.agg (api_Value.dv v)] [] (fun d' b' => d' = .val (.bool r) ∧ b' = [])) (v : api_Value) (r : Bool) (hg : g_ref01_formed.F rec v = some r) : Fn Tryz.prog 110 0 [.agg (api_Value.dv v)] [] (fun d' b' => d' = .val (.bool r) ∧ b' = []) := by
 unfold g_ref01_formed.F at hg
 refine Fn.of Tryz.func110 rfl rfl rfl fun w0 I ρ0 => ?_
 show awp _ ⟨w0, I, ρ0, 0, 0, 53⟩ _ _ _
 refine sr_ 0 16 mk_U ?_
 refine go_ ?_
 refine ch_n fun hU => ?_
 refine awp_seq ?_
 refine awp_cut (ι := Bool) (fun (x38_1 : Bool) => mk [(1, .ptr 0 0), (38, .val (.bool x38_1))] [(0, .box (api_Value.dv v) 138)] 1) (fun (x38_1 : Bool) => g_ref01_formed.j1 rec v x38_1 = some r) ?_ ?_
 ·refine awp_region (sys _ _ []) 16 296 hU rfl rfl ?_
  refine go_ ?_
  obtain ⟨y, hy, hg⟩ := bind_some hg
  refine ca_ (w_ref01_tag _ _ hy) ?_
  refine go_ ?_
  rcases bc_ hg with ⟨h2, hg⟩ | ⟨h2, hg⟩
  ·refine go_ ?_
   refine ch_n fun hU => ?_
   exact ⟨true, hg, sub_ [(0, 0)]⟩
  ·refine go_ ?_
   obtain ⟨q, hq, hg⟩ := bind_some hg
   refine c0_ (gdv_t rfl rfl h2) rfl (r_quo hq) rfl rfl ?_
   obtain ⟨q_2, hq_2, hg⟩ := bind_some hg
   refine c0_ (gdv_t rfl rfl h2) rfl (r_rem hq_2) rfl rfl ?_
   refine go_ ?_
   refine c0_ (gdv_t rfl rfl h2) rfl (r_bneq und4) rfl rfl ?_
   refine go_ ?_
   rcases bc_ hg with ⟨h4, hg⟩ | ⟨h4, hg⟩
   ·refine go_ ?_
    refine ch_n fun hU => ?_
    exact ⟨true, hg, sub_ [(0, 0)]⟩
   ·refine go_ ?_
    rcases bc_ hg with ⟨h6, hg⟩ | ⟨h6, hg⟩
    ·refine go_ ?_
     rcases bc_ hg with ⟨h7, hg⟩ | ⟨h7, hg⟩
     ·refine go_ ?_
      refine ch_n fun hU => ?_
      exact ⟨true, hg, sub_ [(0, 0)]⟩
     ·refine go_ ?_
      refine ch_n fun hU => ?_
      exact ⟨false, hg, sub_ [(0, 0)]⟩
    ·refine go_ ?_
     refine ch_n fun hU => ?_
     exact ⟨decide (0 < (v.Elements.length : Int)), hg, sub_ [(0, 0)]⟩
 ·rintro x38_1 hg
  replace hg : g_ref01_formed.j1 rec v x38_1 = some r := hg
  show awp _ _ _ _ (mk _ _ _)
  unfold g_ref01_formed.j1 at hg
  refine cg_ rfl hg (fun h11 hg => ?_) fun h11 hg => ?_
  ·refine awp_seq ?_
   refine awp_region (sys _ _ []) 1 9 mk_U rfl rfl ?_
   refine go_ ?_
   refine ch_n fun hU => ?_
   refine aw_r ?_
   obtain rfl := Option.some.inj hg
   exact fin_ [] ⟨rfl, rfl⟩
  ·refine awp_skip ?_
   repeat first | refine st_ ?_ | refine sn_ ?_
   refine awp_seq ?_
   refine sr_ 1 9 mk_U ?_
   refine go_ ?_
   refine ch_n fun hU => ?_
   refine awp_block ?_
   refine lp_ (fun (i_2 : Int) => mk [(1, .ptr 0 0), (3, .val (.int .i64 i_2))] [(0, .box (api_Value.dv v) 138)] 1) hg (sub_ [(0, 0)]) ?_
   rintro i_2 m2 o2 hg hn2
   replace hg : g_ref01_formed.l2 rec v i_2 = some o2 := hg
   show awp _ _ _ _ (mk _ _ _)
   unfold g_ref01_formed.l2 at hg
   refine awp_seq ?_
   refine sr_ 1 41 mk_U ?_
   refine go_ ?_
   refine ch_n fun hU => ?_
   refine cg_ rfl hg (fun h15 hg => ?_) fun h15 hg => ?_
   ·refine awp_skip ?_
    repeat first | refine st_ ?_ | refine sn_ ?_
    refine awp_seq ?_
    refine awp_block ?_
    refine sr_ 41 97 hU ?_
    refine go_ ?_
    obtain ⟨e, he, hg⟩ := bind_some hg
    refine go_ ?_
    refine c0_ rfl rfl (r_loadEA ty138 (enc_cells api_Value.enc_len (getI_at he) (o := 0) (m := 4) (cs := [.int .i64 e.Tag, .sl 1 (encL e8 e.Bytes), .bool e.Nested, .sl 4 (encL api_Value.enc e.Elements)]) (by simp only [api_Value.enc_eq]; rfl) (by decide) rfl) (enc_cells_le api_Value.enc_len (getI_at he) (o := 0) (m := 4) (by decide) rfl)) rfl rfl ?_
    obtain ⟨y_2, hy_2, hg⟩ := bind_some hg
    refine ca_ (hrec _ _ hy_2) ?_
    refine go_ ?_
    refine ch_n fun hU => ?_
    refine cg_ rfl hg (fun h17 hg => ?_) fun h17 hg => ?_
    ·refine awp_seq ?_
     refine awp_region (sys _ _ []) 97 105 hU rfl rfl ?_
     refine go_ ?_
     refine ch_n fun hU => ?_
     refine aw_r ?_
     replace hg := leave hg hn2
     obtain rfl := Option.some.inj hg
     exact fin_ [] ⟨rfl, rfl⟩
    ·refine awp_skip ?_
     repeat first | refine st_ ?_ | refine sn_ ?_
     refine awp_region (sys _ _ []) 97 121 hU rfl rfl ?_
     refine go_ ?_
     refine ch_n fun hU => ?_
     obtain rfl := Option.some.inj hg
     exact ⟨(W (i_2 + 1), m2), Nat.lt_succ_self _, hn2, sub_ [(0, 0)]⟩
   ·refine awp_exit ?_
    repeat first | refine st_ ?_ | refine sn_ ?_
    replace hg := leave hg hn2
    refine sr_ 41 49 hU ?_
    refine go_ ?_
    refine ch_n fun hU => ?_
    refine aw_r ?_
    obtain rfl := Option.some.inj hg
    exact fin_ [] ⟨rfl, rfl⟩
theorem w_ref01_formed (v : api_Value) (r : Bool) (hg : g_ref01_formed v = some r) : Fn Tryz.prog 110 0 [.agg (api_Value.dv v)] [] (fun d' b' => d' = .val (.bool r) ∧ b' = []) :=
 fixT_ind (motive := fun (x : api_Value) (r : Bool) => Fn Tryz.prog 110 0 [.agg (api_Value.dv x)] [] (fun d' b' => d' = .val (.bool r) ∧ b' = [])) (fun rec hrec x r h => w_ref01_formed.F _ (fun v r h => hrec v r h) x r h) v r hg
theorem w_ref01_depth.F (rec : api_Value → Option (Int)) (hrec : ∀ (v : api_Value) (r : Int), rec v = some r → Fn Tryz.prog 111 0 [.agg (api_Value.dv v)] [] (fun d' b' => d' = .val (.int .i64 r) ∧ b' = [])) (v : api_Value) (r : Int) (hg : g_ref01_depth.F rec v = some r) : Fn Tryz.prog 111 0 [.agg (api_Value.dv v)] [] (fun d' b' => d' = .val (.int .i64 r) ∧ b' = []) := by
 unfold g_ref01_depth.F at hg
 refine Fn.of Tryz.func111 rfl rfl rfl fun w0 I ρ0 => ?_
 show awp _ ⟨w0, I, ρ0, 0, 0, 22⟩ _ _ _
 refine sr_ 0 16 mk_U ?_
 refine go_ ?_
 refine ch_n fun hU => ?_
 refine sr_ 16 24 hU ?_
 refine go_ ?_
 refine ch_n fun hU => ?_
 refine awp_seq ?_
 refine sr_ 24 32 hU ?_
 refine go_ ?_
 refine ch_n fun hU => ?_
 refine awp_block ?_
 refine lp_ (fun ((d_1, i_1) : Int × Int) => mk [(1, .ptr 0 0), (3, .val (.int .i64 d_1)), (4, .val (.int .i64 i_1))] [(0, .box (api_Value.dv v) 138)] 1) hg (sub_ [(0, 0)]) ?_
 rintro ⟨d_1, i_1⟩ m1 o1 hg hn1
 replace hg : g_ref01_depth.l1 rec v d_1 i_1 = some o1 := hg
 show awp _ _ _ _ (mk _ _ _)
 unfold g_ref01_depth.l1 at hg
 refine awp_seq ?_
 refine sr_ 1 41 mk_U ?_
 refine go_ ?_
 refine ch_n fun hU => ?_
 refine cg_ rfl hg (fun h5 hg => ?_) fun h5 hg => ?_
 ·refine awp_skip ?_
  repeat first | refine st_ ?_ | refine sn_ ?_
  refine awp_seq ?_
  refine awp_block ?_
  refine awp_region (sys _ _ []) 41 113 hU rfl rfl ?_
  refine go_ ?_
  obtain ⟨e, he, hg⟩ := bind_some hg
  refine go_ ?_
  refine c0_ rfl rfl (r_loadEA ty138 (enc_cells api_Value.enc_len (getI_at he) (o := 0) (m := 4) (cs := [.int .i64 e.Tag, .sl 1 (encL e8 e.Bytes), .bool e.Nested, .sl 4 (encL api_Value.enc e.Elements)]) (by simp only [api_Value.enc_eq]; rfl) (by decide) rfl) (enc_cells_le api_Value.enc_len (getI_at he) (o := 0) (m := 4) (by decide) rfl)) rfl rfl ?_
  obtain ⟨y, hy, hg⟩ := bind_some hg
  refine ca_ (hrec _ _ hy) ?_
  refine c0_ rfl rfl r_max rfl rfl ?_
  refine go_ ?_
  refine ch_n fun hU => ?_
  refine awp_region (sys _ _ []) 113 137 hU rfl rfl ?_
  refine go_ ?_
  refine ch_n fun hU => ?_
  obtain rfl := Option.some.inj hg
  exact ⟨((max d_1 y, W (i_1 + 1)), m1), Nat.lt_succ_self _, hn1, sub_ [(0, 0)]⟩
 ·refine awp_exit ?_
  repeat first | refine st_ ?_ | refine sn_ ?_
  replace hg := leave hg hn1
  refine sr_ 41 65 hU ?_
  refine go_ ?_
  refine ch_n fun hU => ?_
  refine aw_r ?_
  obtain rfl := Option.some.inj hg
  exact fin_ [] ⟨rfl, rfl⟩
theorem w_ref01_depth (v : api_Value) (r : Int) (hg : g_ref01_depth v = some r) : Fn Tryz.prog 111 0 [.agg (api_Value.dv v)] [] (fun d' b' => d' = .val (.int .i64 r) ∧ b' = []) :=
 fixT_ind (motive := fun (x : api_Value) (r : Int) => Fn Tryz.prog 111 0 [.agg (api_Value.dv x)] [] (fun d' b' => d' = .val (.int .i64 r) ∧ b' = [])) (fun rec hrec x r h => w_ref01_depth.F _ (fun v r h => hrec v r h) x r h) v r hg
theorem w_ref01_length (n : Int) (r : (List UInt8)) (hg : g_ref01_length n = some r) : Fn Tryz.prog 142 0 [.val (.int .i64 n)] [] (fun d' b' => d' = .sl 1 (encL e8 r) ∧ b' = []) := by
 unfold g_ref01_length at hg
 refine Fn.of Tryz.func142 rfl rfl rfl fun w0 I ρ0 => ?_
 show awp _ ⟨w0, I, ρ0, 0, 0, 26⟩ _ _ _
 refine sr_ 0 8 mk_U ?_
 refine go_ ?_
 refine ch_n fun hU => ?_
 refine awp_seq ?_
 refine sr_ 8 24 hU ?_
 refine go_ ?_
 refine ch_n fun hU => ?_
 refine cg_ rfl hg (fun h3 hg => ?_) fun h3 hg => ?_
 ·refine awp_seq ?_
  refine awp_region (sys _ _ []) 24 56 hU rfl rfl ?_
  refine go_ ?_
  refine c0_ rfl rfl (r_conv_u8 und3 und5) rfl rfl ?_
  refine c0_ rfl rfl (r_buildFull sl110 z5 (by decide) rfl rfl rfl rfl ck5 (cs := [.int .u8 ((u8 n).toNat : Int)]) (.cons .int .nil) rfl (l := ([(u8 n)] : List UInt8)) (f := e8) rfl) rfl rfl ?_
  refine go_ ?_
  refine ch_n fun hU => ?_
  refine aw_r ?_
  obtain rfl := Option.some.inj hg
  exact fin_ [] ⟨rfl, rfl⟩
 ·refine awp_skip ?_
  repeat first | refine st_ ?_ | refine sn_ ?_
  refine sr_ 24 32 hU ?_
  refine go_ ?_
  refine ch_n fun hU => ?_
  refine awp_seq ?_
  refine awp_block ?_
  refine lp_ (fun ((n_1, b_1) : Int × List UInt8) => mk [(0, .val (.int .i64 n_1)), (3, .row 0)] [(0, .row 5 1 (encL e8 b_1))] 1) hg (sub_ []) ?_
  rintro ⟨n_1, b_1⟩ m1 o1 hg hn1
  replace hg : g_ref01_length.l1 n_1 b_1 = some o1 := hg
  show awp _ _ _ _ (mk _ _ _)
  unfold g_ref01_length.l1 at hg
  refine awp_seq ?_
  refine sr_ 1 17 mk_U ?_
  refine go_ ?_
  refine ch_n fun hU => ?_
  refine cg_ rfl hg (fun h7 hg => ?_) fun h7 hg => ?_
  ·refine awp_skip ?_
   repeat first | refine st_ ?_ | refine sn_ ?_
   refine awp_block ?_
   refine sr_ 17 73 hU ?_
   refine go_ ?_
   obtain ⟨q, hq, hg⟩ := bind_some hg
   refine c0_ rfl rfl (r_rem hq) rfl rfl ?_
   refine c0_ rfl rfl (r_conv_u8 und3 und5) rfl rfl ?_
   refine c0_ rfl rfl (r_buildFull sl110 z5 (by decide) rfl rfl rfl rfl ck5 (cs := [.int .u8 ((u8 q).toNat : Int)]) (.cons .int .nil) rfl (l := ([(u8 q)] : List UInt8)) (f := e8) rfl) rfl rfl ?_
   refine go_ ?_
   obtain ⟨l, hl, hg⟩ := bind_some hg
   refine ch_s (rd := [41, 0]) rfl rfl (r_append sl110 e8_len .row rfl .row rfl hl rfl) rfl rfl ?_
   refine go_ ?_
   refine ch_n fun hU => ?_
   refine awp_region (sys _ _ []) 73 97 hU rfl rfl ?_
   refine go_ ?_
   obtain ⟨q_2, hq_2, hg⟩ := bind_some hg
   refine c0_ rfl rfl (r_quo hq_2) rfl rfl ?_
   refine go_ ?_
   refine ch_n fun hU => ?_
   obtain rfl := Option.some.inj hg
   exact ⟨((q_2, l), m1), Nat.lt_succ_self _, hn1, sub_ [(0, 57)]⟩
  ·refine awp_exit ?_
   repeat first | refine st_ ?_ | refine sn_ ?_
   replace hg := leave hg hn1
   refine sr_ 17 81 hU ?_
   refine go_ ?_
   refine c0_ rfl rfl (r_conv_u8 und3 und5) rfl rfl ?_
   refine c0_ rfl rfl (r_buildFull sl110 z5 (by decide) rfl rfl rfl rfl ck5 (cs := [.int .u8 ((u8 (W (128 + (b_1.length : Int)))).toNat : Int)]) (.cons .int .nil) rfl (l := ([(u8 (W (128 + (b_1.length : Int))))] : List UInt8)) (f := e8) rfl) rfl rfl ?_
   refine go_ ?_
   obtain ⟨l_2, hl_2, hg⟩ := bind_some hg
   refine ch_s (rd := [49, 0]) rfl rfl (r_append sl110 e8_len .row rfl .row rfl hl_2 rfl) rfl rfl ?_
   refine go_ ?_
   refine ch_n fun hU => ?_
   refine aw_r ?_
   obtain rfl := Option.some.inj hg
   exact fin_ [] ⟨rfl, rfl⟩
theorem w_ref01_put.F (rec : api_Value → Option ((List UInt8))) (hrec : ∀ (v : api_Value) (r : (List UInt8)), rec v = some r → Fn Tryz.prog 112 0 [.agg (api_Value.dv v)] [] (fun d' b' => d' = .sl 1 (encL e8 r) ∧ b' = [])) (v : api_Value) (r : (List UInt8)) (hg : g_ref01_put.F rec v = some r) : Fn Tryz.prog 112 0 [.agg (api_Value.dv v)] [] (fun d' b' => d' = .sl 1 (encL e8 r) ∧ b' = []) := by
 unfold g_ref01_put.F at hg
 refine Fn.of Tryz.func112 rfl rfl rfl fun w0 I ρ0 => ?_
 show awp _ ⟨w0, I, ρ0, 0, 0, 34⟩ _ _ _
 refine sr_ 0 16 mk_U ?_
 refine go_ ?_
 refine ch_n fun hU => ?_
 refine sr_ 16 56 hU ?_
 refine c0_ rfl rfl (r_buildFull sl110 z5 (by decide) rfl rfl rfl rfl ck5 (cs := []) .nil rfl (l := ([] : List UInt8)) (f := e8) rfl) rfl rfl ?_
 refine go_ ?_
 obtain ⟨l, hl, hg⟩ := bind_some hg
 refine ch_s (rd := [16]) rfl rfl (r_append sl110 e8_len .row rfl .sl rfl hl rfl) rfl rfl ?_
 refine go_ ?_
 refine ch_n fun hU => ?_
 refine awp_seq ?_
 refine sr_ 56 64 hU ?_
 refine go_ ?_
 refine ch_n fun hU => ?_
 refine awp_block ?_
 refine lp_ (fun ((i_1, b_1) : Int × List UInt8) => mk [(1, .ptr 0 0), (3, .row 1), (4, .val (.int .i64 i_1))] [(0, .box (api_Value.dv v) 138), (1, .row 5 1 (encL e8 b_1))] 2) hg (sub_ [(0, 0), (1, 40)]) ?_
 rintro ⟨i_1, b_1⟩ m1 o1 hg hn1
 replace hg : g_ref01_put.l1 rec v i_1 b_1 = some o1 := hg
 show awp _ _ _ _ (mk _ _ _)
 unfold g_ref01_put.l1 at hg
 refine awp_seq ?_
 refine sr_ 2 42 mk_U ?_
 refine go_ ?_
 refine ch_n fun hU => ?_
 refine cg_ rfl hg (fun h5 hg => ?_) fun h5 hg => ?_
 ·refine awp_skip ?_
  repeat first | refine st_ ?_ | refine sn_ ?_
  refine awp_seq ?_
  refine awp_block ?_
  refine awp_region (sys _ _ []) 42 114 hU rfl rfl ?_
  refine go_ ?_
  obtain ⟨e, he, hg⟩ := bind_some hg
  refine go_ ?_
  refine c0_ rfl rfl (r_loadEA ty138 (enc_cells api_Value.enc_len (getI_at he) (o := 0) (m := 4) (cs := [.int .i64 e.Tag, .sl 1 (encL e8 e.Bytes), .bool e.Nested, .sl 4 (encL api_Value.enc e.Elements)]) (by simp only [api_Value.enc_eq]; rfl) (by decide) rfl) (enc_cells_le api_Value.enc_len (getI_at he) (o := 0) (m := 4) (by decide) rfl)) rfl rfl ?_
  obtain ⟨y, hy, hg⟩ := bind_some hg
  refine ca_ (hrec _ _ hy) ?_
  obtain ⟨l_2, hl_2, hg⟩ := bind_some hg
  refine ch_s (rd := [1]) rfl rfl (r_append sl110 e8_len .row rfl .sl rfl hl_2 rfl) rfl rfl ?_
  refine go_ ?_
  refine ch_n fun hU => ?_
  refine awp_region (sys _ _ []) 114 138 hU rfl rfl ?_
  refine go_ ?_
  refine ch_n fun hU => ?_
  obtain rfl := Option.some.inj hg
  exact ⟨((W (i_1 + 1), l_2), m1), Nat.lt_succ_self _, hn1, sub_ [(0, 0), (1, 98)]⟩
 ·refine awp_exit ?_
  repeat first | refine st_ ?_ | refine sn_ ?_
  replace hg := leave hg hn1
  refine awp_seq ?_
  refine awp_draw (sys _ _ []) (by kernel_rfl) [0, 1, 3, 7, 0, 16, 48, 127, 0, 511, 1023] 42 130 hU rfl rfl (by kernel_rfl) ?_
  refine go_ ?_
  refine c0_ rfl rfl (r_conv_u8 und3 und5) rfl rfl ?_
  refine c0_ rfl rfl (r_buildFull sl110 z5 (by decide) rfl rfl rfl rfl ck5 (cs := [.int .u8 ((u8 v.Tag).toNat : Int)]) (.cons .int .nil) rfl (l := ([(u8 v.Tag)] : List UInt8)) (f := e8) rfl) rfl rfl ?_
  refine go_ ?_
  obtain ⟨y_2, hy_2, hg⟩ := bind_some hg
  refine ca_ (w_ref01_length _ _ hy_2) ?_
  obtain ⟨l_3, hl_3, hg⟩ := bind_some hg
  refine ch_s (rd := [66]) rfl rfl (r_append sl110 e8_len .row rfl .sl rfl hl_3 rfl) rfl rfl ?_
  refine go_ ?_
  obtain ⟨l_4, hl_4, hg⟩ := bind_some hg
  refine ch_s (rd := [98, 1]) rfl rfl (r_append sl110 e8_len .row rfl .row rfl hl_4 rfl) rfl rfl ?_
  refine go_ ?_
  refine ch_n fun hU => ?_
  refine aw_r ?_
  obtain rfl := Option.some.inj hg
  exact fin_ [] ⟨rfl, rfl⟩
theorem w_ref01_put (v : api_Value) (r : (List UInt8)) (hg : g_ref01_put v = some r) : Fn Tryz.prog 112 0 [.agg (api_Value.dv v)] [] (fun d' b' => d' = .sl 1 (encL e8 r) ∧ b' = []) :=
 fixT_ind (motive := fun (x : api_Value) (r : (List UInt8)) => Fn Tryz.prog 112 0 [.agg (api_Value.dv x)] [] (fun d' b' => d' = .sl 1 (encL e8 r) ∧ b' = [])) (fun rec hrec x r h => w_ref01_put.F _ (fun v r h => hrec v r h) x r h) v r hg
theorem w_ref01_Encode (v : api_Value) (r : (List UInt8) × Int) (hg : g_ref01_Encode v = some r) : Fn Tryz.prog 83 0 [.agg (api_Value.dv v)] [] (fun d' b' => d' = .tup [.sl 1 (encL e8 r.1), .val (.int .i64 r.2)] ∧ b' = []) := by
 unfold g_ref01_Encode at hg
 refine Fn.of Tryz.func83 rfl rfl rfl fun w0 I ρ0 => ?_
 show awp _ ⟨w0, I, ρ0, 0, 0, 17⟩ _ _ _
 refine sr_ 0 24 mk_U ?_
 refine go_ ?_
 refine ch_n fun hU => ?_
 refine awp_seq ?_
 refine sr_ 24 48 hU ?_
 refine go_ ?_
 obtain ⟨y, hy, hg⟩ := bind_some hg
 refine ca_ (w_ref01_formed _ _ hy) ?_
 refine go_ ?_
 refine ch_n fun hU => ?_
 refine cg_ rfl hg (fun h3 hg => ?_) fun h3 hg => ?_
 ·refine awp_seq ?_
  refine awp_region (sys _ _ []) 48 64 hU rfl rfl ?_
  refine go_ ?_
  refine ch_n fun hU => ?_
  refine aw_r ?_
  obtain rfl := Option.some.inj hg
  exact fin_ [] ⟨rfl, rfl⟩
 ·refine awp_skip ?_
  repeat first | refine st_ ?_ | refine sn_ ?_
  refine awp_seq ?_
  refine sr_ 48 72 hU ?_
  refine go_ ?_
  obtain ⟨y_2, hy_2, hg⟩ := bind_some hg
  refine ca_ (w_ref01_depth _ _ hy_2) ?_
  refine go_ ?_
  refine ch_n fun hU => ?_
  refine cg_ rfl hg (fun h6 hg => ?_) fun h6 hg => ?_
  ·refine awp_seq ?_
   refine awp_region (sys _ _ []) 72 88 hU rfl rfl ?_
   refine go_ ?_
   refine ch_n fun hU => ?_
   refine aw_r ?_
   obtain rfl := Option.some.inj hg
   exact fin_ [] ⟨rfl, rfl⟩
  ·refine awp_skip ?_
   repeat first | refine st_ ?_ | refine sn_ ?_
   refine sr_ 72 96 hU ?_
   refine go_ ?_
   obtain ⟨y_3, hy_3, hg⟩ := bind_some hg
   refine ca_ (w_ref01_put _ _ hy_3) ?_
   refine go_ ?_
   refine ch_n fun hU => ?_
   refine awp_seq ?_
   refine sr_ 96 120 hU ?_
   refine go_ ?_
   refine ch_n fun hU => ?_
   refine cg_ rfl hg (fun h10 hg => ?_) fun h10 hg => ?_
   ·refine awp_seq ?_
    refine awp_region (sys _ _ []) 120 136 hU rfl rfl ?_
    refine go_ ?_
    refine ch_n fun hU => ?_
    refine aw_r ?_
    obtain rfl := Option.some.inj hg
    exact fin_ [] ⟨rfl, rfl⟩
   ·refine awp_skip ?_
    repeat first | refine st_ ?_ | refine sn_ ?_
    refine sr_ 120 144 hU ?_
    refine go_ ?_
    refine ch_n fun hU => ?_
    refine aw_r ?_
    obtain rfl := Option.some.inj hg
    exact fin_ [] ⟨rfl, rfl⟩
theorem w_ref03_Bytes (c : api_Certificate) (r : (List UInt8) × Int) (hg : g_ref03_Bytes c = some r) : Fn Tryz.prog 59 0 [.agg (api_Certificate.dv c)] [] (fun d' b' => d' = .tup [.sl 1 (encL e8 r.1), .val (.int .i64 r.2)] ∧ b' = []) := by
 unfold g_ref03_Bytes at hg
 refine Fn.of Tryz.func59 rfl rfl rfl fun w0 I ρ0 => ?_
 show awp _ ⟨w0, I, ρ0, 0, 0, 12⟩ _ _ _
 refine sr_ 0 24 mk_U ?_
 refine go_ ?_
 refine ch_n fun hU => ?_
 refine awp_seq ?_
 refine sr_ 24 48 hU ?_
 refine go_ ?_
 obtain ⟨y, hy, hg⟩ := bind_some hg
 refine ca_ (w_ref03_Check _ _ hy) ?_
 refine go_ ?_
 refine ch_n fun hU => ?_
 refine cg_ rfl hg (fun h3 hg => ?_) fun h3 hg => ?_
 ·refine awp_seq ?_
  refine awp_region (sys _ _ []) 48 64 hU rfl rfl ?_
  refine go_ ?_
  refine ch_n fun hU => ?_
  refine aw_r ?_
  obtain rfl := Option.some.inj hg
  exact fin_ [] ⟨rfl, rfl⟩
 ·refine awp_skip ?_
  repeat first | refine st_ ?_ | refine sn_ ?_
  refine sr_ 48 104 hU ?_
  refine go_ ?_
  obtain ⟨y_2, hy_2, hg⟩ := bind_some hg
  refine ca_ (w_ref03_body _ _ hy_2) ?_
  obtain ⟨y_3, hy_3, hg⟩ := bind_some hg
  refine ca_ (w_ref01_Encode _ _ hy_3) ?_
  refine go_ ?_
  refine ch_n fun hU => ?_
  refine aw_r ?_
  obtain rfl := Option.some.inj hg
  exact fin_ [] ⟨rfl, rfl⟩
theorem w_ref03_Sum (b : (List UInt8)) (r : Int) (hg : g_ref03_Sum b = some r) : Fn Tryz.prog 60 0 [.sl 1 (encL e8 b)] [] (fun d' b' => d' = .val (.int .i64 r) ∧ b' = []) := by
 unfold g_ref03_Sum at hg
 refine Fn.of Tryz.func60 rfl rfl rfl fun w0 I ρ0 => ?_
 show awp _ ⟨w0, I, ρ0, 0, 0, 21⟩ _ _ _
 refine sr_ 0 8 mk_U ?_
 refine go_ ?_
 refine ch_n fun hU => ?_
 refine sr_ 8 16 hU ?_
 refine go_ ?_
 refine ch_n fun hU => ?_
 refine awp_seq ?_
 refine sr_ 16 24 hU ?_
 refine go_ ?_
 refine ch_n fun hU => ?_
 refine awp_block ?_
 refine lp_ (fun ((h_1, i_1) : Int × Int) => mk [(0, .sl 1 (encL e8 b)), (3, .val (.int .u32 h_1)), (4, .val (.int .i64 i_1))] [] 0) hg (sub_ []) ?_
 rintro ⟨h_1, i_1⟩ m1 o1 hg hn1
 replace hg : g_ref03_Sum.l1 b h_1 i_1 = some o1 := hg
 show awp _ _ _ _ (mk _ _ _)
 unfold g_ref03_Sum.l1 at hg
 refine awp_seq ?_
 refine sr_ 0 32 mk_U ?_
 refine go_ ?_
 refine ch_n fun hU => ?_
 refine cg_ rfl hg (fun h5 hg => ?_) fun h5 hg => ?_
 ·refine awp_skip ?_
  repeat first | refine st_ ?_ | refine sn_ ?_
  refine awp_seq ?_
  refine awp_block ?_
  refine awp_region (sys _ _ []) 32 104 hU rfl rfl ?_
  refine go_ ?_
  obtain ⟨e, he, hg⟩ := bind_some hg
  refine go_ ?_
  refine c0_ rfl rfl (r_loadE1 ty5 (enc_cell e8_len (getI_at he) (o := 0) (c := .int .u8 (e.toNat : Int)) rfl rfl)) rfl rfl ?_
  refine c0_ rfl rfl (r_convK und5 und140) rfl rfl ?_
  refine c0_ rfl rfl r_xorK rfl rfl ?_
  refine c0_ rfl rfl r_mulK rfl rfl ?_
  refine go_ ?_
  refine ch_n fun hU => ?_
  refine awp_region (sys _ _ []) 104 128 hU rfl rfl ?_
  refine go_ ?_
  refine ch_n fun hU => ?_
  obtain rfl := Option.some.inj hg
  exact ⟨((IntKind.wrap .u32 ((xorK .u32 h_1 (IntKind.wrap .u32 (e.toNat : Int))) * 16777619), W (i_1 + 1)), m1), Nat.lt_succ_self _, hn1, sub_ []⟩
 ·refine awp_exit ?_
  repeat first | refine st_ ?_ | refine sn_ ?_
  replace hg := leave hg hn1
  refine sr_ 32 56 hU ?_
  refine go_ ?_
  refine c0_ rfl rfl (r_conv_i64 und140 und3) rfl rfl ?_
  refine go_ ?_
  refine ch_n fun hU => ?_
  refine aw_r ?_
  obtain rfl := Option.some.inj hg
  exact fin_ [] ⟨rfl, rfl⟩
theorem w_ref03_Sign (c : api_Certificate) (key : Int) (r : api_Certificate × Int) (hg : g_ref03_Sign c key = some r) : Fn Tryz.prog 37 0 [.agg (api_Certificate.dv c), .val (.int .i64 key)] [] (fun d' b' => d' = .tup [.agg (api_Certificate.dv r.1), .val (.int .i64 r.2)] ∧ b' = []) := by
 unfold g_ref03_Sign at hg
 refine Fn.of Tryz.func37 rfl rfl rfl fun w0 I ρ0 => ?_
 show awp _ ⟨w0, I, ρ0, 0, 0, 35⟩ _ _ _
 refine sr_ 0 24 mk_U ?_
 refine go_ ?_
 refine ch_n fun hU => ?_
 refine sr_ 24 48 hU ?_
 refine go_ ?_
 obtain ⟨y, hy, hg⟩ := bind_some hg
 refine ca_ (w_ref03_Copy _ _ hy) ?_
 refine go_ ?_
 refine ch_n fun hU => ?_
 refine sr_ 48 72 hU ?_
 refine c0_ rfl rfl (.build (r := [.val (.int .i64 0), .val (.int .i64 0)]) und83 pl83 z83 (by kernel_rfl) rfl) rfl rfl ?_
 refine go_ ?_
 refine ch_n fun hU => ?_
 refine awp_seq ?_
 refine awp_cut (ι := Bool) (fun (x22_1 : Bool) => mk [(1, .val (.int .i64 key)), (2, .ptr 0 0), (4, .ptr 1 0), (22, .val (.bool x22_1))] [(0, .box [.val (.int .i64 y.Serial), .val (.string y.Issuer), .val (.string y.Subject), .val (.int .i64 y.Key.Alg), .val (.int .i64 y.Key.Bits), .val (.int .i64 y.KeyId), .val (.int .i64 y.Hash.Alg), .val (.int .i64 y.Hash.Bits), .val (.int .i64 y.From), .val (.int .i64 y.To), .val (.bool y.Authority), .val (.int .i64 y.Path), .sl 1 (encL eS y.Names), .val (.int .i64 0), .val (.int .i64 0)] 85), (1, .box [.val (.int .i64 0), .val (.string (⟨#[]⟩ : ByteArray)), .val (.string (⟨#[]⟩ : ByteArray)), .val (.int .i64 0), .val (.int .i64 0), .val (.int .i64 0), .val (.int .i64 0), .val (.int .i64 0), .val (.int .i64 0), .val (.int .i64 0), .val (.bool false), .val (.int .i64 0), .val (.slice none 0 0), .val (.int .i64 0), .val (.int .i64 0)] 85)] 2) (fun (x22_1 : Bool) => g_ref03_Sign.j1 key y x22_1 = some r) ?_ ?_
 ·refine awp_region (sys _ _ []) 72 160 hU rfl rfl ?_
  refine go_ ?_
  obtain ⟨y_2, hy_2, hg⟩ := bind_some hg
  refine ca_ (w_ref03_Check _ _ hy_2) ?_
  refine go_ ?_
  rcases bc_ hg with ⟨h4, hg⟩ | ⟨h4, hg⟩
  ·refine go_ ?_
   refine ch_n fun hU => ?_
   exact ⟨true, hg, sub_ [(0, 0), (1, 8)]⟩
  ·refine go_ ?_
   rcases bc_ hg with ⟨h6, hg⟩ | ⟨h6, hg⟩
   ·refine go_ ?_
    refine ch_n fun hU => ?_
    exact ⟨true, hg, sub_ [(0, 0), (1, 8)]⟩
   ·refine go_ ?_
    refine ch_n fun hU => ?_
    exact ⟨decide (2147483648 < key), hg, sub_ [(0, 0), (1, 8)]⟩
 ·rintro x22_1 hg
  replace hg : g_ref03_Sign.j1 key y x22_1 = some r := hg
  show awp _ _ _ _ (mk _ _ _)
  unfold g_ref03_Sign.j1 at hg
  refine cg_ rfl hg (fun h9 hg => ?_) fun h9 hg => ?_
  ·refine awp_seq ?_
   refine awp_region (sys _ _ []) 2 26 mk_U rfl rfl ?_
   refine c0_ rfl rfl (.build (r := [.val (.int .i64 0), .val (.string (⟨#[]⟩ : ByteArray)), .val (.string (⟨#[]⟩ : ByteArray)), .val (.int .i64 0), .val (.int .i64 0), .val (.int .i64 0), .val (.int .i64 0), .val (.int .i64 0), .val (.int .i64 0), .val (.int .i64 0), .val (.bool false), .val (.int .i64 0), .val (.slice none 0 0), .val (.int .i64 0), .val (.int .i64 0)]) und85 pl85 z85 (by kernel_rfl) rfl) rfl rfl ?_
   refine go_ ?_
   refine ch_n fun hU => ?_
   refine aw_r ?_
   obtain rfl := Option.some.inj hg
   exact fin_ [] ⟨rfl, rfl⟩
  ·refine awp_skip ?_
   repeat first | refine st_ ?_ | refine sn_ ?_
   refine sr_ 2 58 mk_U ?_
   refine go_ ?_
   obtain ⟨y_3, hy_3, hg⟩ := bind_some hg
   refine ca_ (w_ref03_Bytes _ _ hy_3) ?_
   refine go_ ?_
   refine ch_n fun hU => ?_
   refine sr_ 58 106 hU ?_
   refine go_ ?_
   obtain ⟨y_4, hy_4, hg⟩ := bind_some hg
   refine ca_ (w_ref03_Sum _ _ hy_4) ?_
   refine c0_ rfl rfl (.build (r := [.val (.int .i64 key), .val (.int .i64 y_4)]) und83 pl83 z83 (by kernel_rfl) rfl) rfl rfl ?_
   refine go_ ?_
   refine ch_n fun hU => ?_
   refine sr_ 106 130 hU ?_
   refine go_ ?_
   refine ch_n fun hU => ?_
   refine aw_r ?_
   obtain rfl := Option.some.inj hg
   exact fin_ [] ⟨rfl, rfl⟩
theorem w_move_Leaf (name : ByteArray) (key : api_Use) (id : Int) (anchor : Int) (to : Int) (r : api_Identity) (hg : g_move_Leaf name key id anchor to = some r) : Fn Tryz.prog 10 0 [.val (.string name), .agg [.val (.int .i64 key.Alg), .val (.int .i64 key.Bits)], .val (.int .i64 id), .val (.int .i64 anchor), .val (.int .i64 to)] [] (fun d' b' => d' = .agg (api_Identity.dv r) ∧ b' = []) := by
 unfold g_move_Leaf at hg
 refine Fn.of Tryz.func10 rfl rfl rfl fun w0 I ρ0 => ?_
 show awp _ ⟨w0, I, ρ0, 0, 0, 32⟩ _ _ _
 refine sr_ 0 16 mk_U ?_
 refine go_ ?_
 refine ch_n fun hU => ?_
 refine sr_ 16 104 hU ?_
 refine go_ ?_
 refine c0_ rfl rfl (.build (r := [.val (.int .i64 3), .val (.int .i64 0)]) und39 pl39 z39 (by kernel_rfl) rfl) rfl rfl ?_
 refine go_ ?_
 refine c0_ rfl rfl (r_buildFull sl71 z9 (by decide) rfl rfl rfl rfl ck9 (cs := [.str name]) (.cons .str .nil) rfl (l := ([name] : List ByteArray)) (f := eS) rfl) rfl rfl ?_
 refine c0_ rfl rfl (.build (r := [.val (.int .i64 id), .val (.string (⟨#[114, 111, 111, 116]⟩ : ByteArray)), .val (.string name), .val (.int .i64 key.Alg), .val (.int .i64 key.Bits), .val (.int .i64 id), .val (.int .i64 3), .val (.int .i64 0), .val (.int .i64 0), .val (.int .i64 to), .val (.bool false), .val (.int .i64 0), .row 72, .val (.int .i64 0), .val (.int .i64 0)]) und85 pl85 z85 (by kernel_rfl) rfl) rfl rfl ?_
 refine go_ ?_
 refine ch_n fun hU => ?_
 refine awp_seq ?_
 refine awp_sub (σ' := mk [(2, .val (.int .i64 id)), (3, .val (.int .i64 anchor)), (6, .ptr 0 0), (10, .ptr 1 0), (11, .ptr 2 0)] [(0, .box [.val (.int .i64 key.Alg), .val (.int .i64 key.Bits)] 39), (1, .box [.val (.int .i64 0), .val (.int .i64 0), .val (.int .i64 0), .val (.slice none 0 0)] 42), (2, .box [.val (.int .i64 id), .val (.string (⟨#[114, 111, 111, 116]⟩ : ByteArray)), .val (.string name), .val (.int .i64 key.Alg), .val (.int .i64 key.Bits), .val (.int .i64 id), .val (.int .i64 3), .val (.int .i64 0), .val (.int .i64 0), .val (.int .i64 to), .val (.bool false), .val (.int .i64 0), .sl 1 (encL eS ([name] : List ByteArray)), .val (.int .i64 0), .val (.int .i64 0)] 85)] 3) (sub_ [(0, 0), (1, 8), (2, 88)]) ?_
 refine awp_region (sys _ _ []) 3 59 mk_U rfl rfl ?_
 refine go_ ?_
 obtain ⟨y, hy, hg⟩ := bind_some hg
 refine ca_ (w_ref03_Sign _ _ _ hy) ?_
 refine go_ ?_
 refine ch_n fun hU => ?_
 refine sr_ 59 107 hU ?_
 refine go_ ?_
 refine c0_ rfl rfl (r_buildFull sl40 z85 (by decide) rfl rfl rfl rfl ck85 (cs := [.int .i64 y.1.Serial, .str y.1.Issuer, .str y.1.Subject, .int .i64 y.1.Key.Alg, .int .i64 y.1.Key.Bits, .int .i64 y.1.KeyId, .int .i64 y.1.Hash.Alg, .int .i64 y.1.Hash.Bits, .int .i64 y.1.From, .int .i64 y.1.To, .bool y.1.Authority, .int .i64 y.1.Path, .sl 1 (encL eS y.1.Names), .int .i64 y.1.Seal.Key, .int .i64 y.1.Seal.Sum]) (.cons .int (.cons .str (.cons .str (.cons .int (.cons .int (.cons .int (.cons .int (.cons .int (.cons .int (.cons .int (.cons .bool (.cons .int (.cons .sl (.cons .int (.cons .int .nil))))))))))))))) rfl (l := ([y.1] : List api_Certificate)) (f := api_Certificate.enc) rfl) rfl rfl ?_
 refine c0_ rfl rfl (.build (r := [.val (.int .i64 key.Alg), .val (.int .i64 key.Bits), .val (.int .i64 id), .row 83]) und42 pl42 z42 (by kernel_rfl) rfl) rfl rfl ?_
 refine go_ ?_
 refine ch_n fun hU => ?_
 refine aw_r ?_
 obtain rfl := Option.some.inj hg
 exact fin_ [] ⟨rfl, rfl⟩
theorem w_make_Dice_Word (d : cipherplanmake_Dice) (l : (List ByteArray)) (r : ByteArray × cipherplanmake_Dice) (hg : g_make_Dice_Word d l = some r) : Fn Tryz.prog 36 1 [.ptr 0 0, .sl 1 (encL eS l)] [.box [.sl 1 (encL eI d.L), .val (.int .i64 d.At)] 81] (fun d' b' => d' = .val (.string r.1) ∧ b' = [.box [.sl 1 (encL eI r.2.L), .val (.int .i64 r.2.At)] 81]) := by
 unfold g_make_Dice_Word at hg
 refine Fn.of Tryz.func36 rfl rfl rfl fun w0 I ρ0 => ?_
 show awp _ ⟨w0, I, ρ0, 1, 1, 12⟩ _ _ _
 refine sr_ 1 9 mk_U ?_
 refine go_ ?_
 refine ch_n fun hU => ?_
 refine sr_ 9 73 hU ?_
 refine go_ ?_
 obtain ⟨y, hy, hg⟩ := bind_some hg
 refine cb_ [0] [0] [] false (w_make_Dice_Next _ _ _ hy) ?_
 obtain ⟨e, he, hg⟩ := bind_some hg
 refine go_ ?_
 refine c0_ rfl rfl (r_loadE1 ty9 (enc_cell eS_len (getI_at he) (o := 0) (c := .str e) rfl rfl)) rfl rfl ?_
 refine go_ ?_
 refine ch_n fun hU => ?_
 refine aw_r ?_
 obtain rfl := Option.some.inj hg
 exact fin_ [(0, 0)] ⟨rfl, rfl⟩
theorem w_make_Item (d : cipherplanmake_Dice) (name : ByteArray) (r : api_Item × cipherplanmake_Dice) (hg : g_make_Item d name = some r) : Fn Tryz.prog 35 1 [.ptr 0 0, .val (.string name)] [.box [.sl 1 (encL eI d.L), .val (.int .i64 d.At)] 81] (fun d' b' => d' = .agg (api_Item.dv r.1) ∧ b' = [.box [.sl 1 (encL eI r.2.L), .val (.int .i64 r.2.At)] 81]) := by
 unfold g_make_Item at hg
 refine Fn.of Tryz.func35 rfl rfl rfl fun w0 I ρ0 => ?_
 show awp _ ⟨w0, I, ρ0, 1, 1, 62⟩ _ _ _
 refine sr_ 1 9 mk_U ?_
 refine go_ ?_
 refine ch_n fun hU => ?_
 refine sr_ 9 89 hU ?_
 refine go_ ?_
 obtain ⟨y, hy, hg⟩ := bind_some hg
 refine cb_ [0] [0] [] false (w_make_Dice_Next _ _ _ hy) ?_
 refine go_ ?_
 obtain ⟨y_2, hy_2, hg⟩ := bind_some hg
 refine cb_ [0] [0] [] false (w_make_Dice_Next _ _ _ hy_2) ?_
 refine go_ ?_
 refine c0_ rfl rfl (.build (r := [.val (.string name), .val (.int .i64 (W (1 + y.1))), .val (.int .i64 (W (1 + y_2.1))), .val (.slice none 0 0), .val (.int .i64 0)]) und77 pl77 z77 (by kernel_rfl) rfl) rfl rfl ?_
 refine go_ ?_
 refine ch_n fun hU => ?_
 refine sr_ 89 113 hU ?_
 refine go_ ?_
 obtain ⟨y_3, hy_3, hg⟩ := bind_some hg
 refine cb_ [0] [0] [] false (w_make_Dice_Next _ _ _ hy_3) ?_
 refine go_ ?_
 refine ch_n fun hU => ?_
 refine awp_seq ?_
 refine sr_ 113 145 hU ?_
 refine go_ ?_
 obtain ⟨y_4, hy_4, hg⟩ := bind_some hg
 refine cb_ [0] [0] [] false (w_make_Dice_Next _ _ _ hy_4) ?_
 refine go_ ?_
 refine ch_n fun hU => ?_
 refine awp_block ?_
 refine lp_ (fun ((day_1, i_1, d_1, l_1) : Int × Int × cipherplanmake_Dice × List api_Link) => mk [(0, .ptr 0 0), (4, .ptr 1 0), (5, .ptr 2 0), (6, .val (.int .i64 day_1)), (7, .val (.int .i64 i_1))] [(0, .box [.sl 1 (encL eI d_1.L), .val (.int .i64 d_1.At)] 81), (1, .box [.val (.string (⟨#[]⟩ : ByteArray)), .val (.int .i64 0), .val (.int .i64 0), .val (.slice none 0 0), .val (.int .i64 0)] 77), (2, .box [.val (.string name), .val (.int .i64 (W (1 + y.1))), .val (.int .i64 (W (1 + y_2.1))), .row 3, .val (.int .i64 0)] 77), (3, .row 107 3 (encL api_Link.enc l_1))] 4) hg (sub_ [(0, 0), (1, 1), (2, 73)]) ?_
 rintro ⟨day_1, i_1, d_1, l_1⟩ m1 o1 hg hn1
 replace hg : g_make_Item.l1 name y y_2 day_1 i_1 d_1 l_1 = some o1 := hg
 show awp _ _ _ _ (mk _ _ _)
 unfold g_make_Item.l1 at hg
 refine awp_seq ?_
 refine sr_ 4 20 mk_U ?_
 refine go_ ?_
 refine ch_n fun hU => ?_
 refine cg_ rfl hg (fun h6 hg => ?_) fun h6 hg => ?_
 ·refine awp_skip ?_
  repeat first | refine st_ ?_ | refine sn_ ?_
  refine awp_seq ?_
  refine awp_block ?_
  refine sr_ 20 124 hU ?_
  refine c0_ rfl rfl (.build (r := [.val (.int .i64 2), .val (.int .i64 0)]) und39 pl39 z39 (by kernel_rfl) rfl) rfl rfl ?_
  refine c0_ rfl rfl (.build (r := [.val (.int .i64 1), .val (.int .i64 0)]) und39 pl39 z39 (by kernel_rfl) rfl) rfl rfl ?_
  refine c0_ rfl rfl (.build (r := [.val (.int .i64 5), .val (.int .i64 2048)]) und39 pl39 z39 (by kernel_rfl) rfl) rfl rfl ?_
  refine c0_ rfl rfl (.build (r := [.val (.int .i64 16), .val (.int .i64 128)]) und39 pl39 z39 (by kernel_rfl) rfl) rfl rfl ?_
  refine c0_ rfl rfl (.build (r := [.val (.int .i64 3), .val (.int .i64 0)]) und39 pl39 z39 (by kernel_rfl) rfl) rfl rfl ?_
  refine c0_ rfl rfl (.build (r := [.val (.int .i64 15), .val (.int .i64 168)]) und39 pl39 z39 (by kernel_rfl) rfl) rfl rfl ?_
  refine c0_ rfl rfl (r_buildFull sl99 z39 (by decide) rfl rfl rfl rfl ck39 (cs := [.int .i64 2, .int .i64 0, .int .i64 1, .int .i64 0, .int .i64 5, .int .i64 2048, .int .i64 16, .int .i64 128, .int .i64 3, .int .i64 0, .int .i64 15, .int .i64 168]) (.cons .int (.cons .int (.cons .int (.cons .int (.cons .int (.cons .int (.cons .int (.cons .int (.cons .int (.cons .int (.cons .int (.cons .int .nil)))))))))))) rfl (l := ([(api_Use.mk 2 0), (api_Use.mk 1 0), (api_Use.mk 5 2048), (api_Use.mk 16 128), (api_Use.mk 3 0), (api_Use.mk 15 168)] : List api_Use)) (f := api_Use.enc) rfl) rfl rfl ?_
  refine go_ ?_
  obtain ⟨y_5, hy_5, hg⟩ := bind_some hg
  refine cb_ [0] [0] [] false (w_make_Dice_Next _ _ _ hy_5) ?_
  obtain ⟨e, he, hg⟩ := bind_some hg
  refine go_ ?_
  refine ch_s (rd := [68]) rfl rfl (r_loadRA ty39 (enc_cells api_Use.enc_len (getI_at he) (o := 0) (m := 2) (cs := [.int .i64 e.Alg, .int .i64 e.Bits]) rfl (by decide) rfl) (enc_cells_le api_Use.enc_len (getI_at he) (o := 0) (m := 2) (by decide) rfl)) rfl rfl ?_
  refine go_ ?_
  refine ch_n fun hU => ?_
  refine sr_ 124 196 hU ?_
  refine go_ ?_
  refine c0_ rfl rfl (.build (r := [.val (.int .i64 e.Alg), .val (.int .i64 e.Bits), .val (.int .i64 day_1)]) und107 pl107 z107 (by kernel_rfl) rfl) rfl rfl ?_
  refine c0_ rfl rfl (r_buildFull sl75 z107 (by decide) rfl rfl rfl rfl ck107 (cs := [.int .i64 e.Alg, .int .i64 e.Bits, .int .i64 day_1]) (.cons .int (.cons .int (.cons .int .nil))) rfl (l := ([(api_Link.mk e day_1)] : List api_Link)) (f := api_Link.enc) rfl) rfl rfl ?_
  obtain ⟨l, hl, hg⟩ := bind_some hg
  refine ch_s (rd := [3, 164]) rfl rfl (r_append sl75 api_Link.enc_len .row rfl .row rfl hl rfl) rfl rfl ?_
  refine go_ ?_
  refine ch_n fun hU => ?_
  refine awp_region (sys _ _ [220]) 196 252 hU rfl rfl ?_
  refine go_ ?_
  refine ch_z (rd := []) rfl rfl (r_buildFull sl22 z3 (by decide) rfl rfl rfl rfl ck3 (cs := [.int .i64 5, .int .i64 30, .int .i64 0, .int .i64 100]) (.cons .int (.cons .int (.cons .int (.cons .int .nil)))) rfl (l := ([5, 30, 0, 100] : List Int)) (f := eI) rfl) rfl rfl rfl ?_
  obtain ⟨y_6, hy_6, hg⟩ := bind_some hg
  refine cb_ [0] [0] [] false (w_make_Dice_Of _ _ _ hy_6) ?_
  refine go_ ?_
  refine ch_n fun hU => ?_
  refine awp_region (sys _ _ []) 252 276 hU rfl rfl ?_
  refine go_ ?_
  refine ch_n fun hU => ?_
  obtain rfl := Option.some.inj hg
  exact ⟨((W ((W (day_1 + 1)) + y_6.1), W (i_1 - 1), y_6.2, l), m1), Nat.lt_succ_self _, hn1, sub_ [(0, 0), (1, 1), (2, 2), (3, 172)]⟩
 ·refine awp_exit ?_
  repeat first | refine st_ ?_ | refine sn_ ?_
  replace hg := leave hg hn1
  refine awp_seq ?_
  refine awp_draw (sys _ _ [68]) (by kernel_rfl) [0, 1, 3, 7, 15, 0, 0, 96, 255, 511, 1023] 20 108 hU rfl rfl (by kernel_rfl) ?_
  refine go_ ?_
  obtain ⟨e_2, he_2, hg⟩ := bind_some hg
  refine go_ ?_
  refine ch_s (rd := [3]) rfl rfl (.loadR1 ty3 (enc_cell api_Link.enc_len (getI_at he_2) (o := 2) (c := .int .i64 e_2.Day) rfl rfl)) rfl rfl ?_
  refine go_ ?_
  refine ch_z (rd := []) rfl rfl (r_buildFull sl22 z3 (by decide) rfl rfl rfl rfl ck3 (cs := [.int .i64 50, .int .i64 300, .int .i64 0, .int .i64 3000]) (.cons .int (.cons .int (.cons .int (.cons .int .nil)))) rfl (l := ([50, 300, 0, 3000] : List Int)) (f := eI) rfl) rfl rfl rfl ?_
  obtain ⟨y_7, hy_7, hg⟩ := bind_some hg
  refine cb_ [0] [0] [] false (w_make_Dice_Of _ _ _ hy_7) ?_
  refine go_ ?_
  refine ch_n fun hU => ?_
  refine sr_ 108 124 hU ?_
  refine go_ ?_
  refine ch_n fun hU => ?_
  refine aw_r ?_
  obtain rfl := Option.some.inj hg
  exact fin_ [(0, 0)] ⟨rfl, rfl⟩
theorem w_move_Sound (d : cipherplanmake_Dice) (r : api_Estate × cipherplanmake_Dice) (hg : g_move_Sound d = some r) : Fn Tryz.prog 8 1 [.ptr 0 0] [.box [.sl 1 (encL eI d.L), .val (.int .i64 d.At)] 81] (fun d' b' => d' = .agg (api_Estate.dv r.1) ∧ b' = [.box [.sl 1 (encL eI r.2.L), .val (.int .i64 r.2.At)] 81]) := by
 unfold g_move_Sound at hg
 refine Fn.of Tryz.func8 rfl rfl rfl fun w0 I ρ0 => ?_
 show awp _ ⟨w0, I, ρ0, 1, 1, 122⟩ _ _ _
 refine sr_ 1 9 mk_U ?_
 refine go_ ?_
 refine ch_n fun hU => ?_
 refine sr_ 9 17 hU ?_
 refine go_ ?_
 refine ch_n fun hU => ?_
 refine sr_ 17 65 hU ?_
 refine c0_ rfl rfl (r_buildFull sl71 z9 (by decide) rfl rfl rfl rfl ck9 (cs := [.str (⟨#[97, 112, 112]⟩ : ByteArray), .str (⟨#[100, 98]⟩ : ByteArray), .str (⟨#[119, 101, 98]⟩ : ByteArray)]) (.cons .str (.cons .str (.cons .str .nil))) rfl (l := ([(⟨#[97, 112, 112]⟩ : ByteArray), (⟨#[100, 98]⟩ : ByteArray), (⟨#[119, 101, 98]⟩ : ByteArray)] : List ByteArray)) (f := eS) rfl) rfl rfl ?_
 refine go_ ?_
 obtain ⟨y, hy, hg⟩ := bind_some hg
 refine cb_ [0] [0] [] false (w_make_Dice_Next _ _ _ hy) ?_
 refine go_ ?_
 obtain ⟨l, hl, hg⟩ := bind_some hg
 refine ch_s (rd := [17]) rfl rfl (r_sliR_hi sl71 eS_len hl) rfl rfl ?_
 refine go_ ?_
 refine ch_n fun hU => ?_
 refine awp_seq ?_
 refine sr_ 65 89 hU ?_
 refine go_ ?_
 refine c0_ rfl rfl (.len sl71.elem .part) rfl rfl ?_
 refine go_ ?_
 refine ch_n fun hU => ?_
 refine awp_block ?_
 refine lp_ (fun ((x18_1, d_1, l_1) : Int × cipherplanmake_Dice × List api_Endpoint) => mk [(0, .ptr 0 0), (2, .ptr 1 0), (3, .ptr 2 0), (4, .part 3 (((0 : Int).toNat) * 1) ((W (2 + y.1) : Int).toNat - (0 : Int).toNat)), (16, .part 3 (((0 : Int).toNat) * 1) ((W (2 + y.1) : Int).toNat - (0 : Int).toNat)), (17, .val (.int .i64 ((((W (2 + y.1) : Int).toNat - (0 : Int).toNat) : Nat) : Int))), (18, .val (.int .i64 x18_1))] [(0, .box [.sl 1 (encL eI d_1.L), .val (.int .i64 d_1.At)] 81), (1, .box [.val (.slice none 0 0), .val (.slice none 0 0), .val (.slice none 0 0)] 29), (2, .box [.row 4, .val (.slice none 0 0), .val (.slice none 0 0)] 29), (3, .row 9 1 (encL eS ([(⟨#[97, 112, 112]⟩ : ByteArray), (⟨#[100, 98]⟩ : ByteArray), (⟨#[119, 101, 98]⟩ : ByteArray)] : List ByteArray))), (4, .row 37 9 (encL api_Endpoint.enc l_1))] 5) hg (sub_ [(0, 0), (1, 1), (2, 9), (3, 17)]) ?_
 rintro ⟨x18_1, d_1, l_1⟩ m1 o1 hg hn1
 replace hg : g_move_Sound.l1 y x18_1 d_1 l_1 = some o1 := hg
 show awp _ _ _ _ (mk _ _ _)
 unfold g_move_Sound.l1 at hg
 refine sr_ 5 13 mk_U ?_
 refine go_ ?_
 refine ch_n fun hU => ?_
 refine awp_seq ?_
 refine cg_ rfl hg (fun h6 hg => ?_) fun h6 hg => ?_
 ·refine awp_skip ?_
  repeat first | refine st_ ?_ | refine sn_ ?_
  refine awp_seq ?_
  refine awp_block ?_
  refine sr_ 13 53 hU ?_
  refine go_ ?_
  obtain ⟨e, he, hg⟩ := bind_some hg
  refine ch_s (rd := [3]) rfl rfl (r_idxP sl71 (getI_ix he) (getI_at he)) rfl rfl ?_
  refine ch_s (rd := [3]) rfl rfl (.loadR1 ty9 (enc_cell eS_len (part_at (a := (0 : Int).toNat) (getI_at he)) (o := 0) (c := .str e) rfl rfl)) rfl rfl ?_
  refine go_ ?_
  refine ch_n fun hU => ?_
  refine awp_seq ?_
  refine awp_draw (sys _ _ [69, 85, 93, 101]) (by kernel_rfl) [0, 0, 0, 6, 0, 0, 0, 112, 0, 270, 1022, 2046, 0, 4878, 0, 0, 0, 78606, 262143, 0, 1048575] 53 221 hU rfl rfl (by kernel_rfl) ?_
  refine go_ ?_
  refine ch_z (rd := []) rfl rfl (r_buildFull sl22 z3 (by decide) rfl rfl rfl rfl ck3 (cs := [.int .i64 3, .int .i64 3, .int .i64 4]) (.cons .int (.cons .int (.cons .int .nil))) rfl (l := ([3, 3, 4] : List Int)) (f := eI) rfl) rfl rfl rfl ?_
  obtain ⟨y_2, hy_2, hg⟩ := bind_some hg
  refine cb_ [0] [0] [] false (w_make_Dice_Of _ _ _ hy_2) ?_
  refine ch_z (rd := []) rfl rfl (r_buildFull sl22 z3 (by decide) rfl rfl rfl rfl ck3 (cs := [.int .i64 10, .int .i64 8, .int .i64 2]) (.cons .int (.cons .int (.cons .int .nil))) rfl (l := ([10, 8, 2] : List Int)) (f := eI) rfl) rfl rfl rfl ?_
  refine ch_z (rd := []) rfl rfl (r_buildFull sl22 z3 (by decide) rfl rfl rfl rfl ck3 (cs := [.int .i64 8, .int .i64 2]) (.cons .int (.cons .int .nil)) rfl (l := ([8, 2] : List Int)) (f := eI) rfl) rfl rfl rfl ?_
  refine ch_z (rd := []) rfl rfl (r_buildFull sl22 z3 (by decide) rfl rfl rfl rfl ck3 (cs := [.int .i64 2, .int .i64 10, .int .i64 8, .int .i64 3]) (.cons .int (.cons .int (.cons .int (.cons .int .nil)))) rfl (l := ([2, 10, 8, 3] : List Int)) (f := eI) rfl) rfl rfl rfl ?_
  refine c0_ rfl rfl (r_buildFull sl74 z22 (by decide) rfl rfl rfl rfl ck22 (cs := [.sl 1 (encL eI ([10, 8, 2] : List Int)), .sl 1 (encL eI ([8, 2] : List Int)), .sl 1 (encL eI ([2, 10, 8, 3] : List Int))]) (.cons .sl (.cons .sl (.cons .sl .nil))) rfl (l := ([([10, 8, 2] : List Int), ([8, 2] : List Int), ([2, 10, 8, 3] : List Int)] : List (List Int))) (f := (eL 1 eI)) rfl) rfl rfl ?_
  refine go_ ?_
  obtain ⟨y_3, hy_3, hg⟩ := bind_some hg
  refine cb_ [0] [0] [] false (w_make_Dice_Next _ _ _ hy_3) ?_
  obtain ⟨e_2, he_2, hg⟩ := bind_some hg
  refine go_ ?_
  refine ch_s (rd := [109]) rfl rfl (.loadR1 ty22 (enc_cell (eL_len _ _) (getI_at he_2) (o := 0) (c := .sl 1 (encL eI e_2)) rfl rfl)) rfl rfl ?_
  refine go_ ?_
  obtain ⟨y_4, hy_4, hg⟩ := bind_some hg
  refine cb_ [0] [0] [] false (w_make_Dice_One _ _ _ hy_4) ?_
  refine c0_ rfl rfl (r_buildFull sl22 z3 (by decide) rfl rfl rfl rfl ck3 (cs := [.int .i64 1]) (.cons .int .nil) rfl (l := ([1] : List Int)) (f := eI) rfl) rfl rfl ?_
  refine c0_ rfl rfl (r_buildFull sl22 z3 (by decide) rfl rfl rfl rfl ck3 (cs := [.int .i64 2, .int .i64 3]) (.cons .int (.cons .int .nil)) rfl (l := ([2, 3] : List Int)) (f := eI) rfl) rfl rfl ?_
  refine go_ ?_
  obtain ⟨y_5, hy_5, hg⟩ := bind_some hg
  refine cb_ [0] [0] [] false (w_make_Dice_One _ _ _ hy_5) ?_
  refine c0_ rfl rfl (.build (r := [.val (.string e), .val (.int .i64 1), .val (.int .i64 y_2.1), .sl 1 (encL eI e_2), .val (.bool y_4.1), .val (.slice none 0 0), .row 165, .row 173, .val (.bool y_5.1)]) und37 pl37 z37 (by kernel_rfl) rfl) rfl rfl ?_
  refine go_ ?_
  refine ch_n fun hU => ?_
  refine awp_cut (ι := List Int) (fun (x_2 : List Int) => mk [(0, .ptr 0 0), (2, .ptr 1 0), (3, .ptr 2 0), (4, .part 3 (((0 : Int).toNat) * 1) ((W (2 + y.1) : Int).toNat - (0 : Int).toNat)), (5, .val (.int .i64 x18_1)), (6, .val (.string e)), (7, .ptr 4 0), (16, .part 3 (((0 : Int).toNat) * 1) ((W (2 + y.1) : Int).toNat - (0 : Int).toNat)), (17, .val (.int .i64 ((((W (2 + y.1) : Int).toNat - (0 : Int).toNat) : Nat) : Int))), (18, .val (.int .i64 x18_1))] [(0, .box [.sl 1 (encL eI y_5.2.L), .val (.int .i64 y_5.2.At)] 81), (1, .box [.val (.slice none 0 0), .val (.slice none 0 0), .val (.slice none 0 0)] 29), (2, .box [.row 5, .val (.slice none 0 0), .val (.slice none 0 0)] 29), (3, .row 9 1 (encL eS ([(⟨#[97, 112, 112]⟩ : ByteArray), (⟨#[100, 98]⟩ : ByteArray), (⟨#[119, 101, 98]⟩ : ByteArray)] : List ByteArray))), (4, .box [.val (.string e), .val (.int .i64 1), .val (.int .i64 y_2.1), .sl 1 (encL eI x_2), .val (.bool y_4.1), .val (.slice none 0 0), .row 6, .row 7, .val (.bool y_5.1)] 37), (5, .row 37 9 (encL api_Endpoint.enc l_1)), (6, .row 3 1 (encL eI ([1] : List Int))), (7, .row 3 1 (encL eI ([2, 3] : List Int)))] 8) (fun (x_2 : List Int) => g_move_Sound.j2 x18_1 l_1 e y_2 y_4 y_5 x_2 = some o1) ?_ ?_
  ·refine awp_seq ?_
   refine awp_region (sys _ _ []) 221 245 hU rfl rfl ?_
   refine go_ ?_
   refine ch_n fun hU => ?_
   refine cg_ rfl hg (fun h10 hg => ?_) fun h10 hg => ?_
   ·refine awp_region (sys _ _ []) 245 293 hU rfl rfl ?_
    refine c0_ rfl rfl (r_buildFull sl22 z3 (by decide) rfl rfl rfl rfl ck3 (cs := [.int .i64 14]) (.cons .int .nil) rfl (l := ([14] : List Int)) (f := eI) rfl) rfl rfl ?_
    refine go_ ?_
    obtain ⟨l_2, hl_2, hg⟩ := bind_some hg
    refine ch_s (rd := [245]) rfl rfl (r_append sl22 eI_len .row rfl .sl rfl hl_2 rfl) rfl rfl ?_
    refine go_ ?_
    refine ch_n fun hU => ?_
    exact ⟨l_2, hg, sub_ [(0, 0), (1, 1), (2, 2), (3, 3), (4, 205), (5, 4), (6, 165), (7, 173)]⟩
   ·refine awp_skip ?_
    repeat first | refine st_ ?_ | refine sn_ ?_
    exact ⟨e_2, hg, sub_ [(0, 0), (1, 1), (2, 2), (3, 3), (4, 205), (5, 4), (6, 165), (7, 173)]⟩
  ·rintro x_2 hg
   replace hg : g_move_Sound.j2 x18_1 l_1 e y_2 y_4 y_5 x_2 = some o1 := hg
   show awp _ _ _ _ (mk _ _ _)
   unfold g_move_Sound.j2 at hg
   refine sr_ 8 72 mk_U ?_
   refine go_ ?_
   obtain ⟨y_6, hy_6, hg⟩ := bind_some hg
   refine ca_ (w_move_RSA _ hy_6) ?_
   refine go_ ?_
   obtain ⟨y_7, hy_7, hg⟩ := bind_some hg
   refine ca_ (w_move_Leaf _ _ _ _ _ _ hy_7) ?_
   refine c0_ rfl rfl (r_buildFull sl35 z42 (by decide) rfl rfl rfl rfl ck42 (cs := [.int .i64 y_7.Key.Alg, .int .i64 y_7.Key.Bits, .int .i64 y_7.KeyId, .sl 15 (encL api_Certificate.enc y_7.Chain)]) (.cons .int (.cons .int (.cons .int (.cons .sl .nil)))) rfl (l := ([y_7] : List api_Identity)) (f := api_Identity.enc) rfl) rfl rfl ?_
   refine go_ ?_
   refine ch_n fun hU => ?_
   refine awp_sub (σ' := mk [(0, .ptr 0 0), (2, .ptr 1 0), (3, .ptr 2 0), (4, .part 3 (((0 : Int).toNat) * 1) ((W (2 + y.1) : Int).toNat - (0 : Int).toNat)), (7, .ptr 4 0), (16, .part 3 (((0 : Int).toNat) * 1) ((W (2 + y.1) : Int).toNat - (0 : Int).toNat)), (17, .val (.int .i64 ((((W (2 + y.1) : Int).toNat - (0 : Int).toNat) : Nat) : Int))), (18, .val (.int .i64 x18_1))] [(0, .box [.sl 1 (encL eI y_5.2.L), .val (.int .i64 y_5.2.At)] 81), (1, .box [.val (.slice none 0 0), .val (.slice none 0 0), .val (.slice none 0 0)] 29), (2, .box [.row 5, .val (.slice none 0 0), .val (.slice none 0 0)] 29), (3, .row 9 1 (encL eS ([(⟨#[97, 112, 112]⟩ : ByteArray), (⟨#[100, 98]⟩ : ByteArray), (⟨#[119, 101, 98]⟩ : ByteArray)] : List ByteArray))), (4, .box [.val (.string e), .val (.int .i64 1), .val (.int .i64 y_2.1), .sl 1 (encL eI x_2), .val (.bool y_4.1), .sl 4 (encL api_Identity.enc ([y_7] : List api_Identity)), .row 6, .row 7, .val (.bool y_5.1)] 37), (5, .row 37 9 (encL api_Endpoint.enc l_1)), (6, .row 3 1 (encL eI ([1] : List Int))), (7, .row 3 1 (encL eI ([2, 3] : List Int)))] 8) (sub_ [(0, 0), (1, 1), (2, 2), (3, 3), (4, 4), (5, 5), (6, 6), (7, 7)]) ?_
   refine awp_sub (σ' := mk [(0, .ptr 0 0), (2, .ptr 1 0), (3, .ptr 2 0), (4, .part 3 (((0 : Int).toNat) * 1) ((W (2 + y.1) : Int).toNat - (0 : Int).toNat)), (7, .ptr 4 0), (16, .part 3 (((0 : Int).toNat) * 1) ((W (2 + y.1) : Int).toNat - (0 : Int).toNat)), (17, .val (.int .i64 ((((W (2 + y.1) : Int).toNat - (0 : Int).toNat) : Nat) : Int))), (18, .val (.int .i64 x18_1))] [(0, .box [.sl 1 (encL eI y_5.2.L), .val (.int .i64 y_5.2.At)] 81), (1, .box [.val (.slice none 0 0), .val (.slice none 0 0), .val (.slice none 0 0)] 29), (2, .box [.row 5, .val (.slice none 0 0), .val (.slice none 0 0)] 29), (3, .row 9 1 (encL eS ([(⟨#[97, 112, 112]⟩ : ByteArray), (⟨#[100, 98]⟩ : ByteArray), (⟨#[119, 101, 98]⟩ : ByteArray)] : List ByteArray))), (4, .box [.val (.string e), .val (.int .i64 1), .val (.int .i64 y_2.1), .sl 1 (encL eI x_2), .val (.bool y_4.1), .sl 4 (encL api_Identity.enc ([y_7] : List api_Identity)), .sl 1 (encL eI ([1] : List Int)), .row 6, .val (.bool y_5.1)] 37), (5, .row 37 9 (encL api_Endpoint.enc l_1)), (6, .row 3 1 (encL eI ([2, 3] : List Int)))] 7) (sub_ [(0, 0), (1, 1), (2, 2), (3, 3), (4, 4), (5, 5), (6, 7)]) ?_
   refine awp_sub (σ' := mk [(0, .ptr 0 0), (2, .ptr 1 0), (3, .ptr 2 0), (4, .part 3 (((0 : Int).toNat) * 1) ((W (2 + y.1) : Int).toNat - (0 : Int).toNat)), (7, .ptr 4 0), (16, .part 3 (((0 : Int).toNat) * 1) ((W (2 + y.1) : Int).toNat - (0 : Int).toNat)), (17, .val (.int .i64 ((((W (2 + y.1) : Int).toNat - (0 : Int).toNat) : Nat) : Int))), (18, .val (.int .i64 x18_1))] [(0, .box [.sl 1 (encL eI y_5.2.L), .val (.int .i64 y_5.2.At)] 81), (1, .box [.val (.slice none 0 0), .val (.slice none 0 0), .val (.slice none 0 0)] 29), (2, .box [.row 5, .val (.slice none 0 0), .val (.slice none 0 0)] 29), (3, .row 9 1 (encL eS ([(⟨#[97, 112, 112]⟩ : ByteArray), (⟨#[100, 98]⟩ : ByteArray), (⟨#[119, 101, 98]⟩ : ByteArray)] : List ByteArray))), (4, .box [.val (.string e), .val (.int .i64 1), .val (.int .i64 y_2.1), .sl 1 (encL eI x_2), .val (.bool y_4.1), .sl 4 (encL api_Identity.enc ([y_7] : List api_Identity)), .sl 1 (encL eI ([1] : List Int)), .sl 1 (encL eI ([2, 3] : List Int)), .val (.bool y_5.1)] 37), (5, .row 37 9 (encL api_Endpoint.enc l_1))] 6) (sub_ [(0, 0), (1, 1), (2, 2), (3, 3), (4, 4), (5, 5)]) ?_
   refine awp_region (sys _ _ []) 6 62 mk_U rfl rfl ?_
   refine go_ ?_
   refine c0_ rfl rfl (r_buildFull sl25 z37 (by decide) rfl rfl rfl rfl ck37 (cs := [.str e, .int .i64 1, .int .i64 y_2.1, .sl 1 (encL eI x_2), .bool y_4.1, .sl 4 (encL api_Identity.enc ([y_7] : List api_Identity)), .sl 1 (encL eI ([1] : List Int)), .sl 1 (encL eI ([2, 3] : List Int)), .bool y_5.1]) (.cons .str (.cons .int (.cons .int (.cons .sl (.cons .bool (.cons .sl (.cons .sl (.cons .sl (.cons .bool .nil))))))))) rfl (l := ([(api_Endpoint.mk e 1 y_2.1 x_2 y_4.1 ([y_7] : List api_Identity) ([1] : List Int) ([2, 3] : List Int) y_5.1)] : List api_Endpoint)) (f := api_Endpoint.enc) rfl) rfl rfl ?_
   obtain ⟨l_3, hl_3, hg⟩ := bind_some hg
   refine ch_s (rd := [5, 30]) rfl rfl (r_append sl25 api_Endpoint.enc_len .row rfl .row rfl hl_3 rfl) rfl rfl ?_
   refine go_ ?_
   refine ch_n fun hU => ?_
   refine awp_region (sys _ _ []) 62 78 hU rfl rfl ?_
   refine go_ ?_
   refine ch_n fun hU => ?_
   obtain rfl := Option.some.inj hg
   exact ⟨((W (x18_1 + 1), y_5.2, l_3), m1), Nat.lt_succ_self _, hn1, sub_ [(0, 0), (1, 1), (2, 2), (3, 3), (4, 38)]⟩
 ·refine awp_exit ?_
  repeat first | refine st_ ?_ | refine sn_ ?_
  replace hg := leave hg hn1
  refine awp_seq ?_
  refine sr_ 13 37 hU ?_
  refine go_ ?_
  refine c0_ rfl rfl (.len sl71.elem .part) rfl rfl ?_
  refine go_ ?_
  refine ch_n fun hU => ?_
  refine awp_block ?_
  refine lp_ (fun ((x66_6, d_6, l_6) : Int × cipherplanmake_Dice × List api_Edge) => mk [(0, .ptr 0 0), (2, .ptr 1 0), (3, .ptr 2 0), (4, .part 3 (((0 : Int).toNat) * 1) ((W (2 + y.1) : Int).toNat - (0 : Int).toNat)), (65, .val (.int .i64 ((((W (2 + y.1) : Int).toNat - (0 : Int).toNat) : Nat) : Int))), (66, .val (.int .i64 x66_6))] [(0, .box [.sl 1 (encL eI d_6.L), .val (.int .i64 d_6.At)] 81), (1, .box [.val (.slice none 0 0), .val (.slice none 0 0), .val (.slice none 0 0)] 29), (2, .box [.row 4, .row 5, .val (.slice none 0 0)] 29), (3, .row 9 1 (encL eS ([(⟨#[97, 112, 112]⟩ : ByteArray), (⟨#[100, 98]⟩ : ByteArray), (⟨#[119, 101, 98]⟩ : ByteArray)] : List ByteArray))), (4, .row 37 9 (encL api_Endpoint.enc l_1)), (5, .row 34 2 (encL api_Edge.enc l_6))] 6) hg (sub_ [(0, 0), (1, 1), (2, 2), (3, 3), (4, 4)]) ?_
  rintro ⟨x66_6, d_6, l_6⟩ m6 o6 hg hn6
  replace hg : g_move_Sound.l6 y l_1 x66_6 d_6 l_6 = some o6 := hg
  show awp _ _ _ _ (mk _ _ _)
  unfold g_move_Sound.l6 at hg
  refine sr_ 6 14 mk_U ?_
  refine go_ ?_
  refine ch_n fun hU => ?_
  refine awp_seq ?_
  refine cg_ rfl hg (fun h17 hg => ?_) fun h17 hg => ?_
  ·refine awp_skip ?_
   repeat first | refine st_ ?_ | refine sn_ ?_
   refine awp_seq ?_
   refine awp_block ?_
   refine sr_ 14 30 hU ?_
   refine go_ ?_
   refine ch_n fun hU => ?_
   refine sr_ 30 54 hU ?_
   refine go_ ?_
   refine c0_ rfl rfl (.len sl71.elem .part) rfl rfl ?_
   refine go_ ?_
   refine ch_n fun hU => ?_
   refine awp_block ?_
   refine lp_ (fun ((x71_7, d_7, l_7) : Int × cipherplanmake_Dice × List api_Edge) => mk [(0, .ptr 0 0), (2, .ptr 1 0), (3, .ptr 2 0), (4, .part 3 (((0 : Int).toNat) * 1) ((W (2 + y.1) : Int).toNat - (0 : Int).toNat)), (8, .val (.int .i64 x66_6)), (65, .val (.int .i64 ((((W (2 + y.1) : Int).toNat - (0 : Int).toNat) : Nat) : Int))), (66, .val (.int .i64 x66_6)), (70, .val (.int .i64 ((((W (2 + y.1) : Int).toNat - (0 : Int).toNat) : Nat) : Int))), (71, .val (.int .i64 x71_7))] [(0, .box [.sl 1 (encL eI d_7.L), .val (.int .i64 d_7.At)] 81), (1, .box [.val (.slice none 0 0), .val (.slice none 0 0), .val (.slice none 0 0)] 29), (2, .box [.row 4, .row 5, .val (.slice none 0 0)] 29), (3, .row 9 1 (encL eS ([(⟨#[97, 112, 112]⟩ : ByteArray), (⟨#[100, 98]⟩ : ByteArray), (⟨#[119, 101, 98]⟩ : ByteArray)] : List ByteArray))), (4, .row 37 9 (encL api_Endpoint.enc l_1)), (5, .row 34 2 (encL api_Edge.enc l_7))] 6) hg (sub_ [(0, 0), (1, 1), (2, 2), (3, 3), (4, 4), (5, 5)]) ?_
   rintro ⟨x71_7, d_7, l_7⟩ m7 o7 hg hn7
   replace hg : g_move_Sound.l7 y x66_6 x71_7 d_7 l_7 = some o7 := hg
   show awp _ _ _ _ (mk _ _ _)
   unfold g_move_Sound.l7 at hg
   refine sr_ 6 14 mk_U ?_
   refine go_ ?_
   refine ch_n fun hU => ?_
   refine awp_seq ?_
   refine cg_ rfl hg (fun h21 hg => ?_) fun h21 hg => ?_
   ·refine awp_skip ?_
    repeat first | refine st_ ?_ | refine sn_ ?_
    refine awp_cut (ι := cipherplanmake_Dice × List api_Edge) (fun ((d_9, l_9) : cipherplanmake_Dice × List api_Edge) => mk [(0, .ptr 0 0), (2, .ptr 1 0), (3, .ptr 2 0), (4, .part 3 (((0 : Int).toNat) * 1) ((W (2 + y.1) : Int).toNat - (0 : Int).toNat)), (8, .val (.int .i64 x66_6)), (65, .val (.int .i64 ((((W (2 + y.1) : Int).toNat - (0 : Int).toNat) : Nat) : Int))), (66, .val (.int .i64 x66_6)), (70, .val (.int .i64 ((((W (2 + y.1) : Int).toNat - (0 : Int).toNat) : Nat) : Int))), (71, .val (.int .i64 x71_7))] [(0, .box [.sl 1 (encL eI d_9.L), .val (.int .i64 d_9.At)] 81), (1, .box [.val (.slice none 0 0), .val (.slice none 0 0), .val (.slice none 0 0)] 29), (2, .box [.row 4, .row 5, .val (.slice none 0 0)] 29), (3, .row 9 1 (encL eS ([(⟨#[97, 112, 112]⟩ : ByteArray), (⟨#[100, 98]⟩ : ByteArray), (⟨#[119, 101, 98]⟩ : ByteArray)] : List ByteArray))), (4, .row 37 9 (encL api_Endpoint.enc l_1)), (5, .row 34 2 (encL api_Edge.enc l_9))] 6) (fun ((d_9, l_9) : cipherplanmake_Dice × List api_Edge) => g_move_Sound.j9 x71_7 d_9 l_9 = some o7) ?_ ?_
    ·refine awp_block ?_
     refine sr_ 14 30 hU ?_
     refine go_ ?_
     refine ch_n fun hU => ?_
     refine awp_cut (ι := Bool × cipherplanmake_Dice) (fun ((x87_8, d_8) : Bool × cipherplanmake_Dice) => mk [(0, .ptr 0 0), (2, .ptr 1 0), (3, .ptr 2 0), (4, .part 3 (((0 : Int).toNat) * 1) ((W (2 + y.1) : Int).toNat - (0 : Int).toNat)), (8, .val (.int .i64 x66_6)), (9, .val (.int .i64 x71_7)), (65, .val (.int .i64 ((((W (2 + y.1) : Int).toNat - (0 : Int).toNat) : Nat) : Int))), (66, .val (.int .i64 x66_6)), (70, .val (.int .i64 ((((W (2 + y.1) : Int).toNat - (0 : Int).toNat) : Nat) : Int))), (71, .val (.int .i64 x71_7)), (87, .val (.bool x87_8))] [(0, .box [.sl 1 (encL eI d_8.L), .val (.int .i64 d_8.At)] 81), (1, .box [.val (.slice none 0 0), .val (.slice none 0 0), .val (.slice none 0 0)] 29), (2, .box [.row 4, .row 5, .val (.slice none 0 0)] 29), (3, .row 9 1 (encL eS ([(⟨#[97, 112, 112]⟩ : ByteArray), (⟨#[100, 98]⟩ : ByteArray), (⟨#[119, 101, 98]⟩ : ByteArray)] : List ByteArray))), (4, .row 37 9 (encL api_Endpoint.enc l_1)), (5, .row 34 2 (encL api_Edge.enc l_7))] 6) (fun ((x87_8, d_8) : Bool × cipherplanmake_Dice) => g_move_Sound.j8 x66_6 x71_7 l_7 x87_8 d_8 = some o7) ?_ ?_
     ·refine awp_region (sys _ _ []) 30 142 hU rfl rfl ?_
      refine go_ ?_
      rcases bc_ hg with ⟨h23, hg⟩ | ⟨h23, hg⟩
      ·refine go_ ?_
       obtain ⟨y_8, hy_8, hg⟩ := bind_some hg
       refine cb_ [0] [0] [] false (w_make_Dice_Next _ _ _ hy_8) ?_
       refine go_ ?_
       rcases bc_ hg with ⟨h24, hg⟩ | ⟨h24, hg⟩
       ·refine go_ ?_
        refine ch_n fun hU => ?_
        exact ⟨(decide ((l_7.length : Int) < 3), y_8.2), hg, sub_ [(0, 0), (1, 1), (2, 2), (3, 3), (4, 4), (5, 5)]⟩
       ·refine go_ ?_
        refine ch_n fun hU => ?_
        exact ⟨(false, y_8.2), hg, sub_ [(0, 0), (1, 1), (2, 2), (3, 3), (4, 4), (5, 5)]⟩
      ·refine go_ ?_
       refine ch_n fun hU => ?_
       exact ⟨(false, d_7), hg, sub_ [(0, 0), (1, 1), (2, 2), (3, 3), (4, 4), (5, 5)]⟩
     ·rintro ⟨x87_8, d_8⟩ hg
      replace hg : g_move_Sound.j8 x66_6 x71_7 l_7 x87_8 d_8 = some o7 := hg
      show awp _ _ _ _ (mk _ _ _)
      unfold g_move_Sound.j8 at hg
      refine cg_ rfl hg (fun h28 hg => ?_) fun h28 hg => ?_
      ·refine awp_region (sys _ _ []) 6 78 mk_U rfl rfl ?_
       refine go_ ?_
       refine c0_ rfl rfl (.build (r := [.val (.int .i64 x66_6), .val (.int .i64 x71_7)]) und34 pl34 z34 (by kernel_rfl) rfl) rfl rfl ?_
       refine c0_ rfl rfl (r_buildFull sl26 z34 (by decide) rfl rfl rfl rfl ck34 (cs := [.int .i64 x66_6, .int .i64 x71_7]) (.cons .int (.cons .int .nil)) rfl (l := ([(api_Edge.mk x66_6 x71_7)] : List api_Edge)) (f := api_Edge.enc) rfl) rfl rfl ?_
       obtain ⟨l_4, hl_4, hg⟩ := bind_some hg
       refine ch_s (rd := [5, 46]) rfl rfl (r_append sl26 api_Edge.enc_len .row rfl .row rfl hl_4 rfl) rfl rfl ?_
       refine go_ ?_
       refine ch_n fun hU => ?_
       exact ⟨(d_8, l_4), hg, sub_ [(0, 0), (1, 1), (2, 2), (3, 3), (4, 4), (5, 54)]⟩
      ·refine awp_skip ?_
       repeat first | refine st_ ?_ | refine sn_ ?_
       exact ⟨(d_8, l_7), hg, sub_ [(0, 0), (1, 1), (2, 2), (3, 3), (4, 4), (5, 5)]⟩
    ·rintro ⟨d_9, l_9⟩ hg
     replace hg : g_move_Sound.j9 x71_7 d_9 l_9 = some o7 := hg
     show awp _ _ _ _ (mk _ _ _)
     unfold g_move_Sound.j9 at hg
     refine awp_region (sys _ _ []) 6 22 mk_U rfl rfl ?_
     refine go_ ?_
     refine ch_n fun hU => ?_
     obtain rfl := Option.some.inj hg
     exact ⟨((W (x71_7 + 1), d_9, l_9), m7), Nat.lt_succ_self _, hn7, sub_ [(0, 0), (1, 1), (2, 2), (3, 3), (4, 4), (5, 5)]⟩
   ·refine awp_exit ?_
    repeat first | refine st_ ?_ | refine sn_ ?_
    replace hg := leave hg hn7
    refine awp_region (sys _ _ []) 14 30 hU rfl rfl ?_
    refine go_ ?_
    refine ch_n fun hU => ?_
    obtain rfl := Option.some.inj hg
    exact ⟨((W (x66_6 + 1), d_7, l_7), m6), Nat.lt_succ_self _, hn6, sub_ [(0, 0), (1, 1), (2, 2), (3, 3), (4, 4), (5, 5)]⟩
  ·refine awp_exit ?_
   repeat first | refine st_ ?_ | refine sn_ ?_
   replace hg := leave hg hn6
   refine awp_cut (ι := List api_Edge) (fun (l_10 : List api_Edge) => mk [(0, .ptr 0 0), (2, .ptr 1 0), (3, .ptr 2 0)] [(0, .box [.sl 1 (encL eI d_6.L), .val (.int .i64 d_6.At)] 81), (1, .box [.val (.slice none 0 0), .val (.slice none 0 0), .val (.slice none 0 0)] 29), (2, .box [.row 3, .row 4, .val (.slice none 0 0)] 29), (3, .row 37 9 (encL api_Endpoint.enc l_1)), (4, .row 34 2 (encL api_Edge.enc l_10))] 5) (fun (l_10 : List api_Edge) => g_move_Sound.j10 l_1 d_6 l_10 = some r) ?_ ?_
   ·refine awp_seq ?_
    refine awp_region (sys _ _ []) 14 46 hU rfl rfl ?_
    refine go_ ?_
    refine ch_n fun hU => ?_
    refine cg_ rfl hg (fun h33 hg => ?_) fun h33 hg => ?_
    ·refine awp_region (sys _ _ []) 46 78 hU rfl rfl ?_
     refine c0_ rfl rfl (.build (r := [.val (.int .i64 0), .val (.int .i64 1)]) und34 pl34 z34 (by kernel_rfl) rfl) rfl rfl ?_
     refine c0_ rfl rfl (r_buildFull sl26 z34 (by decide) rfl rfl rfl rfl ck34 (cs := [.int .i64 0, .int .i64 1]) (.cons .int (.cons .int .nil)) rfl (l := ([(api_Edge.mk 0 1)] : List api_Edge)) (f := api_Edge.enc) rfl) rfl rfl ?_
     refine go_ ?_
     refine ch_n fun hU => ?_
     exact ⟨([(api_Edge.mk 0 1)] : List api_Edge), hg, sub_ [(0, 0), (1, 1), (2, 2), (3, 4), (4, 54)]⟩
    ·refine awp_skip ?_
     repeat first | refine st_ ?_ | refine sn_ ?_
     exact ⟨l_6, hg, sub_ [(0, 0), (1, 1), (2, 2), (3, 4), (4, 5)]⟩
   ·rintro l_10 hg
    replace hg : g_move_Sound.j10 l_1 d_6 l_10 = some r := hg
    show awp _ _ _ _ (mk _ _ _)
    unfold g_move_Sound.j10 at hg
    refine awp_seq ?_
    refine sr_ 5 29 mk_U ?_
    refine go_ ?_
    obtain ⟨y_9, hy_9, hg⟩ := bind_some hg
    refine cb_ [0] [0] [] false (w_make_Dice_Next _ _ _ hy_9) ?_
    refine go_ ?_
    refine ch_n fun hU => ?_
    refine awp_block ?_
    refine lp_ (fun ((i_11, d_11, l_11) : Int × cipherplanmake_Dice × List api_Item) => mk [(0, .ptr 0 0), (2, .ptr 1 0), (3, .ptr 2 0), (10, .val (.int .i64 i_11))] [(0, .box [.sl 1 (encL eI d_11.L), .val (.int .i64 d_11.At)] 81), (1, .box [.val (.slice none 0 0), .val (.slice none 0 0), .val (.slice none 0 0)] 29), (2, .box [.row 3, .row 4, .row 5] 29), (3, .row 37 9 (encL api_Endpoint.enc l_1)), (4, .row 34 2 (encL api_Edge.enc l_10)), (5, .row 77 5 (encL api_Item.enc l_11))] 6) hg (sub_ [(0, 0), (1, 1), (2, 2), (3, 3), (4, 4)]) ?_
    rintro ⟨i_11, d_11, l_11⟩ m11 o11 hg hn11
    replace hg : g_move_Sound.l11 l_1 l_10 i_11 d_11 l_11 = some o11 := hg
    show awp _ _ _ _ (mk _ _ _)
    unfold g_move_Sound.l11 at hg
    refine awp_seq ?_
    refine sr_ 6 22 mk_U ?_
    refine go_ ?_
    refine ch_n fun hU => ?_
    refine cg_ rfl hg (fun h37 hg => ?_) fun h37 hg => ?_
    ·refine awp_skip ?_
     repeat first | refine st_ ?_ | refine sn_ ?_
     refine awp_seq ?_
     refine awp_block ?_
     refine awp_draw (sys _ _ [54]) (by kernel_rfl) [0, 1, 0, 0, 0, 24, 60, 124, 255, 511, 1023] 22 110 hU rfl rfl (by kernel_rfl) ?_
     refine go_ ?_
     refine ch_z (rd := []) rfl rfl (r_buildFull sl71 z9 (by decide) rfl rfl rfl rfl ck9 (cs := [.str (⟨#[98, 97, 99, 107, 117, 112]⟩ : ByteArray), .str (⟨#[100, 101, 101, 100]⟩ : ByteArray)]) (.cons .str (.cons .str .nil)) rfl (l := ([(⟨#[98, 97, 99, 107, 117, 112]⟩ : ByteArray), (⟨#[100, 101, 101, 100]⟩ : ByteArray)] : List ByteArray)) (f := eS) rfl) rfl rfl rfl ?_
     obtain ⟨y_10, hy_10, hg⟩ := bind_some hg
     refine cb_ [0] [0] [] false (w_make_Dice_Word _ _ _ hy_10) ?_
     obtain ⟨y_11, hy_11, hg⟩ := bind_some hg
     refine cb_ [0] [0] [] false (w_make_Item _ _ _ hy_11) ?_
     refine c0_ rfl rfl (r_buildFull sl27 z77 (by decide) rfl rfl rfl rfl ck77 (cs := [.str y_11.1.Name, .int .i64 y_11.1.Kind, .int .i64 y_11.1.Purpose, .sl 3 (encL api_Link.enc y_11.1.Links), .int .i64 y_11.1.Until]) (.cons .str (.cons .int (.cons .int (.cons .sl (.cons .int .nil))))) rfl (l := ([y_11.1] : List api_Item)) (f := api_Item.enc) rfl) rfl rfl ?_
     obtain ⟨l_5, hl_5, hg⟩ := bind_some hg
     refine ch_s (rd := [5, 78]) rfl rfl (r_append sl27 api_Item.enc_len .row rfl .row rfl hl_5 rfl) rfl rfl ?_
     refine go_ ?_
     refine ch_n fun hU => ?_
     refine awp_region (sys _ _ []) 110 134 hU rfl rfl ?_
     refine go_ ?_
     refine ch_n fun hU => ?_
     obtain rfl := Option.some.inj hg
     exact ⟨((W (i_11 - 1), y_11.2, l_5), m11), Nat.lt_succ_self _, hn11, sub_ [(0, 0), (1, 1), (2, 2), (3, 3), (4, 4), (5, 86)]⟩
    ·refine awp_exit ?_
     repeat first | refine st_ ?_ | refine sn_ ?_
     replace hg := leave hg hn11
     refine sr_ 22 38 hU ?_
     refine go_ ?_
     refine ch_n fun hU => ?_
     refine aw_r ?_
     obtain rfl := Option.some.inj hg
     exact fin_ [(0, 0)] ⟨rfl, rfl⟩
end Go.Proofs.YtkpcbnnlefcebaaGreat
