/- The program computes the plain functions. -/
import Derived.Test.YtggimglopfdhiaaT1
import Derived.Test.YtggimglopfdhiaaA1
set_option linter.unusedVariables false
set_option linter.unusedSimpArgs false
set_option maxRecDepth 100000
set_option maxHeartbeats 1600000
namespace Go.Proofs.Ytggimglopfdhiaa
open Go.RowKit
theorem w_ref01_Text (s : ByteArray) (r : api_Value) (hg : g_ref01_Text s = some r) : Fn Try.prog 62 0 [.val (.string s)] [] (fun d b => d = .agg (api_Value.dv r) ∧ b = []) := by
 unfold g_ref01_Text at hg
 refine Fn.of Try.func62 rfl rfl rfl fun w0 I ρ0 => ?_
 show awp _ ⟨w0, I, ρ0, 0, 0, 6⟩ _ _ _
 refine sr_ 0 8 mk_U ?_
 refine go_ ?_
 refine ch_n fun hU => ?_
 refine sr_ 8 40 hU ?_
 refine go_ ?_
 refine c0_ rfl rfl (r_convB und9 und70 und5) rfl rfl ?_
 refine c0_ rfl rfl (.build (r := [.val (.int .i64 12), .sl 1 (encL e8 (toB s)), .val (.bool false), .val (.slice none 0 0)]) und87 pl87 z87 (by kernel_rfl) rfl) rfl rfl ?_
 refine go_ ?_
 refine ch_n fun hU => ?_
 refine aw_r ?_
 obtain rfl := Option.some.inj hg
 exact fin_ [] ⟨rfl, rfl⟩
theorem w_ref01_Int (n : Int) (r : api_Value) (hg : g_ref01_Int n = some r) : Fn Try.prog 64 0 [.val (.int .i64 n)] [] (fun d b => d = .agg (api_Value.dv r) ∧ b = []) := by
 unfold g_ref01_Int at hg
 refine Fn.of Try.func64 rfl rfl rfl fun w0 I ρ0 => ?_
 show awp _ ⟨w0, I, ρ0, 0, 0, 45⟩ _ _ _
 refine sr_ 0 8 mk_U ?_
 refine go_ ?_
 refine ch_n fun hU => ?_
 refine sr_ 8 40 hU ?_
 refine go_ ?_
 refine c0_ rfl rfl (r_conv_u8 und3 und5) rfl rfl ?_
 refine c0_ rfl rfl (r_buildFull sl70 z5 (by decide) rfl rfl rfl rfl ck5 (cs := [.int .u8 ((u8 n).toNat : Int)]) (.cons .int .nil) rfl (l := ([(u8 n)] : List UInt8)) (f := e8) rfl) rfl rfl ?_
 refine go_ ?_
 refine ch_n fun hU => ?_
 refine awp_seq ?_
 refine sr_ 40 64 hU ?_
 refine go_ ?_
 obtain ⟨q, hq, hg⟩ := bind_some hg
 refine c0_ rfl rfl (r_shrK hq) rfl rfl ?_
 refine go_ ?_
 refine ch_n fun hU => ?_
 refine awp_block ?_
 refine lp_ (fun ((x_1, b_1) : Int × List UInt8) => mk [(2, .ptr 0 0), (3, .row 1), (4, .val (.int .i64 x_1))] [(0, .box [.val (.int .i64 0), .val (.slice none 0 0), .val (.bool false), .val (.slice none 0 0)] 87), (1, .row 5 1 (encL e8 b_1))] 2) hg (sub_ [(0, 0), (1, 24)]) ?_
 rintro ⟨x_1, b_1⟩ m1 o1 hg hn1
 replace hg : g_ref01_Int.l1 x_1 b_1 = some o1 := hg
 show awp _ _ _ _ (mk _ _ _)
 unfold g_ref01_Int.l1 at hg
 refine awp_seq ?_
 refine awp_cut (ι := Bool) (fun (x35_2 : Bool) => mk [(2, .ptr 0 0), (3, .row 1), (4, .val (.int .i64 x_1)), (35, .val (.bool x35_2))] [(0, .box [.val (.int .i64 0), .val (.slice none 0 0), .val (.bool false), .val (.slice none 0 0)] 87), (1, .row 5 1 (encL e8 b_1))] 2) (fun (x35_2 : Bool) => g_ref01_Int.j2 x_1 b_1 x35_2 = some o1) ?_ ?_
 ·refine awp_region (sys _ _ []) 2 210 mk_U rfl rfl ?_
  refine go_ ?_
  rcases bc_ hg with ⟨h4, hg⟩ | ⟨h4, hg⟩
  ·refine go_ ?_
   rcases bc_ hg with ⟨h5, hg⟩ | ⟨h5, hg⟩
   ·refine go_ ?_
    refine ch_n fun hU => ?_
    exact ⟨true, hg, sub_ [(0, 0), (1, 1)]⟩
   ·refine go_ ?_
    rcases bc_ hg with ⟨h7, hg⟩ | ⟨h7, hg⟩
    ·refine go_ ?_
     obtain ⟨e, he, hg⟩ := bind_some hg
     refine go_ ?_
     refine ch_s (rd := [1]) (gdv_t rfl rfl h7) rfl (.loadR1 ty5 (enc_cell e8_len (getI_at he) (o := 0) (c := .int .u8 (e.toNat : Int)) rfl rfl)) rfl rfl ?_
     refine go_ ?_
     rcases bc_ hg with ⟨h8, hg⟩ | ⟨h8, hg⟩
     ·refine go_ ?_
      refine ch_n fun hU => ?_
      exact ⟨true, hg, sub_ [(0, 0), (1, 1)]⟩
     ·refine go_ ?_
      rcases bc_ hg with ⟨h10, hg⟩ | ⟨h10, hg⟩
      ·refine go_ ?_
       refine ch_s (rd := [1]) (gdv_t rfl rfl h10) rfl (.loadR1 ty5 (enc_cell e8_len (getI_at he) (o := 0) (c := .int .u8 (e.toNat : Int)) rfl rfl)) rfl rfl ?_
       refine go_ ?_
       refine ch_n fun hU => ?_
       exact ⟨decide ((e.toNat : Int) < 128), hg, sub_ [(0, 0), (1, 1)]⟩
      ·refine go_ ?_
       refine ch_n fun hU => ?_
       exact ⟨false, hg, sub_ [(0, 0), (1, 1)]⟩
    ·refine go_ ?_
     rcases bc_ hg with ⟨h13, hg⟩ | ⟨h13, hg⟩
     ·refine go_ ?_
      obtain ⟨e_2, he_2, hg⟩ := bind_some hg
      refine go_ ?_
      refine ch_s (rd := [1]) (gdv_t rfl rfl h13) rfl (.loadR1 ty5 (enc_cell e8_len (getI_at he_2) (o := 0) (c := .int .u8 (e_2.toNat : Int)) rfl rfl)) rfl rfl ?_
      refine go_ ?_
      refine ch_n fun hU => ?_
      exact ⟨decide ((e_2.toNat : Int) < 128), hg, sub_ [(0, 0), (1, 1)]⟩
     ·refine go_ ?_
      refine ch_n fun hU => ?_
      exact ⟨false, hg, sub_ [(0, 0), (1, 1)]⟩
  ·refine go_ ?_
   rcases bc_ hg with ⟨h16, hg⟩ | ⟨h16, hg⟩
   ·refine go_ ?_
    obtain ⟨e_3, he_3, hg⟩ := bind_some hg
    refine go_ ?_
    refine ch_s (rd := [1]) (gdv_t rfl rfl h16) rfl (.loadR1 ty5 (enc_cell e8_len (getI_at he_3) (o := 0) (c := .int .u8 (e_3.toNat : Int)) rfl rfl)) rfl rfl ?_
    refine go_ ?_
    rcases bc_ hg with ⟨h17, hg⟩ | ⟨h17, hg⟩
    ·refine go_ ?_
     refine ch_n fun hU => ?_
     exact ⟨true, hg, sub_ [(0, 0), (1, 1)]⟩
    ·refine go_ ?_
     rcases bc_ hg with ⟨h19, hg⟩ | ⟨h19, hg⟩
     ·refine go_ ?_
      refine ch_s (rd := [1]) (gdv_t rfl rfl h19) rfl (.loadR1 ty5 (enc_cell e8_len (getI_at he_3) (o := 0) (c := .int .u8 (e_3.toNat : Int)) rfl rfl)) rfl rfl ?_
      refine go_ ?_
      refine ch_n fun hU => ?_
      exact ⟨decide ((e_3.toNat : Int) < 128), hg, sub_ [(0, 0), (1, 1)]⟩
     ·refine go_ ?_
      refine ch_n fun hU => ?_
      exact ⟨false, hg, sub_ [(0, 0), (1, 1)]⟩
   ·refine go_ ?_
    rcases bc_ hg with ⟨h22, hg⟩ | ⟨h22, hg⟩
    ·refine go_ ?_
     obtain ⟨e_4, he_4, hg⟩ := bind_some hg
     refine go_ ?_
     refine ch_s (rd := [1]) (gdv_t rfl rfl h22) rfl (.loadR1 ty5 (enc_cell e8_len (getI_at he_4) (o := 0) (c := .int .u8 (e_4.toNat : Int)) rfl rfl)) rfl rfl ?_
     refine go_ ?_
     refine ch_n fun hU => ?_
     exact ⟨decide ((e_4.toNat : Int) < 128), hg, sub_ [(0, 0), (1, 1)]⟩
    ·refine go_ ?_
     refine ch_n fun hU => ?_
     exact ⟨false, hg, sub_ [(0, 0), (1, 1)]⟩
 ·rintro x35_2 hg
  replace hg : g_ref01_Int.j2 x_1 b_1 x35_2 = some o1 := hg
  show awp _ _ _ _ (mk _ _ _)
  unfold g_ref01_Int.j2 at hg
  refine cg_ rfl hg (fun h25 hg => ?_) fun h25 hg => ?_
  ·refine awp_skip ?_
   repeat first | refine st_ ?_ | refine sn_ ?_
   refine awp_seq ?_
   refine awp_block ?_
   refine awp_region (sys _ _ []) 2 50 mk_U rfl rfl ?_
   refine go_ ?_
   refine c0_ rfl rfl (r_conv_u8 und3 und5) rfl rfl ?_
   refine c0_ rfl rfl (r_buildFull sl70 z5 (by decide) rfl rfl rfl rfl ck5 (cs := [.int .u8 ((u8 x_1).toNat : Int)]) (.cons .int .nil) rfl (l := ([(u8 x_1)] : List UInt8)) (f := e8) rfl) rfl rfl ?_
   refine go_ ?_
   obtain ⟨l, hl, hg⟩ := bind_some hg
   refine ch_s (rd := [18, 1]) rfl rfl (r_append sl70 e8_len .row rfl .row rfl hl rfl) rfl rfl ?_
   refine go_ ?_
   refine ch_n fun hU => ?_
   refine awp_region (sys _ _ []) 50 74 hU rfl rfl ?_
   refine go_ ?_
   obtain ⟨q_2, hq_2, hg⟩ := bind_some hg
   refine c0_ rfl rfl (r_shrK hq_2) rfl rfl ?_
   refine go_ ?_
   refine ch_n fun hU => ?_
   obtain rfl := Option.some.inj hg
   exact ⟨((q_2, l), m1), Nat.lt_succ_self _, hn1, sub_ [(0, 0), (1, 34)]⟩
  ·refine awp_exit ?_
   repeat first | refine st_ ?_ | refine sn_ ?_
   replace hg := leave hg hn1
   refine sr_ 2 26 mk_U ?_
   refine go_ ?_
   refine c0_ rfl rfl (.build (r := [.val (.int .i64 2), .row 1, .val (.bool false), .val (.slice none 0 0)]) und87 pl87 z87 (by kernel_rfl) rfl) rfl rfl ?_
   refine go_ ?_
   refine ch_n fun hU => ?_
   refine aw_r ?_
   obtain rfl := Option.some.inj hg
   exact fin_ [] ⟨rfl, rfl⟩
theorem w_ref01_copies.F (rec : (List api_Value) → Option ((List api_Value))) (hrec : ∀ (l : (List api_Value)) (r : (List api_Value)), rec l = some r → Fn Try.prog 76 0 [.sl 4 (encL api_Value.enc l)] [] (fun d b => d = .sl 4 (encL api_Value.enc r) ∧ b = [])) (l : (List api_Value)) (r : (List api_Value)) (hg : g_ref01_copies.F rec l = some r) : Fn Try.prog 76 0 [.sl 4 (encL api_Value.enc l)] [] (fun d b => d = .sl 4 (encL api_Value.enc r) ∧ b = []) := by
 unfold g_ref01_copies.F at hg
 refine Fn.of Try.func76 rfl rfl rfl fun w0 I ρ0 => ?_
 show awp _ ⟨w0, I, ρ0, 0, 0, 30⟩ _ _ _
 refine sr_ 0 8 mk_U ?_
 refine go_ ?_
 refine ch_n fun hU => ?_
 refine sr_ 8 16 hU ?_
 refine go_ ?_
 refine ch_n fun hU => ?_
 refine awp_seq ?_
 refine sr_ 16 24 hU ?_
 refine go_ ?_
 refine ch_n fun hU => ?_
 refine awp_block ?_
 refine lp_ (fun ((i_1, out_1) : Int × List api_Value) => mk [(0, .sl 4 (encL api_Value.enc l)), (3, .row 0), (4, .val (.int .i64 i_1))] [(0, .row 87 4 (encL api_Value.enc out_1))] 1) hg (sub_ []) ?_
 rintro ⟨i_1, out_1⟩ m1 o1 hg hn1
 replace hg : g_ref01_copies.l1 rec l i_1 out_1 = some o1 := hg
 show awp _ _ _ _ (mk _ _ _)
 unfold g_ref01_copies.l1 at hg
 refine awp_seq ?_
 refine sr_ 1 33 mk_U ?_
 refine go_ ?_
 refine ch_n fun hU => ?_
 refine cg_ rfl hg (fun h5 hg => ?_) fun h5 hg => ?_
 ·refine awp_skip ?_
  repeat first | refine st_ ?_ | refine sn_ ?_
  refine awp_seq ?_
  refine awp_block ?_
  refine sr_ 33 81 hU ?_
  refine go_ ?_
  obtain ⟨e, he, hg⟩ := bind_some hg
  refine go_ ?_
  refine c0_ rfl rfl (r_loadEA ty87 (enc_cells api_Value.enc_len (getI_at he) (o := 0) (m := 4) (cs := [.int .i64 e.Tag, .sl 1 (encL e8 e.Bytes), .bool e.Nested, .sl 4 (encL api_Value.enc e.Elements)]) (by simp only [api_Value.enc_eq]; rfl) (by decide) rfl) (enc_cells_le api_Value.enc_len (getI_at he) (o := 0) (m := 4) (by decide) rfl)) rfl rfl ?_
  refine go_ ?_
  refine ch_n fun hU => ?_
  refine sr_ 81 129 hU ?_
  refine c0_ rfl rfl (r_buildFull sl70 z5 (by decide) rfl rfl rfl rfl ck5 (cs := []) .nil rfl (l := ([] : List UInt8)) (f := e8) rfl) rfl rfl ?_
  refine go_ ?_
  obtain ⟨l_2, hl_2, hg⟩ := bind_some hg
  refine ch_s (rd := [81]) rfl rfl (r_append sl70 e8_len .row rfl .sl rfl hl_2 rfl) rfl rfl ?_
  refine go_ ?_
  refine ch_n fun hU => ?_
  refine sr_ 129 169 hU ?_
  refine go_ ?_
  obtain ⟨y, hy, hg⟩ := bind_some hg
  refine ca_ (hrec _ _ hy) ?_
  refine go_ ?_
  refine ch_n fun hU => ?_
  refine awp_sub (σ' := mk [(0, .sl 4 (encL api_Value.enc l)), (3, .row 0), (4, .val (.int .i64 i_1)), (5, .ptr 1 0)] [(0, .row 87 4 (encL api_Value.enc out_1)), (1, .box [.val (.int .i64 e.Tag), .sl 1 (encL e8 l_2), .val (.bool e.Nested), .sl 4 (encL api_Value.enc y)] 87)] 2) (sub_ [(0, 0), (1, 65)]) ?_
  refine awp_region (sys _ _ []) 2 42 mk_U rfl rfl ?_
  refine go_ ?_
  refine c0_ rfl rfl (r_buildFull sl85 z87 (by decide) rfl rfl rfl rfl ck87 (cs := [.int .i64 e.Tag, .sl 1 (encL e8 l_2), .bool e.Nested, .sl 4 (encL api_Value.enc y)]) (.cons .int (.cons .sl (.cons .bool (.cons .sl .nil)))) rfl (l := ([(api_Value.mk e.Tag l_2 e.Nested y)] : List api_Value)) (f := api_Value.enc) (by simp only [encL, List.flatMap_cons, List.flatMap_nil, api_Value.enc_eq]; rfl)) rfl rfl ?_
  obtain ⟨l_3, hl_3, hg⟩ := bind_some hg
  refine ch_s (rd := [0, 18]) rfl rfl (r_append sl85 api_Value.enc_len .row rfl .row rfl hl_3 rfl) rfl rfl ?_
  refine go_ ?_
  refine ch_n fun hU => ?_
  refine awp_region (sys _ _ []) 42 66 hU rfl rfl ?_
  refine go_ ?_
  refine ch_n fun hU => ?_
  obtain rfl := Option.some.inj hg
  exact ⟨((W (i_1 + 1), l_3), m1), Nat.lt_succ_self _, hn1, sub_ [(0, 26)]⟩
 ·refine awp_exit ?_
  repeat first | refine st_ ?_ | refine sn_ ?_
  replace hg := leave hg hn1
  refine sr_ 33 49 hU ?_
  refine go_ ?_
  refine ch_n fun hU => ?_
  refine aw_r ?_
  obtain rfl := Option.some.inj hg
  exact fin_ [] ⟨rfl, rfl⟩
theorem w_ref01_copies (l : (List api_Value)) (r : (List api_Value)) (hg : g_ref01_copies l = some r) : Fn Try.prog 76 0 [.sl 4 (encL api_Value.enc l)] [] (fun d b => d = .sl 4 (encL api_Value.enc r) ∧ b = []) :=
 fixT_ind (motive := fun (x : (List api_Value)) (r : (List api_Value)) => Fn Try.prog 76 0 [.sl 4 (encL api_Value.enc x)] [] (fun d b => d = .sl 4 (encL api_Value.enc r) ∧ b = [])) (fun rec hrec x r h => w_ref01_copies.F _ (fun l r h => hrec l r h) x r h) l r hg
theorem w_ref01_List (l : (List api_Value)) (r : api_Value) (hg : g_ref01_List l = some r) : Fn Try.prog 63 0 [.sl 4 (encL api_Value.enc l)] [] (fun d b => d = .agg (api_Value.dv r) ∧ b = []) := by
 unfold g_ref01_List at hg
 refine Fn.of Try.func63 rfl rfl rfl fun w0 I ρ0 => ?_
 show awp _ ⟨w0, I, ρ0, 0, 0, 6⟩ _ _ _
 refine sr_ 0 8 mk_U ?_
 refine go_ ?_
 refine ch_n fun hU => ?_
 refine sr_ 8 40 hU ?_
 refine go_ ?_
 obtain ⟨y, hy, hg⟩ := bind_some hg
 refine ca_ (w_ref01_copies _ _ hy) ?_
 refine c0_ rfl rfl (.build (r := [.val (.int .i64 48), .val (.slice none 0 0), .val (.bool true), .sl 4 (encL api_Value.enc y)]) und87 pl87 z87 (by kernel_rfl) rfl) rfl rfl ?_
 refine go_ ?_
 refine ch_n fun hU => ?_
 refine aw_r ?_
 obtain rfl := Option.some.inj hg
 exact fin_ [] ⟨rfl, rfl⟩
theorem w_ref03_use (u : api_Use) (r : api_Value) (hg : g_ref03_use u = some r) : Fn Try.prog 65 0 [.agg [.val (.int .i64 u.Alg), .val (.int .i64 u.Bits)]] [] (fun d b => d = .agg (api_Value.dv r) ∧ b = []) := by
 unfold g_ref03_use at hg
 refine Fn.of Try.func65 rfl rfl rfl fun w0 I ρ0 => ?_
 show awp _ ⟨w0, I, ρ0, 0, 0, 11⟩ _ _ _
 refine sr_ 0 16 mk_U ?_
 refine go_ ?_
 refine ch_n fun hU => ?_
 refine awp_seq ?_
 refine awp_draw (sys _ _ [64]) (by kernel_rfl) [0, 1, 3, 0, 8, 31, 63, 127, 255] 16 88 hU rfl rfl (by kernel_rfl) ?_
 refine go_ ?_
 obtain ⟨y, hy, hg⟩ := bind_some hg
 refine ca_ (w_ref01_Int _ _ hy) ?_
 refine go_ ?_
 obtain ⟨y_2, hy_2, hg⟩ := bind_some hg
 refine ca_ (w_ref01_Int _ _ hy_2) ?_
 refine ch_z (rd := []) rfl rfl (r_buildFull sl85 z87 (by decide) rfl rfl rfl rfl ck87 (cs := [.int .i64 y.Tag, .sl 1 (encL e8 y.Bytes), .bool y.Nested, .sl 4 (encL api_Value.enc y.Elements), .int .i64 y_2.Tag, .sl 1 (encL e8 y_2.Bytes), .bool y_2.Nested, .sl 4 (encL api_Value.enc y_2.Elements)]) (.cons .int (.cons .sl (.cons .bool (.cons .sl (.cons .int (.cons .sl (.cons .bool (.cons .sl .nil)))))))) rfl (l := ([y, y_2] : List api_Value)) (f := api_Value.enc) (by simp only [encL, List.flatMap_cons, List.flatMap_nil, api_Value.enc_eq]; rfl)) rfl rfl rfl ?_
 obtain ⟨y_3, hy_3, hg⟩ := bind_some hg
 refine ca_ (w_ref01_List _ _ hy_3) ?_
 refine go_ ?_
 refine ch_n fun hU => ?_
 refine aw_r ?_
 obtain rfl := Option.some.inj hg
 exact fin_ [] ⟨rfl, rfl⟩
theorem w_ref01_Bool (b : Bool) (r : api_Value) (hg : g_ref01_Bool b = some r) : Fn Try.prog 66 0 [.val (.bool b)] [] (fun d b => d = .agg (api_Value.dv r) ∧ b = []) := by
 unfold g_ref01_Bool at hg
 refine Fn.of Try.func66 rfl rfl rfl fun w0 I ρ0 => ?_
 show awp _ ⟨w0, I, ρ0, 0, 0, 8⟩ _ _ _
 refine sr_ 0 8 mk_U ?_
 refine go_ ?_
 refine ch_n fun hU => ?_
 refine awp_seq ?_
 refine sr_ 8 16 hU ?_
 refine go_ ?_
 refine ch_n fun hU => ?_
 refine cg_ rfl hg (fun h3 hg => ?_) fun h3 hg => ?_
 ·refine awp_seq ?_
  refine awp_region (sys _ _ []) 16 40 hU rfl rfl ?_
  refine c0_ rfl rfl (r_buildFull sl70 z5 (by decide) rfl rfl rfl rfl ck5 (cs := [.int .u8 255]) (.cons .int .nil) rfl (l := ([(255 : UInt8)] : List UInt8)) (f := e8) rfl) rfl rfl ?_
  refine c0_ rfl rfl (.build (r := [.val (.int .i64 1), .row 16, .val (.bool false), .val (.slice none 0 0)]) und87 pl87 z87 (by kernel_rfl) rfl) rfl rfl ?_
  refine go_ ?_
  refine ch_n fun hU => ?_
  refine aw_r ?_
  obtain rfl := Option.some.inj hg
  exact fin_ [] ⟨rfl, rfl⟩
 ·refine awp_skip ?_
  repeat first | refine st_ ?_ | refine sn_ ?_
  refine sr_ 16 40 hU ?_
  refine c0_ rfl rfl (r_buildFull sl70 z5 (by decide) rfl rfl rfl rfl ck5 (cs := [.int .u8 0]) (.cons .int .nil) rfl (l := ([(0 : UInt8)] : List UInt8)) (f := e8) rfl) rfl rfl ?_
  refine c0_ rfl rfl (.build (r := [.val (.int .i64 1), .row 16, .val (.bool false), .val (.slice none 0 0)]) und87 pl87 z87 (by kernel_rfl) rfl) rfl rfl ?_
  refine go_ ?_
  refine ch_n fun hU => ?_
  refine aw_r ?_
  obtain rfl := Option.some.inj hg
  exact fin_ [] ⟨rfl, rfl⟩
theorem w_ref03_body (c : api_Certificate) (r : api_Value) (hg : g_ref03_body c = some r) : Fn Try.prog 49 0 [.agg (api_Certificate.dv c)] [] (fun d b => d = .agg (api_Value.dv r) ∧ b = []) := by
 unfold g_ref03_body at hg
 refine Fn.of Try.func49 rfl rfl rfl fun w0 I ρ0 => ?_
 show awp _ ⟨w0, I, ρ0, 0, 0, 55⟩ _ _ _
 refine sr_ 0 16 mk_U ?_
 refine go_ ?_
 refine ch_n fun hU => ?_
 refine sr_ 16 24 hU ?_
 refine go_ ?_
 refine ch_n fun hU => ?_
 refine awp_seq ?_
 refine sr_ 24 32 hU ?_
 refine go_ ?_
 refine ch_n fun hU => ?_
 refine awp_block ?_
 refine lp_ (fun ((i_1, names_1) : Int × List api_Value) => mk [(1, .ptr 0 0), (2, .ptr 1 0), (3, .row 2), (4, .val (.int .i64 i_1))] [(0, .box (api_Certificate.dv c) 40), (1, .box [.val (.int .i64 0), .val (.slice none 0 0), .val (.bool false), .val (.slice none 0 0)] 87), (2, .row 87 4 (encL api_Value.enc names_1))] 3) hg (sub_ [(0, 0), (1, 8)]) ?_
 rintro ⟨i_1, names_1⟩ m1 o1 hg hn1
 replace hg : g_ref03_body.l1 c i_1 names_1 = some o1 := hg
 show awp _ _ _ _ (mk _ _ _)
 unfold g_ref03_body.l1 at hg
 refine awp_seq ?_
 refine sr_ 3 43 mk_U ?_
 refine go_ ?_
 refine ch_n fun hU => ?_
 refine cg_ rfl hg (fun h5 hg => ?_) fun h5 hg => ?_
 ·refine awp_skip ?_
  repeat first | refine st_ ?_ | refine sn_ ?_
  refine awp_seq ?_
  refine awp_block ?_
  refine awp_region (sys _ _ []) 43 123 hU rfl rfl ?_
  refine go_ ?_
  obtain ⟨e, he, hg⟩ := bind_some hg
  refine go_ ?_
  refine c0_ rfl rfl (r_loadE1 ty9 (enc_cell eS_len (getI_at he) (o := 0) (c := .str e) rfl rfl)) rfl rfl ?_
  obtain ⟨y, hy, hg⟩ := bind_some hg
  refine ca_ (w_ref01_Text _ _ hy) ?_
  refine c0_ rfl rfl (r_buildFull sl85 z87 (by decide) rfl rfl rfl rfl ck87 (cs := [.int .i64 y.Tag, .sl 1 (encL e8 y.Bytes), .bool y.Nested, .sl 4 (encL api_Value.enc y.Elements)]) (.cons .int (.cons .sl (.cons .bool (.cons .sl .nil)))) rfl (l := ([y] : List api_Value)) (f := api_Value.enc) (by simp only [encL, List.flatMap_cons, List.flatMap_nil, api_Value.enc_eq]; rfl)) rfl rfl ?_
  obtain ⟨l, hl, hg⟩ := bind_some hg
  refine ch_s (rd := [2, 99]) rfl rfl (r_append sl85 api_Value.enc_len .row rfl .row rfl hl rfl) rfl rfl ?_
  refine go_ ?_
  refine ch_n fun hU => ?_
  refine awp_region (sys _ _ []) 123 147 hU rfl rfl ?_
  refine go_ ?_
  refine ch_n fun hU => ?_
  obtain rfl := Option.some.inj hg
  exact ⟨((W (i_1 + 1), l), m1), Nat.lt_succ_self _, hn1, sub_ [(0, 0), (1, 1), (2, 107)]⟩
 ·refine awp_exit ?_
  repeat first | refine st_ ?_ | refine sn_ ?_
  replace hg := leave hg hn1
  refine awp_seq ?_
  refine awp_sub (σ' := mk [(1, .ptr 0 0), (2, .ptr 1 0), (3, .sl 4 (encL api_Value.enc names_1))] [(0, .box (api_Certificate.dv c) 40), (1, .box [.val (.int .i64 0), .val (.slice none 0 0), .val (.bool false), .val (.slice none 0 0)] 87)] 2) (sub_ [(0, 0), (1, 1)]) ?_
  refine awp_draw (sys _ _ [258]) (by kernel_rfl) [0, 1, 3, 0, 8, 31, 0, 64, 255, 0, 512, 2047, 0, 4096, 16383, 0, 32768, 131071, 0, 262144, 1048575, 0, 2097152, 8388607, 0, 16777216, 67108863, 0, 134217728, 536870911, 0, 2147483647, 4294967295, 8589934591, 17179869183] 2 282 mk_U rfl rfl (by kernel_rfl) ?_
  refine go_ ?_
  obtain ⟨y_12, hy_12, hg⟩ := bind_some hg
  refine ca_ (w_ref01_Int _ _ hy_12) ?_
  refine go_ ?_
  obtain ⟨y_13, hy_13, hg⟩ := bind_some hg
  refine ca_ (w_ref01_Text _ _ hy_13) ?_
  refine go_ ?_
  obtain ⟨y_14, hy_14, hg⟩ := bind_some hg
  refine ca_ (w_ref01_Text _ _ hy_14) ?_
  refine go_ ?_
  obtain ⟨y_15, hy_15, hg⟩ := bind_some hg
  refine ca_ (w_ref03_use _ _ hy_15) ?_
  refine go_ ?_
  obtain ⟨y_16, hy_16, hg⟩ := bind_some hg
  refine ca_ (w_ref01_Int _ _ hy_16) ?_
  refine go_ ?_
  obtain ⟨y_17, hy_17, hg⟩ := bind_some hg
  refine ca_ (w_ref03_use _ _ hy_17) ?_
  refine go_ ?_
  obtain ⟨y_18, hy_18, hg⟩ := bind_some hg
  refine ca_ (w_ref01_Int _ _ hy_18) ?_
  refine go_ ?_
  obtain ⟨y_19, hy_19, hg⟩ := bind_some hg
  refine ca_ (w_ref01_Int _ _ hy_19) ?_
  refine go_ ?_
  obtain ⟨y_20, hy_20, hg⟩ := bind_some hg
  refine ca_ (w_ref01_Bool _ _ hy_20) ?_
  refine go_ ?_
  obtain ⟨y_21, hy_21, hg⟩ := bind_some hg
  refine ca_ (w_ref01_Int _ _ hy_21) ?_
  refine go_ ?_
  obtain ⟨y_22, hy_22, hg⟩ := bind_some hg
  refine ca_ (w_ref01_List _ _ hy_22) ?_
  refine ch_z (rd := []) rfl rfl (r_buildFull sl85 z87 (by decide) rfl rfl rfl rfl ck87 (cs := [.int .i64 y_12.Tag, .sl 1 (encL e8 y_12.Bytes), .bool y_12.Nested, .sl 4 (encL api_Value.enc y_12.Elements), .int .i64 y_13.Tag, .sl 1 (encL e8 y_13.Bytes), .bool y_13.Nested, .sl 4 (encL api_Value.enc y_13.Elements), .int .i64 y_14.Tag, .sl 1 (encL e8 y_14.Bytes), .bool y_14.Nested, .sl 4 (encL api_Value.enc y_14.Elements), .int .i64 y_15.Tag, .sl 1 (encL e8 y_15.Bytes), .bool y_15.Nested, .sl 4 (encL api_Value.enc y_15.Elements), .int .i64 y_16.Tag, .sl 1 (encL e8 y_16.Bytes), .bool y_16.Nested, .sl 4 (encL api_Value.enc y_16.Elements), .int .i64 y_17.Tag, .sl 1 (encL e8 y_17.Bytes), .bool y_17.Nested, .sl 4 (encL api_Value.enc y_17.Elements), .int .i64 y_18.Tag, .sl 1 (encL e8 y_18.Bytes), .bool y_18.Nested, .sl 4 (encL api_Value.enc y_18.Elements), .int .i64 y_19.Tag, .sl 1 (encL e8 y_19.Bytes), .bool y_19.Nested, .sl 4 (encL api_Value.enc y_19.Elements), .int .i64 y_20.Tag, .sl 1 (encL e8 y_20.Bytes), .bool y_20.Nested, .sl 4 (encL api_Value.enc y_20.Elements), .int .i64 y_21.Tag, .sl 1 (encL e8 y_21.Bytes), .bool y_21.Nested, .sl 4 (encL api_Value.enc y_21.Elements), .int .i64 y_22.Tag, .sl 1 (encL e8 y_22.Bytes), .bool y_22.Nested, .sl 4 (encL api_Value.enc y_22.Elements)]) (.cons .int (.cons .sl (.cons .bool (.cons .sl (.cons .int (.cons .sl (.cons .bool (.cons .sl (.cons .int (.cons .sl (.cons .bool (.cons .sl (.cons .int (.cons .sl (.cons .bool (.cons .sl (.cons .int (.cons .sl (.cons .bool (.cons .sl (.cons .int (.cons .sl (.cons .bool (.cons .sl (.cons .int (.cons .sl (.cons .bool (.cons .sl (.cons .int (.cons .sl (.cons .bool (.cons .sl (.cons .int (.cons .sl (.cons .bool (.cons .sl (.cons .int (.cons .sl (.cons .bool (.cons .sl (.cons .int (.cons .sl (.cons .bool (.cons .sl .nil)))))))))))))))))))))))))))))))))))))))))))) rfl (l := ([y_12, y_13, y_14, y_15, y_16, y_17, y_18, y_19, y_20, y_21, y_22] : List api_Value)) (f := api_Value.enc) (by simp only [encL, List.flatMap_cons, List.flatMap_nil, api_Value.enc_eq]; rfl)) rfl rfl rfl ?_
  obtain ⟨y_23, hy_23, hg⟩ := bind_some hg
  refine ca_ (w_ref01_List _ _ hy_23) ?_
  refine go_ ?_
  refine ch_n fun hU => ?_
  refine aw_r ?_
  obtain rfl := Option.some.inj hg
  exact fin_ [] ⟨rfl, rfl⟩
theorem w_ref01_tag (n : Int) (r : Bool) (hg : g_ref01_tag n = some r) : Fn Try.prog 74 0 [.val (.int .i64 n)] [] (fun d b => d = .val (.bool r) ∧ b = []) := by
 unfold g_ref01_tag at hg
 refine Fn.of Try.func74 rfl rfl rfl fun w0 I ρ0 => ?_
 show awp _ ⟨w0, I, ρ0, 0, 0, 14⟩ _ _ _
 refine sr_ 0 8 mk_U ?_
 refine go_ ?_
 refine ch_n fun hU => ?_
 refine sr_ 8 104 hU ?_
 refine go_ ?_
 rcases bc_ hg with ⟨h2, hg⟩ | ⟨h2, hg⟩
 ·refine go_ ?_
  rcases bc_ hg with ⟨h3, hg⟩ | ⟨h3, hg⟩
  ·refine go_ ?_
   obtain ⟨q, hq, hg⟩ := bind_some hg
   refine c0_ (gdv_t rfl rfl h3) rfl (r_rem hq) rfl rfl ?_
   refine go_ ?_
   refine ch_n fun hU => ?_
   refine aw_r ?_
   obtain rfl := Option.some.inj hg
   exact fin_ [] ⟨rfl, rfl⟩
  ·refine go_ ?_
   refine ch_n fun hU => ?_
   refine aw_r ?_
   obtain rfl := Option.some.inj hg
   exact fin_ [] ⟨rfl, rfl⟩
 ·refine go_ ?_
  refine ch_n fun hU => ?_
  refine aw_r ?_
  obtain rfl := Option.some.inj hg
  exact fin_ [] ⟨rfl, rfl⟩
theorem w_ref01_formed.F (rec : api_Value → Option (Bool)) (hrec : ∀ (v : api_Value) (r : Bool), rec v = some r → Fn Try.prog 59 0 [.agg (api_Value.dv v)] [] (fun d b => d = .val (.bool r) ∧ b = [])) (v : api_Value) (r : Bool) (hg : g_ref01_formed.F rec v = some r) : Fn Try.prog 59 0 [.agg (api_Value.dv v)] [] (fun d b => d = .val (.bool r) ∧ b = []) := by
 unfold g_ref01_formed.F at hg
 refine Fn.of Try.func59 rfl rfl rfl fun w0 I ρ0 => ?_
 show awp _ ⟨w0, I, ρ0, 0, 0, 53⟩ _ _ _
 refine sr_ 0 16 mk_U ?_
 refine go_ ?_
 refine ch_n fun hU => ?_
 refine awp_seq ?_
 refine awp_cut (ι := Bool) (fun (x38_1 : Bool) => mk [(1, .ptr 0 0), (38, .val (.bool x38_1))] [(0, .box (api_Value.dv v) 87)] 1) (fun (x38_1 : Bool) => g_ref01_formed.j1 rec v x38_1 = some r) ?_ ?_
 ·refine awp_region (sys _ _ []) 16 296 hU rfl rfl ?_
  refine go_ ?_
  obtain ⟨y, hy, hg⟩ := bind_some hg
  refine ca_ (w_ref01_tag _ _ hy) ?_
  refine go_ ?_
  rcases bc_ hg with ⟨h2, hg⟩ | ⟨h2, hg⟩
  ·refine go_ ?_
   refine ch_n fun hU => ?_
   exact ⟨true, hg, sub_ [(0, 0)]⟩
  ·refine go_ ?_
   obtain ⟨q, hq, hg⟩ := bind_some hg
   refine c0_ (gdv_t rfl rfl h2) rfl (r_quo hq) rfl rfl ?_
   obtain ⟨q_2, hq_2, hg⟩ := bind_some hg
   refine c0_ (gdv_t rfl rfl h2) rfl (r_rem hq_2) rfl rfl ?_
   refine go_ ?_
   refine c0_ (gdv_t rfl rfl h2) rfl (r_bneq und4) rfl rfl ?_
   refine go_ ?_
   rcases bc_ hg with ⟨h4, hg⟩ | ⟨h4, hg⟩
   ·refine go_ ?_
    refine ch_n fun hU => ?_
    exact ⟨true, hg, sub_ [(0, 0)]⟩
   ·refine go_ ?_
    rcases bc_ hg with ⟨h6, hg⟩ | ⟨h6, hg⟩
    ·refine go_ ?_
     rcases bc_ hg with ⟨h7, hg⟩ | ⟨h7, hg⟩
     ·refine go_ ?_
      refine ch_n fun hU => ?_
      exact ⟨true, hg, sub_ [(0, 0)]⟩
     ·refine go_ ?_
      refine ch_n fun hU => ?_
      exact ⟨false, hg, sub_ [(0, 0)]⟩
    ·refine go_ ?_
     refine ch_n fun hU => ?_
     exact ⟨decide (0 < (v.Elements.length : Int)), hg, sub_ [(0, 0)]⟩
 ·rintro x38_1 hg
  replace hg : g_ref01_formed.j1 rec v x38_1 = some r := hg
  show awp _ _ _ _ (mk _ _ _)
  unfold g_ref01_formed.j1 at hg
  refine cg_ rfl hg (fun h11 hg => ?_) fun h11 hg => ?_
  ·refine awp_seq ?_
   refine awp_region (sys _ _ []) 1 9 mk_U rfl rfl ?_
   refine go_ ?_
   refine ch_n fun hU => ?_
   refine aw_r ?_
   obtain rfl := Option.some.inj hg
   exact fin_ [] ⟨rfl, rfl⟩
  ·refine awp_skip ?_
   repeat first | refine st_ ?_ | refine sn_ ?_
   refine awp_seq ?_
   refine sr_ 1 9 mk_U ?_
   refine go_ ?_
   refine ch_n fun hU => ?_
   refine awp_block ?_
   refine lp_ (fun (i_2 : Int) => mk [(1, .ptr 0 0), (3, .val (.int .i64 i_2))] [(0, .box (api_Value.dv v) 87)] 1) hg (sub_ [(0, 0)]) ?_
   rintro i_2 m2 o2 hg hn2
   replace hg : g_ref01_formed.l2 rec v i_2 = some o2 := hg
   show awp _ _ _ _ (mk _ _ _)
   unfold g_ref01_formed.l2 at hg
   refine awp_seq ?_
   refine sr_ 1 41 mk_U ?_
   refine go_ ?_
   refine ch_n fun hU => ?_
   refine cg_ rfl hg (fun h15 hg => ?_) fun h15 hg => ?_
   ·refine awp_skip ?_
    repeat first | refine st_ ?_ | refine sn_ ?_
    refine awp_seq ?_
    refine awp_block ?_
    refine sr_ 41 97 hU ?_
    refine go_ ?_
    obtain ⟨e, he, hg⟩ := bind_some hg
    refine go_ ?_
    refine c0_ rfl rfl (r_loadEA ty87 (enc_cells api_Value.enc_len (getI_at he) (o := 0) (m := 4) (cs := [.int .i64 e.Tag, .sl 1 (encL e8 e.Bytes), .bool e.Nested, .sl 4 (encL api_Value.enc e.Elements)]) (by simp only [api_Value.enc_eq]; rfl) (by decide) rfl) (enc_cells_le api_Value.enc_len (getI_at he) (o := 0) (m := 4) (by decide) rfl)) rfl rfl ?_
    obtain ⟨y_2, hy_2, hg⟩ := bind_some hg
    refine ca_ (hrec _ _ hy_2) ?_
    refine go_ ?_
    refine ch_n fun hU => ?_
    refine cg_ rfl hg (fun h17 hg => ?_) fun h17 hg => ?_
    ·refine awp_seq ?_
     refine awp_region (sys _ _ []) 97 105 hU rfl rfl ?_
     refine go_ ?_
     refine ch_n fun hU => ?_
     refine aw_r ?_
     replace hg := leave hg hn2
     obtain rfl := Option.some.inj hg
     exact fin_ [] ⟨rfl, rfl⟩
    ·refine awp_skip ?_
     repeat first | refine st_ ?_ | refine sn_ ?_
     refine awp_region (sys _ _ []) 97 121 hU rfl rfl ?_
     refine go_ ?_
     refine ch_n fun hU => ?_
     obtain rfl := Option.some.inj hg
     exact ⟨(W (i_2 + 1), m2), Nat.lt_succ_self _, hn2, sub_ [(0, 0)]⟩
   ·refine awp_exit ?_
    repeat first | refine st_ ?_ | refine sn_ ?_
    replace hg := leave hg hn2
    refine sr_ 41 49 hU ?_
    refine go_ ?_
    refine ch_n fun hU => ?_
    refine aw_r ?_
    obtain rfl := Option.some.inj hg
    exact fin_ [] ⟨rfl, rfl⟩
theorem w_ref01_formed (v : api_Value) (r : Bool) (hg : g_ref01_formed v = some r) : Fn Try.prog 59 0 [.agg (api_Value.dv v)] [] (fun d b => d = .val (.bool r) ∧ b = []) :=
 fixT_ind (motive := fun (x : api_Value) (r : Bool) => Fn Try.prog 59 0 [.agg (api_Value.dv x)] [] (fun d b => d = .val (.bool r) ∧ b = [])) (fun rec hrec x r h => w_ref01_formed.F _ (fun v r h => hrec v r h) x r h) v r hg
theorem w_ref01_depth.F (rec : api_Value → Option (Int)) (hrec : ∀ (v : api_Value) (r : Int), rec v = some r → Fn Try.prog 60 0 [.agg (api_Value.dv v)] [] (fun d b => d = .val (.int .i64 r) ∧ b = [])) (v : api_Value) (r : Int) (hg : g_ref01_depth.F rec v = some r) : Fn Try.prog 60 0 [.agg (api_Value.dv v)] [] (fun d b => d = .val (.int .i64 r) ∧ b = []) := by
 unfold g_ref01_depth.F at hg
 refine Fn.of Try.func60 rfl rfl rfl fun w0 I ρ0 => ?_
 show awp _ ⟨w0, I, ρ0, 0, 0, 22⟩ _ _ _
 refine sr_ 0 16 mk_U ?_
 refine go_ ?_
 refine ch_n fun hU => ?_
 refine sr_ 16 24 hU ?_
 refine go_ ?_
 refine ch_n fun hU => ?_
 refine awp_seq ?_
 refine sr_ 24 32 hU ?_
 refine go_ ?_
 refine ch_n fun hU => ?_
 refine awp_block ?_
 refine lp_ (fun ((d_1, i_1) : Int × Int) => mk [(1, .ptr 0 0), (3, .val (.int .i64 d_1)), (4, .val (.int .i64 i_1))] [(0, .box (api_Value.dv v) 87)] 1) hg (sub_ [(0, 0)]) ?_
 rintro ⟨d_1, i_1⟩ m1 o1 hg hn1
 replace hg : g_ref01_depth.l1 rec v d_1 i_1 = some o1 := hg
 show awp _ _ _ _ (mk _ _ _)
 unfold g_ref01_depth.l1 at hg
 refine awp_seq ?_
 refine sr_ 1 41 mk_U ?_
 refine go_ ?_
 refine ch_n fun hU => ?_
 refine cg_ rfl hg (fun h5 hg => ?_) fun h5 hg => ?_
 ·refine awp_skip ?_
  repeat first | refine st_ ?_ | refine sn_ ?_
  refine awp_seq ?_
  refine awp_block ?_
  refine awp_region (sys _ _ []) 41 113 hU rfl rfl ?_
  refine go_ ?_
  obtain ⟨e, he, hg⟩ := bind_some hg
  refine go_ ?_
  refine c0_ rfl rfl (r_loadEA ty87 (enc_cells api_Value.enc_len (getI_at he) (o := 0) (m := 4) (cs := [.int .i64 e.Tag, .sl 1 (encL e8 e.Bytes), .bool e.Nested, .sl 4 (encL api_Value.enc e.Elements)]) (by simp only [api_Value.enc_eq]; rfl) (by decide) rfl) (enc_cells_le api_Value.enc_len (getI_at he) (o := 0) (m := 4) (by decide) rfl)) rfl rfl ?_
  obtain ⟨y, hy, hg⟩ := bind_some hg
  refine ca_ (hrec _ _ hy) ?_
  refine c0_ rfl rfl r_max rfl rfl ?_
  refine go_ ?_
  refine ch_n fun hU => ?_
  refine awp_region (sys _ _ []) 113 137 hU rfl rfl ?_
  refine go_ ?_
  refine ch_n fun hU => ?_
  obtain rfl := Option.some.inj hg
  exact ⟨((max d_1 y, W (i_1 + 1)), m1), Nat.lt_succ_self _, hn1, sub_ [(0, 0)]⟩
 ·refine awp_exit ?_
  repeat first | refine st_ ?_ | refine sn_ ?_
  replace hg := leave hg hn1
  refine sr_ 41 65 hU ?_
  refine go_ ?_
  refine ch_n fun hU => ?_
  refine aw_r ?_
  obtain rfl := Option.some.inj hg
  exact fin_ [] ⟨rfl, rfl⟩
theorem w_ref01_depth (v : api_Value) (r : Int) (hg : g_ref01_depth v = some r) : Fn Try.prog 60 0 [.agg (api_Value.dv v)] [] (fun d b => d = .val (.int .i64 r) ∧ b = []) :=
 fixT_ind (motive := fun (x : api_Value) (r : Int) => Fn Try.prog 60 0 [.agg (api_Value.dv x)] [] (fun d b => d = .val (.int .i64 r) ∧ b = [])) (fun rec hrec x r h => w_ref01_depth.F _ (fun v r h => hrec v r h) x r h) v r hg
theorem w_ref01_length (n : Int) (r : (List UInt8)) (hg : g_ref01_length n = some r) : Fn Try.prog 75 0 [.val (.int .i64 n)] [] (fun d b => d = .sl 1 (encL e8 r) ∧ b = []) := by
 unfold g_ref01_length at hg
 refine Fn.of Try.func75 rfl rfl rfl fun w0 I ρ0 => ?_
 show awp _ ⟨w0, I, ρ0, 0, 0, 26⟩ _ _ _
 refine sr_ 0 8 mk_U ?_
 refine go_ ?_
 refine ch_n fun hU => ?_
 refine awp_seq ?_
 refine sr_ 8 24 hU ?_
 refine go_ ?_
 refine ch_n fun hU => ?_
 refine cg_ rfl hg (fun h3 hg => ?_) fun h3 hg => ?_
 ·refine awp_seq ?_
  refine awp_region (sys _ _ []) 24 56 hU rfl rfl ?_
  refine go_ ?_
  refine c0_ rfl rfl (r_conv_u8 und3 und5) rfl rfl ?_
  refine c0_ rfl rfl (r_buildFull sl70 z5 (by decide) rfl rfl rfl rfl ck5 (cs := [.int .u8 ((u8 n).toNat : Int)]) (.cons .int .nil) rfl (l := ([(u8 n)] : List UInt8)) (f := e8) rfl) rfl rfl ?_
  refine go_ ?_
  refine ch_n fun hU => ?_
  refine aw_r ?_
  obtain rfl := Option.some.inj hg
  exact fin_ [] ⟨rfl, rfl⟩
 ·refine awp_skip ?_
  repeat first | refine st_ ?_ | refine sn_ ?_
  refine sr_ 24 32 hU ?_
  refine go_ ?_
  refine ch_n fun hU => ?_
  refine awp_seq ?_
  refine awp_block ?_
  refine lp_ (fun ((n_1, b_1) : Int × List UInt8) => mk [(0, .val (.int .i64 n_1)), (3, .row 0)] [(0, .row 5 1 (encL e8 b_1))] 1) hg (sub_ []) ?_
  rintro ⟨n_1, b_1⟩ m1 o1 hg hn1
  replace hg : g_ref01_length.l1 n_1 b_1 = some o1 := hg
  show awp _ _ _ _ (mk _ _ _)
  unfold g_ref01_length.l1 at hg
  refine awp_seq ?_
  refine sr_ 1 17 mk_U ?_
  refine go_ ?_
  refine ch_n fun hU => ?_
  refine cg_ rfl hg (fun h7 hg => ?_) fun h7 hg => ?_
  ·refine awp_skip ?_
   repeat first | refine st_ ?_ | refine sn_ ?_
   refine awp_block ?_
   refine sr_ 17 73 hU ?_
   refine go_ ?_
   obtain ⟨q, hq, hg⟩ := bind_some hg
   refine c0_ rfl rfl (r_rem hq) rfl rfl ?_
   refine c0_ rfl rfl (r_conv_u8 und3 und5) rfl rfl ?_
   refine c0_ rfl rfl (r_buildFull sl70 z5 (by decide) rfl rfl rfl rfl ck5 (cs := [.int .u8 ((u8 q).toNat : Int)]) (.cons .int .nil) rfl (l := ([(u8 q)] : List UInt8)) (f := e8) rfl) rfl rfl ?_
   refine go_ ?_
   obtain ⟨l, hl, hg⟩ := bind_some hg
   refine ch_s (rd := [41, 0]) rfl rfl (r_append sl70 e8_len .row rfl .row rfl hl rfl) rfl rfl ?_
   refine go_ ?_
   refine ch_n fun hU => ?_
   refine awp_region (sys _ _ []) 73 97 hU rfl rfl ?_
   refine go_ ?_
   obtain ⟨q_2, hq_2, hg⟩ := bind_some hg
   refine c0_ rfl rfl (r_quo hq_2) rfl rfl ?_
   refine go_ ?_
   refine ch_n fun hU => ?_
   obtain rfl := Option.some.inj hg
   exact ⟨((q_2, l), m1), Nat.lt_succ_self _, hn1, sub_ [(0, 57)]⟩
  ·refine awp_exit ?_
   repeat first | refine st_ ?_ | refine sn_ ?_
   replace hg := leave hg hn1
   refine sr_ 17 81 hU ?_
   refine go_ ?_
   refine c0_ rfl rfl (r_conv_u8 und3 und5) rfl rfl ?_
   refine c0_ rfl rfl (r_buildFull sl70 z5 (by decide) rfl rfl rfl rfl ck5 (cs := [.int .u8 ((u8 (W (128 + (b_1.length : Int)))).toNat : Int)]) (.cons .int .nil) rfl (l := ([(u8 (W (128 + (b_1.length : Int))))] : List UInt8)) (f := e8) rfl) rfl rfl ?_
   refine go_ ?_
   obtain ⟨l_2, hl_2, hg⟩ := bind_some hg
   refine ch_s (rd := [49, 0]) rfl rfl (r_append sl70 e8_len .row rfl .row rfl hl_2 rfl) rfl rfl ?_
   refine go_ ?_
   refine ch_n fun hU => ?_
   refine aw_r ?_
   obtain rfl := Option.some.inj hg
   exact fin_ [] ⟨rfl, rfl⟩
theorem w_ref01_put.F (rec : api_Value → Option ((List UInt8))) (hrec : ∀ (v : api_Value) (r : (List UInt8)), rec v = some r → Fn Try.prog 61 0 [.agg (api_Value.dv v)] [] (fun d b => d = .sl 1 (encL e8 r) ∧ b = [])) (v : api_Value) (r : (List UInt8)) (hg : g_ref01_put.F rec v = some r) : Fn Try.prog 61 0 [.agg (api_Value.dv v)] [] (fun d b => d = .sl 1 (encL e8 r) ∧ b = []) := by
 unfold g_ref01_put.F at hg
 refine Fn.of Try.func61 rfl rfl rfl fun w0 I ρ0 => ?_
 show awp _ ⟨w0, I, ρ0, 0, 0, 34⟩ _ _ _
 refine sr_ 0 16 mk_U ?_
 refine go_ ?_
 refine ch_n fun hU => ?_
 refine sr_ 16 56 hU ?_
 refine c0_ rfl rfl (r_buildFull sl70 z5 (by decide) rfl rfl rfl rfl ck5 (cs := []) .nil rfl (l := ([] : List UInt8)) (f := e8) rfl) rfl rfl ?_
 refine go_ ?_
 obtain ⟨l, hl, hg⟩ := bind_some hg
 refine ch_s (rd := [16]) rfl rfl (r_append sl70 e8_len .row rfl .sl rfl hl rfl) rfl rfl ?_
 refine go_ ?_
 refine ch_n fun hU => ?_
 refine awp_seq ?_
 refine sr_ 56 64 hU ?_
 refine go_ ?_
 refine ch_n fun hU => ?_
 refine awp_block ?_
 refine lp_ (fun ((i_1, b_1) : Int × List UInt8) => mk [(1, .ptr 0 0), (3, .row 1), (4, .val (.int .i64 i_1))] [(0, .box (api_Value.dv v) 87), (1, .row 5 1 (encL e8 b_1))] 2) hg (sub_ [(0, 0), (1, 40)]) ?_
 rintro ⟨i_1, b_1⟩ m1 o1 hg hn1
 replace hg : g_ref01_put.l1 rec v i_1 b_1 = some o1 := hg
 show awp _ _ _ _ (mk _ _ _)
 unfold g_ref01_put.l1 at hg
 refine awp_seq ?_
 refine sr_ 2 42 mk_U ?_
 refine go_ ?_
 refine ch_n fun hU => ?_
 refine cg_ rfl hg (fun h5 hg => ?_) fun h5 hg => ?_
 ·refine awp_skip ?_
  repeat first | refine st_ ?_ | refine sn_ ?_
  refine awp_seq ?_
  refine awp_block ?_
  refine awp_region (sys _ _ []) 42 114 hU rfl rfl ?_
  refine go_ ?_
  obtain ⟨e, he, hg⟩ := bind_some hg
  refine go_ ?_
  refine c0_ rfl rfl (r_loadEA ty87 (enc_cells api_Value.enc_len (getI_at he) (o := 0) (m := 4) (cs := [.int .i64 e.Tag, .sl 1 (encL e8 e.Bytes), .bool e.Nested, .sl 4 (encL api_Value.enc e.Elements)]) (by simp only [api_Value.enc_eq]; rfl) (by decide) rfl) (enc_cells_le api_Value.enc_len (getI_at he) (o := 0) (m := 4) (by decide) rfl)) rfl rfl ?_
  obtain ⟨y, hy, hg⟩ := bind_some hg
  refine ca_ (hrec _ _ hy) ?_
  obtain ⟨l_2, hl_2, hg⟩ := bind_some hg
  refine ch_s (rd := [1]) rfl rfl (r_append sl70 e8_len .row rfl .sl rfl hl_2 rfl) rfl rfl ?_
  refine go_ ?_
  refine ch_n fun hU => ?_
  refine awp_region (sys _ _ []) 114 138 hU rfl rfl ?_
  refine go_ ?_
  refine ch_n fun hU => ?_
  obtain rfl := Option.some.inj hg
  exact ⟨((W (i_1 + 1), l_2), m1), Nat.lt_succ_self _, hn1, sub_ [(0, 0), (1, 98)]⟩
 ·refine awp_exit ?_
  repeat first | refine st_ ?_ | refine sn_ ?_
  replace hg := leave hg hn1
  refine awp_seq ?_
  refine awp_draw (sys _ _ []) (by kernel_rfl) [0, 1, 3, 7, 0, 16, 48, 127, 0, 511, 1023] 42 130 hU rfl rfl (by kernel_rfl) ?_
  refine go_ ?_
  refine c0_ rfl rfl (r_conv_u8 und3 und5) rfl rfl ?_
  refine c0_ rfl rfl (r_buildFull sl70 z5 (by decide) rfl rfl rfl rfl ck5 (cs := [.int .u8 ((u8 v.Tag).toNat : Int)]) (.cons .int .nil) rfl (l := ([(u8 v.Tag)] : List UInt8)) (f := e8) rfl) rfl rfl ?_
  refine go_ ?_
  obtain ⟨y_2, hy_2, hg⟩ := bind_some hg
  refine ca_ (w_ref01_length _ _ hy_2) ?_
  obtain ⟨l_3, hl_3, hg⟩ := bind_some hg
  refine ch_s (rd := [66]) rfl rfl (r_append sl70 e8_len .row rfl .sl rfl hl_3 rfl) rfl rfl ?_
  refine go_ ?_
  obtain ⟨l_4, hl_4, hg⟩ := bind_some hg
  refine ch_s (rd := [98, 1]) rfl rfl (r_append sl70 e8_len .row rfl .row rfl hl_4 rfl) rfl rfl ?_
  refine go_ ?_
  refine ch_n fun hU => ?_
  refine aw_r ?_
  obtain rfl := Option.some.inj hg
  exact fin_ [] ⟨rfl, rfl⟩
theorem w_ref01_put (v : api_Value) (r : (List UInt8)) (hg : g_ref01_put v = some r) : Fn Try.prog 61 0 [.agg (api_Value.dv v)] [] (fun d b => d = .sl 1 (encL e8 r) ∧ b = []) :=
 fixT_ind (motive := fun (x : api_Value) (r : (List UInt8)) => Fn Try.prog 61 0 [.agg (api_Value.dv x)] [] (fun d b => d = .sl 1 (encL e8 r) ∧ b = [])) (fun rec hrec x r h => w_ref01_put.F _ (fun v r h => hrec v r h) x r h) v r hg
theorem w_ref01_Encode (v : api_Value) (r : (List UInt8) × Int) (hg : g_ref01_Encode v = some r) : Fn Try.prog 48 0 [.agg (api_Value.dv v)] [] (fun d b => d = .tup [.sl 1 (encL e8 r.1), .val (.int .i64 r.2)] ∧ b = []) := by
 unfold g_ref01_Encode at hg
 refine Fn.of Try.func48 rfl rfl rfl fun w0 I ρ0 => ?_
 show awp _ ⟨w0, I, ρ0, 0, 0, 17⟩ _ _ _
 refine sr_ 0 24 mk_U ?_
 refine go_ ?_
 refine ch_n fun hU => ?_
 refine awp_seq ?_
 refine sr_ 24 48 hU ?_
 refine go_ ?_
 obtain ⟨y, hy, hg⟩ := bind_some hg
 refine ca_ (w_ref01_formed _ _ hy) ?_
 refine go_ ?_
 refine ch_n fun hU => ?_
 refine cg_ rfl hg (fun h3 hg => ?_) fun h3 hg => ?_
 ·refine awp_seq ?_
  refine awp_region (sys _ _ []) 48 64 hU rfl rfl ?_
  refine go_ ?_
  refine ch_n fun hU => ?_
  refine aw_r ?_
  obtain rfl := Option.some.inj hg
  exact fin_ [] ⟨rfl, rfl⟩
 ·refine awp_skip ?_
  repeat first | refine st_ ?_ | refine sn_ ?_
  refine awp_seq ?_
  refine sr_ 48 72 hU ?_
  refine go_ ?_
  obtain ⟨y_2, hy_2, hg⟩ := bind_some hg
  refine ca_ (w_ref01_depth _ _ hy_2) ?_
  refine go_ ?_
  refine ch_n fun hU => ?_
  refine cg_ rfl hg (fun h6 hg => ?_) fun h6 hg => ?_
  ·refine awp_seq ?_
   refine awp_region (sys _ _ []) 72 88 hU rfl rfl ?_
   refine go_ ?_
   refine ch_n fun hU => ?_
   refine aw_r ?_
   obtain rfl := Option.some.inj hg
   exact fin_ [] ⟨rfl, rfl⟩
  ·refine awp_skip ?_
   repeat first | refine st_ ?_ | refine sn_ ?_
   refine sr_ 72 96 hU ?_
   refine go_ ?_
   obtain ⟨y_3, hy_3, hg⟩ := bind_some hg
   refine ca_ (w_ref01_put _ _ hy_3) ?_
   refine go_ ?_
   refine ch_n fun hU => ?_
   refine awp_seq ?_
   refine sr_ 96 120 hU ?_
   refine go_ ?_
   refine ch_n fun hU => ?_
   refine cg_ rfl hg (fun h10 hg => ?_) fun h10 hg => ?_
   ·refine awp_seq ?_
    refine awp_region (sys _ _ []) 120 136 hU rfl rfl ?_
    refine go_ ?_
    refine ch_n fun hU => ?_
    refine aw_r ?_
    obtain rfl := Option.some.inj hg
    exact fin_ [] ⟨rfl, rfl⟩
   ·refine awp_skip ?_
    repeat first | refine st_ ?_ | refine sn_ ?_
    refine sr_ 120 144 hU ?_
    refine go_ ?_
    refine ch_n fun hU => ?_
    refine aw_r ?_
    obtain rfl := Option.some.inj hg
    exact fin_ [] ⟨rfl, rfl⟩
theorem w_ref03_Bytes (c : api_Certificate) (r : (List UInt8) × Int) (hg : g_ref03_Bytes c = some r) : Fn Try.prog 33 0 [.agg (api_Certificate.dv c)] [] (fun d b => d = .tup [.sl 1 (encL e8 r.1), .val (.int .i64 r.2)] ∧ b = []) := by
 unfold g_ref03_Bytes at hg
 refine Fn.of Try.func33 rfl rfl rfl fun w0 I ρ0 => ?_
 show awp _ ⟨w0, I, ρ0, 0, 0, 12⟩ _ _ _
 refine sr_ 0 24 mk_U ?_
 refine go_ ?_
 refine ch_n fun hU => ?_
 refine awp_seq ?_
 refine sr_ 24 48 hU ?_
 refine go_ ?_
 obtain ⟨y, hy, hg⟩ := bind_some hg
 refine ca_ (w_ref03_Check _ _ hy) ?_
 refine go_ ?_
 refine ch_n fun hU => ?_
 refine cg_ rfl hg (fun h3 hg => ?_) fun h3 hg => ?_
 ·refine awp_seq ?_
  refine awp_region (sys _ _ []) 48 64 hU rfl rfl ?_
  refine go_ ?_
  refine ch_n fun hU => ?_
  refine aw_r ?_
  obtain rfl := Option.some.inj hg
  exact fin_ [] ⟨rfl, rfl⟩
 ·refine awp_skip ?_
  repeat first | refine st_ ?_ | refine sn_ ?_
  refine sr_ 48 104 hU ?_
  refine go_ ?_
  obtain ⟨y_2, hy_2, hg⟩ := bind_some hg
  refine ca_ (w_ref03_body _ _ hy_2) ?_
  obtain ⟨y_3, hy_3, hg⟩ := bind_some hg
  refine ca_ (w_ref01_Encode _ _ hy_3) ?_
  refine go_ ?_
  refine ch_n fun hU => ?_
  refine aw_r ?_
  obtain rfl := Option.some.inj hg
  exact fin_ [] ⟨rfl, rfl⟩
theorem w_ref03_Sum (b : (List UInt8)) (r : Int) (hg : g_ref03_Sum b = some r) : Fn Try.prog 34 0 [.sl 1 (encL e8 b)] [] (fun d b => d = .val (.int .i64 r) ∧ b = []) := by
 unfold g_ref03_Sum at hg
 refine Fn.of Try.func34 rfl rfl rfl fun w0 I ρ0 => ?_
 show awp _ ⟨w0, I, ρ0, 0, 0, 21⟩ _ _ _
 refine sr_ 0 8 mk_U ?_
 refine go_ ?_
 refine ch_n fun hU => ?_
 refine sr_ 8 16 hU ?_
 refine go_ ?_
 refine ch_n fun hU => ?_
 refine awp_seq ?_
 refine sr_ 16 24 hU ?_
 refine go_ ?_
 refine ch_n fun hU => ?_
 refine awp_block ?_
 refine lp_ (fun ((h_1, i_1) : Int × Int) => mk [(0, .sl 1 (encL e8 b)), (3, .val (.int .u32 h_1)), (4, .val (.int .i64 i_1))] [] 0) hg (sub_ []) ?_
 rintro ⟨h_1, i_1⟩ m1 o1 hg hn1
 replace hg : g_ref03_Sum.l1 b h_1 i_1 = some o1 := hg
 show awp _ _ _ _ (mk _ _ _)
 unfold g_ref03_Sum.l1 at hg
 refine awp_seq ?_
 refine sr_ 0 32 mk_U ?_
 refine go_ ?_
 refine ch_n fun hU => ?_
 refine cg_ rfl hg (fun h5 hg => ?_) fun h5 hg => ?_
 ·refine awp_skip ?_
  repeat first | refine st_ ?_ | refine sn_ ?_
  refine awp_seq ?_
  refine awp_block ?_
  refine awp_region (sys _ _ []) 32 104 hU rfl rfl ?_
  refine go_ ?_
  obtain ⟨e, he, hg⟩ := bind_some hg
  refine go_ ?_
  refine c0_ rfl rfl (r_loadE1 ty5 (enc_cell e8_len (getI_at he) (o := 0) (c := .int .u8 (e.toNat : Int)) rfl rfl)) rfl rfl ?_
  refine c0_ rfl rfl (r_convK und5 und89) rfl rfl ?_
  refine c0_ rfl rfl r_xorK rfl rfl ?_
  refine c0_ rfl rfl r_mulK rfl rfl ?_
  refine go_ ?_
  refine ch_n fun hU => ?_
  refine awp_region (sys _ _ []) 104 128 hU rfl rfl ?_
  refine go_ ?_
  refine ch_n fun hU => ?_
  obtain rfl := Option.some.inj hg
  exact ⟨((IntKind.wrap .u32 ((xorK .u32 h_1 (IntKind.wrap .u32 (e.toNat : Int))) * 16777619), W (i_1 + 1)), m1), Nat.lt_succ_self _, hn1, sub_ []⟩
 ·refine awp_exit ?_
  repeat first | refine st_ ?_ | refine sn_ ?_
  replace hg := leave hg hn1
  refine sr_ 32 56 hU ?_
  refine go_ ?_
  refine c0_ rfl rfl (r_conv_i64 und89 und3) rfl rfl ?_
  refine go_ ?_
  refine ch_n fun hU => ?_
  refine aw_r ?_
  obtain rfl := Option.some.inj hg
  exact fin_ [] ⟨rfl, rfl⟩
theorem w_ref03_Sign (c : api_Certificate) (key : Int) (r : api_Certificate × Int) (hg : g_ref03_Sign c key = some r) : Fn Try.prog 14 0 [.agg (api_Certificate.dv c), .val (.int .i64 key)] [] (fun d b => d = .tup [.agg (api_Certificate.dv r.1), .val (.int .i64 r.2)] ∧ b = []) := by
 unfold g_ref03_Sign at hg
 refine Fn.of Try.func14 rfl rfl rfl fun w0 I ρ0 => ?_
 show awp _ ⟨w0, I, ρ0, 0, 0, 35⟩ _ _ _
 refine sr_ 0 24 mk_U ?_
 refine go_ ?_
 refine ch_n fun hU => ?_
 refine sr_ 24 48 hU ?_
 refine go_ ?_
 obtain ⟨y, hy, hg⟩ := bind_some hg
 refine ca_ (w_ref03_Copy _ _ hy) ?_
 refine go_ ?_
 refine ch_n fun hU => ?_
 refine sr_ 48 72 hU ?_
 refine c0_ rfl rfl (.build (r := [.val (.int .i64 0), .val (.int .i64 0)]) und38 pl38 z38 (by kernel_rfl) rfl) rfl rfl ?_
 refine go_ ?_
 refine ch_n fun hU => ?_
 refine awp_seq ?_
 refine awp_cut (ι := Bool) (fun (x22_1 : Bool) => mk [(1, .val (.int .i64 key)), (2, .ptr 0 0), (4, .ptr 1 0), (22, .val (.bool x22_1))] [(0, .box [.val (.int .i64 y.Serial), .val (.string y.Issuer), .val (.string y.Subject), .val (.int .i64 y.Key.Alg), .val (.int .i64 y.Key.Bits), .val (.int .i64 y.KeyId), .val (.int .i64 y.Hash.Alg), .val (.int .i64 y.Hash.Bits), .val (.int .i64 y.From), .val (.int .i64 y.To), .val (.bool y.Authority), .val (.int .i64 y.Path), .sl 1 (encL eS y.Names), .val (.int .i64 0), .val (.int .i64 0)] 40), (1, .box [.val (.int .i64 0), .val (.string (⟨#[]⟩ : ByteArray)), .val (.string (⟨#[]⟩ : ByteArray)), .val (.int .i64 0), .val (.int .i64 0), .val (.int .i64 0), .val (.int .i64 0), .val (.int .i64 0), .val (.int .i64 0), .val (.int .i64 0), .val (.bool false), .val (.int .i64 0), .val (.slice none 0 0), .val (.int .i64 0), .val (.int .i64 0)] 40)] 2) (fun (x22_1 : Bool) => g_ref03_Sign.j1 key y x22_1 = some r) ?_ ?_
 ·refine awp_region (sys _ _ []) 72 160 hU rfl rfl ?_
  refine go_ ?_
  obtain ⟨y_2, hy_2, hg⟩ := bind_some hg
  refine ca_ (w_ref03_Check _ _ hy_2) ?_
  refine go_ ?_
  rcases bc_ hg with ⟨h4, hg⟩ | ⟨h4, hg⟩
  ·refine go_ ?_
   refine ch_n fun hU => ?_
   exact ⟨true, hg, sub_ [(0, 0), (1, 8)]⟩
  ·refine go_ ?_
   rcases bc_ hg with ⟨h6, hg⟩ | ⟨h6, hg⟩
   ·refine go_ ?_
    refine ch_n fun hU => ?_
    exact ⟨true, hg, sub_ [(0, 0), (1, 8)]⟩
   ·refine go_ ?_
    refine ch_n fun hU => ?_
    exact ⟨decide (2147483648 < key), hg, sub_ [(0, 0), (1, 8)]⟩
 ·rintro x22_1 hg
  replace hg : g_ref03_Sign.j1 key y x22_1 = some r := hg
  show awp _ _ _ _ (mk _ _ _)
  unfold g_ref03_Sign.j1 at hg
  refine cg_ rfl hg (fun h9 hg => ?_) fun h9 hg => ?_
  ·refine awp_seq ?_
   refine awp_region (sys _ _ []) 2 26 mk_U rfl rfl ?_
   refine c0_ rfl rfl (.build (r := [.val (.int .i64 0), .val (.string (⟨#[]⟩ : ByteArray)), .val (.string (⟨#[]⟩ : ByteArray)), .val (.int .i64 0), .val (.int .i64 0), .val (.int .i64 0), .val (.int .i64 0), .val (.int .i64 0), .val (.int .i64 0), .val (.int .i64 0), .val (.bool false), .val (.int .i64 0), .val (.slice none 0 0), .val (.int .i64 0), .val (.int .i64 0)]) und40 pl40 z40 (by kernel_rfl) rfl) rfl rfl ?_
   refine go_ ?_
   refine ch_n fun hU => ?_
   refine aw_r ?_
   obtain rfl := Option.some.inj hg
   exact fin_ [] ⟨rfl, rfl⟩
  ·refine awp_skip ?_
   repeat first | refine st_ ?_ | refine sn_ ?_
   refine sr_ 2 58 mk_U ?_
   refine go_ ?_
   obtain ⟨y_3, hy_3, hg⟩ := bind_some hg
   refine ca_ (w_ref03_Bytes _ _ hy_3) ?_
   refine go_ ?_
   refine ch_n fun hU => ?_
   refine sr_ 58 106 hU ?_
   refine go_ ?_
   obtain ⟨y_4, hy_4, hg⟩ := bind_some hg
   refine ca_ (w_ref03_Sum _ _ hy_4) ?_
   refine c0_ rfl rfl (.build (r := [.val (.int .i64 key), .val (.int .i64 y_4)]) und38 pl38 z38 (by kernel_rfl) rfl) rfl rfl ?_
   refine go_ ?_
   refine ch_n fun hU => ?_
   refine sr_ 106 130 hU ?_
   refine go_ ?_
   refine ch_n fun hU => ?_
   refine aw_r ?_
   obtain rfl := Option.some.inj hg
   exact fin_ [] ⟨rfl, rfl⟩
theorem w_catalog_Named (s : ByteArray) (r : Bool) (hg : g_catalog_Named s = some r) : Fn Try.prog 52 0 [.val (.string s)] [] (fun d b => d = .val (.bool r) ∧ b = []) := by
 unfold g_catalog_Named at hg
 refine Fn.of Try.func52 rfl rfl rfl fun w0 I ρ0 => ?_
 show awp _ ⟨w0, I, ρ0, 0, 0, 27⟩ _ _ _
 refine sr_ 0 8 mk_U ?_
 refine go_ ?_
 refine ch_n fun hU => ?_
 refine awp_seq ?_
 refine sr_ 8 40 hU ?_
 refine go_ ?_
 refine c0_ rfl rfl (r_convB und9 und70 und5) rfl rfl ?_
 refine go_ ?_
 refine ch_n fun hU => ?_
 refine awp_block ?_
 refine lp_ (fun (x8_1 : Int) => mk [(0, .val (.string s)), (6, .sl 1 (encL e8 (toB s))), (7, .val (.int .i64 ((toB s).length : Int))), (8, .val (.int .i64 x8_1))] [] 0) hg (sub_ []) ?_
 rintro x8_1 m1 o1 hg hn1
 replace hg : g_catalog_Named.l1 s x8_1 = some o1 := hg
 show awp _ _ _ _ (mk _ _ _)
 unfold g_catalog_Named.l1 at hg
 refine sr_ 0 8 mk_U ?_
 refine go_ ?_
 refine ch_n fun hU => ?_
 refine awp_seq ?_
 refine cg_ rfl hg (fun h4 hg => ?_) fun h4 hg => ?_
 ·refine awp_skip ?_
  repeat first | refine st_ ?_ | refine sn_ ?_
  refine awp_seq ?_
  refine awp_block ?_
  refine sr_ 8 32 hU ?_
  obtain ⟨e, he, hg⟩ := bind_some hg
  refine go_ ?_
  refine c0_ rfl rfl (r_loadE1 ty5 (enc_cell e8_len (getI_at he) (o := 0) (c := .int .u8 (e.toNat : Int)) rfl rfl)) rfl rfl ?_
  refine go_ ?_
  refine ch_n fun hU => ?_
  refine awp_cut (ι := Bool) (fun (x17_2 : Bool) => mk [(0, .val (.string s)), (6, .sl 1 (encL e8 (toB s))), (7, .val (.int .i64 ((toB s).length : Int))), (8, .val (.int .i64 x8_1)), (17, .val (.bool x17_2))] [] 0) (fun (x17_2 : Bool) => g_catalog_Named.j2 x8_1 x17_2 = some o1) ?_ ?_
  ·refine awp_region (sys _ _ []) 32 80 hU rfl rfl ?_
   refine go_ ?_
   rcases bc_ hg with ⟨h6, hg⟩ | ⟨h6, hg⟩
   ·refine go_ ?_
    refine ch_n fun hU => ?_
    exact ⟨true, hg, sub_ []⟩
   ·refine go_ ?_
    refine ch_n fun hU => ?_
    exact ⟨decide (126 < (e.toNat : Int)), hg, sub_ []⟩
  ·rintro x17_2 hg
   replace hg : g_catalog_Named.j2 x8_1 x17_2 = some o1 := hg
   show awp _ _ _ _ (mk _ _ _)
   unfold g_catalog_Named.j2 at hg
   refine cg_ rfl hg (fun h9 hg => ?_) fun h9 hg => ?_
   ·refine awp_seq ?_
    refine awp_region (sys _ _ []) 0 8 mk_U rfl rfl ?_
    refine go_ ?_
    refine ch_n fun hU => ?_
    refine aw_r ?_
    replace hg := leave hg hn1
    obtain rfl := Option.some.inj hg
    exact fin_ [] ⟨rfl, rfl⟩
   ·refine awp_skip ?_
    repeat first | refine st_ ?_ | refine sn_ ?_
    refine awp_region (sys _ _ []) 0 16 mk_U rfl rfl ?_
    refine go_ ?_
    refine ch_n fun hU => ?_
    obtain rfl := Option.some.inj hg
    exact ⟨(W (x8_1 + 1), m1), Nat.lt_succ_self _, hn1, sub_ []⟩
 ·refine awp_exit ?_
  repeat first | refine st_ ?_ | refine sn_ ?_
  replace hg := leave hg hn1
  refine sr_ 8 80 hU ?_
  refine go_ ?_
  refine c0_ rfl rfl (r_lenT und9) rfl rfl ?_
  refine go_ ?_
  rcases bc_ hg with ⟨h12, hg⟩ | ⟨h12, hg⟩
  ·refine go_ ?_
   refine c0_ (gdv_t rfl rfl h12) rfl (r_lenT und9) rfl rfl ?_
   refine go_ ?_
   refine ch_n fun hU => ?_
   refine aw_r ?_
   obtain rfl := Option.some.inj hg
   exact fin_ [] ⟨rfl, rfl⟩
  ·refine go_ ?_
   refine ch_n fun hU => ?_
   refine aw_r ?_
   obtain rfl := Option.some.inj hg
   exact fin_ [] ⟨rfl, rfl⟩
theorem w_certificate_named (l : (List ByteArray)) (r : Bool) (hg : g_certificate_named l = some r) : Fn Try.prog 53 0 [.sl 1 (encL eS l)] [] (fun d b => d = .val (.bool r) ∧ b = []) := by
 unfold g_certificate_named at hg
 refine Fn.of Try.func53 rfl rfl rfl fun w0 I ρ0 => ?_
 show awp _ ⟨w0, I, ρ0, 0, 0, 32⟩ _ _ _
 refine sr_ 0 8 mk_U ?_
 refine go_ ?_
 refine ch_n fun hU => ?_
 refine awp_seq ?_
 refine sr_ 8 32 hU ?_
 refine go_ ?_
 refine ch_n fun hU => ?_
 refine awp_block ?_
 refine lp_ (fun (x7_1 : Int) => mk [(0, .sl 1 (encL eS l)), (5, .sl 1 (encL eS l)), (6, .val (.int .i64 (l.length : Int))), (7, .val (.int .i64 x7_1))] [] 0) hg (sub_ []) ?_
 rintro x7_1 m1 o1 hg hn1
 replace hg : g_certificate_named.l1 l x7_1 = some o1 := hg
 show awp _ _ _ _ (mk _ _ _)
 unfold g_certificate_named.l1 at hg
 refine sr_ 0 8 mk_U ?_
 refine go_ ?_
 refine ch_n fun hU => ?_
 refine awp_seq ?_
 refine cg_ rfl hg (fun h4 hg => ?_) fun h4 hg => ?_
 ·refine awp_skip ?_
  repeat first | refine st_ ?_ | refine sn_ ?_
  refine awp_seq ?_
  refine awp_block ?_
  refine sr_ 8 48 hU ?_
  refine go_ ?_
  obtain ⟨e, he, hg⟩ := bind_some hg
  refine go_ ?_
  refine c0_ rfl rfl (r_loadE1 ty9 (enc_cell eS_len (getI_at he) (o := 0) (c := .str e) rfl rfl)) rfl rfl ?_
  refine go_ ?_
  refine ch_n fun hU => ?_
  refine awp_cut (ι := Bool) (fun (x27_2 : Bool) => mk [(0, .sl 1 (encL eS l)), (5, .sl 1 (encL eS l)), (6, .val (.int .i64 (l.length : Int))), (7, .val (.int .i64 x7_1)), (27, .val (.bool x27_2))] [] 0) (fun (x27_2 : Bool) => g_certificate_named.j2 x7_1 x27_2 = some o1) ?_ ?_
  ·refine awp_region (sys _ _ []) 48 176 hU rfl rfl ?_
   refine go_ ?_
   obtain ⟨y, hy, hg⟩ := bind_some hg
   refine ca_ (w_catalog_Named _ _ hy) ?_
   refine go_ ?_
   rcases bc_ hg with ⟨h6, hg⟩ | ⟨h6, hg⟩
   ·refine go_ ?_
    refine ch_n fun hU => ?_
    exact ⟨true, hg, sub_ []⟩
   ·refine go_ ?_
    rcases bc_ hg with ⟨h8, hg⟩ | ⟨h8, hg⟩
    ·refine go_ ?_
     obtain ⟨e_2, he_2, hg⟩ := bind_some hg
     refine go_ ?_
     refine c0_ (gdv_t rfl rfl h8) rfl (r_loadE1 ty9 (enc_cell eS_len (getI_at he_2) (o := 0) (c := .str e_2) rfl rfl)) rfl rfl ?_
     refine go_ ?_
     refine c0_ (gdv_t rfl rfl h8) rfl r_sgeq rfl rfl ?_
     refine go_ ?_
     refine ch_n fun hU => ?_
     exact ⟨!ltT (toB e_2) (toB e), hg, sub_ []⟩
    ·refine go_ ?_
     refine ch_n fun hU => ?_
     exact ⟨false, hg, sub_ []⟩
  ·rintro x27_2 hg
   replace hg : g_certificate_named.j2 x7_1 x27_2 = some o1 := hg
   show awp _ _ _ _ (mk _ _ _)
   unfold g_certificate_named.j2 at hg
   refine cg_ rfl hg (fun h11 hg => ?_) fun h11 hg => ?_
   ·refine awp_seq ?_
    refine awp_region (sys _ _ []) 0 8 mk_U rfl rfl ?_
    refine go_ ?_
    refine ch_n fun hU => ?_
    refine aw_r ?_
    replace hg := leave hg hn1
    obtain rfl := Option.some.inj hg
    exact fin_ [] ⟨rfl, rfl⟩
   ·refine awp_skip ?_
    repeat first | refine st_ ?_ | refine sn_ ?_
    refine awp_region (sys _ _ []) 0 16 mk_U rfl rfl ?_
    refine go_ ?_
    refine ch_n fun hU => ?_
    obtain rfl := Option.some.inj hg
    exact ⟨(W (x7_1 + 1), m1), Nat.lt_succ_self _, hn1, sub_ []⟩
 ·refine awp_exit ?_
  repeat first | refine st_ ?_ | refine sn_ ?_
  replace hg := leave hg hn1
  refine sr_ 8 40 hU ?_
  refine go_ ?_
  refine ch_n fun hU => ?_
  refine aw_r ?_
  obtain rfl := Option.some.inj hg
  exact fin_ [] ⟨rfl, rfl⟩
theorem w_catalog_rows  (r : (List catalog_row)) (hg : g_catalog_rows = some r) : Fn Try.prog 95 0 [] [] (fun d b => d = .agg [.val (.string ((r[0]!).name)), .val (.int .i64 ((r[0]!).kind)), .val (.int .i64 ((r[0]!).way)), .sl 1 (encL eI ((r[0]!).sizes)), .sl 1 (encL eI ((r[0]!).strengths)), .val (.string ((r[1]!).name)), .val (.int .i64 ((r[1]!).kind)), .val (.int .i64 ((r[1]!).way)), .sl 1 (encL eI ((r[1]!).sizes)), .sl 1 (encL eI ((r[1]!).strengths)), .val (.string ((r[2]!).name)), .val (.int .i64 ((r[2]!).kind)), .val (.int .i64 ((r[2]!).way)), .sl 1 (encL eI ((r[2]!).sizes)), .sl 1 (encL eI ((r[2]!).strengths)), .val (.string ((r[3]!).name)), .val (.int .i64 ((r[3]!).kind)), .val (.int .i64 ((r[3]!).way)), .sl 1 (encL eI ((r[3]!).sizes)), .sl 1 (encL eI ((r[3]!).strengths)), .val (.string ((r[4]!).name)), .val (.int .i64 ((r[4]!).kind)), .val (.int .i64 ((r[4]!).way)), .sl 1 (encL eI ((r[4]!).sizes)), .sl 1 (encL eI ((r[4]!).strengths)), .val (.string ((r[5]!).name)), .val (.int .i64 ((r[5]!).kind)), .val (.int .i64 ((r[5]!).way)), .sl 1 (encL eI ((r[5]!).sizes)), .sl 1 (encL eI ((r[5]!).strengths)), .val (.string ((r[6]!).name)), .val (.int .i64 ((r[6]!).kind)), .val (.int .i64 ((r[6]!).way)), .sl 1 (encL eI ((r[6]!).sizes)), .sl 1 (encL eI ((r[6]!).strengths)), .val (.string ((r[7]!).name)), .val (.int .i64 ((r[7]!).kind)), .val (.int .i64 ((r[7]!).way)), .sl 1 (encL eI ((r[7]!).sizes)), .sl 1 (encL eI ((r[7]!).strengths)), .val (.string ((r[8]!).name)), .val (.int .i64 ((r[8]!).kind)), .val (.int .i64 ((r[8]!).way)), .sl 1 (encL eI ((r[8]!).sizes)), .sl 1 (encL eI ((r[8]!).strengths)), .val (.string ((r[9]!).name)), .val (.int .i64 ((r[9]!).kind)), .val (.int .i64 ((r[9]!).way)), .sl 1 (encL eI ((r[9]!).sizes)), .sl 1 (encL eI ((r[9]!).strengths)), .val (.string ((r[10]!).name)), .val (.int .i64 ((r[10]!).kind)), .val (.int .i64 ((r[10]!).way)), .sl 1 (encL eI ((r[10]!).sizes)), .sl 1 (encL eI ((r[10]!).strengths)), .val (.string ((r[11]!).name)), .val (.int .i64 ((r[11]!).kind)), .val (.int .i64 ((r[11]!).way)), .sl 1 (encL eI ((r[11]!).sizes)), .sl 1 (encL eI ((r[11]!).strengths)), .val (.string ((r[12]!).name)), .val (.int .i64 ((r[12]!).kind)), .val (.int .i64 ((r[12]!).way)), .sl 1 (encL eI ((r[12]!).sizes)), .sl 1 (encL eI ((r[12]!).strengths)), .val (.string ((r[13]!).name)), .val (.int .i64 ((r[13]!).kind)), .val (.int .i64 ((r[13]!).way)), .sl 1 (encL eI ((r[13]!).sizes)), .sl 1 (encL eI ((r[13]!).strengths)), .val (.string ((r[14]!).name)), .val (.int .i64 ((r[14]!).kind)), .val (.int .i64 ((r[14]!).way)), .sl 1 (encL eI ((r[14]!).sizes)), .sl 1 (encL eI ((r[14]!).strengths)), .val (.string ((r[15]!).name)), .val (.int .i64 ((r[15]!).kind)), .val (.int .i64 ((r[15]!).way)), .sl 1 (encL eI ((r[15]!).sizes)), .sl 1 (encL eI ((r[15]!).strengths)), .val (.string ((r[16]!).name)), .val (.int .i64 ((r[16]!).kind)), .val (.int .i64 ((r[16]!).way)), .sl 1 (encL eI ((r[16]!).sizes)), .sl 1 (encL eI ((r[16]!).strengths)), .val (.string ((r[17]!).name)), .val (.int .i64 ((r[17]!).kind)), .val (.int .i64 ((r[17]!).way)), .sl 1 (encL eI ((r[17]!).sizes)), .sl 1 (encL eI ((r[17]!).strengths)), .val (.string ((r[18]!).name)), .val (.int .i64 ((r[18]!).kind)), .val (.int .i64 ((r[18]!).way)), .sl 1 (encL eI ((r[18]!).sizes)), .sl 1 (encL eI ((r[18]!).strengths)), .val (.string ((r[19]!).name)), .val (.int .i64 ((r[19]!).kind)), .val (.int .i64 ((r[19]!).way)), .sl 1 (encL eI ((r[19]!).sizes)), .sl 1 (encL eI ((r[19]!).strengths)), .val (.string ((r[20]!).name)), .val (.int .i64 ((r[20]!).kind)), .val (.int .i64 ((r[20]!).way)), .sl 1 (encL eI ((r[20]!).sizes)), .sl 1 (encL eI ((r[20]!).strengths)), .val (.string ((r[21]!).name)), .val (.int .i64 ((r[21]!).kind)), .val (.int .i64 ((r[21]!).way)), .sl 1 (encL eI ((r[21]!).sizes)), .sl 1 (encL eI ((r[21]!).strengths)), .val (.string ((r[22]!).name)), .val (.int .i64 ((r[22]!).kind)), .val (.int .i64 ((r[22]!).way)), .sl 1 (encL eI ((r[22]!).sizes)), .sl 1 (encL eI ((r[22]!).strengths))] ∧ b = []) := by
 unfold g_catalog_rows at hg
 refine Fn.of Try.func95 rfl rfl rfl fun w0 I ρ0 => ?_
 show awp _ ⟨w0, I, ρ0, 0, 0, 46⟩ _ _ _
 refine sr_ 0 8 mk_U ?_
 refine go_ ?_
 refine ch_n fun hU => ?_
 refine sr_ 8 376 hU ?_
 refine c0_ rfl rfl (r_buildFull sl22 z3 (by decide) rfl rfl rfl rfl ck3 (cs := [.int .i64 18]) (.cons .int .nil) rfl (l := ([18] : List Int)) (f := eI) rfl) rfl rfl ?_
 refine c0_ rfl rfl (.build (r := [.val (.string (⟨#[109, 100, 53]⟩ : ByteArray)), .val (.int .i64 1), .val (.int .i64 0), .val (.slice none 0 0), .row 8]) und112 pl112 z112 (by kernel_rfl) rfl) rfl rfl ?_
 refine c0_ rfl rfl (r_buildFull sl22 z3 (by decide) rfl rfl rfl rfl ck3 (cs := [.int .i64 60]) (.cons .int .nil) rfl (l := ([60] : List Int)) (f := eI) rfl) rfl rfl ?_
 refine c0_ rfl rfl (.build (r := [.val (.string (⟨#[115, 104, 97, 49]⟩ : ByteArray)), .val (.int .i64 1), .val (.int .i64 0), .val (.slice none 0 0), .row 24]) und112 pl112 z112 (by kernel_rfl) rfl) rfl rfl ?_
 refine c0_ rfl rfl (r_buildFull sl22 z3 (by decide) rfl rfl rfl rfl ck3 (cs := [.int .i64 128]) (.cons .int .nil) rfl (l := ([128] : List Int)) (f := eI) rfl) rfl rfl ?_
 refine c0_ rfl rfl (.build (r := [.val (.string (⟨#[115, 104, 97, 50, 53, 54]⟩ : ByteArray)), .val (.int .i64 1), .val (.int .i64 0), .val (.slice none 0 0), .row 40]) und112 pl112 z112 (by kernel_rfl) rfl) rfl rfl ?_
 refine c0_ rfl rfl (r_buildFull sl22 z3 (by decide) rfl rfl rfl rfl ck3 (cs := [.int .i64 192]) (.cons .int .nil) rfl (l := ([192] : List Int)) (f := eI) rfl) rfl rfl ?_
 refine c0_ rfl rfl (.build (r := [.val (.string (⟨#[115, 104, 97, 51, 56, 52]⟩ : ByteArray)), .val (.int .i64 1), .val (.int .i64 0), .val (.slice none 0 0), .row 56]) und112 pl112 z112 (by kernel_rfl) rfl) rfl rfl ?_
 refine c0_ rfl rfl (.build (r := [.val (.string (⟨#[114, 115, 97]⟩ : ByteArray)), .val (.int .i64 2), .val (.int .i64 1), .val (.slice none 0 0), .val (.slice none 0 0)]) und112 pl112 z112 (by kernel_rfl) rfl) rfl rfl ?_
 refine c0_ rfl rfl (.build (r := [.val (.string (⟨#[100, 115, 97]⟩ : ByteArray)), .val (.int .i64 2), .val (.int .i64 1), .val (.slice none 0 0), .val (.slice none 0 0)]) und112 pl112 z112 (by kernel_rfl) rfl) rfl rfl ?_
 refine c0_ rfl rfl (.build (r := [.val (.string (⟨#[101, 99, 100, 115, 97]⟩ : ByteArray)), .val (.int .i64 2), .val (.int .i64 2), .val (.slice none 0 0), .val (.slice none 0 0)]) und112 pl112 z112 (by kernel_rfl) rfl) rfl rfl ?_
 refine c0_ rfl rfl (r_buildFull sl22 z3 (by decide) rfl rfl rfl rfl ck3 (cs := [.int .i64 128]) (.cons .int .nil) rfl (l := ([128] : List Int)) (f := eI) rfl) rfl rfl ?_
 refine c0_ rfl rfl (.build (r := [.val (.string (⟨#[101, 100, 50, 53, 53, 49, 57]⟩ : ByteArray)), .val (.int .i64 2), .val (.int .i64 0), .val (.slice none 0 0), .row 96]) und112 pl112 z112 (by kernel_rfl) rfl) rfl rfl ?_
 refine c0_ rfl rfl (r_buildFull sl22 z3 (by decide) rfl rfl rfl rfl ck3 (cs := [.int .i64 44, .int .i64 65, .int .i64 87]) (.cons .int (.cons .int (.cons .int .nil))) rfl (l := ([44, 65, 87] : List Int)) (f := eI) rfl) rfl rfl ?_
 refine c0_ rfl rfl (r_buildFull sl22 z3 (by decide) rfl rfl rfl rfl ck3 (cs := [.int .i64 128, .int .i64 192, .int .i64 256]) (.cons .int (.cons .int (.cons .int .nil))) rfl (l := ([128, 192, 256] : List Int)) (f := eI) rfl) rfl rfl ?_
 refine c0_ rfl rfl (.build (r := [.val (.string (⟨#[109, 108, 100, 115, 97]⟩ : ByteArray)), .val (.int .i64 2), .val (.int .i64 3), .row 112, .row 120]) und112 pl112 z112 (by kernel_rfl) rfl) rfl rfl ?_
 refine c0_ rfl rfl (.build (r := [.val (.string (⟨#[114, 115, 97, 107, 120]⟩ : ByteArray)), .val (.int .i64 3), .val (.int .i64 1), .val (.slice none 0 0), .val (.slice none 0 0)]) und112 pl112 z112 (by kernel_rfl) rfl) rfl rfl ?_
 refine c0_ rfl rfl (.build (r := [.val (.string (⟨#[100, 104, 101]⟩ : ByteArray)), .val (.int .i64 3), .val (.int .i64 1), .val (.slice none 0 0), .val (.slice none 0 0)]) und112 pl112 z112 (by kernel_rfl) rfl) rfl rfl ?_
 refine c0_ rfl rfl (.build (r := [.val (.string (⟨#[101, 99, 100, 104, 101]⟩ : ByteArray)), .val (.int .i64 3), .val (.int .i64 2), .val (.slice none 0 0), .val (.slice none 0 0)]) und112 pl112 z112 (by kernel_rfl) rfl) rfl rfl ?_
 refine c0_ rfl rfl (r_buildFull sl22 z3 (by decide) rfl rfl rfl rfl ck3 (cs := [.int .i64 512, .int .i64 768, .int .i64 1024]) (.cons .int (.cons .int (.cons .int .nil))) rfl (l := ([512, 768, 1024] : List Int)) (f := eI) rfl) rfl rfl ?_
 refine c0_ rfl rfl (r_buildFull sl22 z3 (by decide) rfl rfl rfl rfl ck3 (cs := [.int .i64 128, .int .i64 192, .int .i64 256]) (.cons .int (.cons .int (.cons .int .nil))) rfl (l := ([128, 192, 256] : List Int)) (f := eI) rfl) rfl rfl ?_
 refine c0_ rfl rfl (.build (r := [.val (.string (⟨#[109, 108, 107, 101, 109]⟩ : ByteArray)), .val (.int .i64 3), .val (.int .i64 3), .row 160, .row 168]) und112 pl112 z112 (by kernel_rfl) rfl) rfl rfl ?_
 refine c0_ rfl rfl (r_buildFull sl22 z3 (by decide) rfl rfl rfl rfl ck3 (cs := [.int .i64 40, .int .i64 128]) (.cons .int (.cons .int .nil)) rfl (l := ([40, 128] : List Int)) (f := eI) rfl) rfl rfl ?_
 refine c0_ rfl rfl (r_buildFull sl22 z3 (by decide) rfl rfl rfl rfl ck3 (cs := [.int .i64 40, .int .i64 60]) (.cons .int (.cons .int .nil)) rfl (l := ([40, 60] : List Int)) (f := eI) rfl) rfl rfl ?_
 refine c0_ rfl rfl (.build (r := [.val (.string (⟨#[114, 99, 52]⟩ : ByteArray)), .val (.int .i64 4), .val (.int .i64 3), .row 184, .row 192]) und112 pl112 z112 (by kernel_rfl) rfl) rfl rfl ?_
 refine c0_ rfl rfl (r_buildFull sl22 z3 (by decide) rfl rfl rfl rfl ck3 (cs := [.int .i64 112, .int .i64 168]) (.cons .int (.cons .int .nil)) rfl (l := ([112, 168] : List Int)) (f := eI) rfl) rfl rfl ?_
 refine c0_ rfl rfl (r_buildFull sl22 z3 (by decide) rfl rfl rfl rfl ck3 (cs := [.int .i64 80, .int .i64 112]) (.cons .int (.cons .int .nil)) rfl (l := ([80, 112] : List Int)) (f := eI) rfl) rfl rfl ?_
 refine c0_ rfl rfl (.build (r := [.val (.string (⟨#[100, 101, 115, 51]⟩ : ByteArray)), .val (.int .i64 4), .val (.int .i64 3), .row 208, .row 216]) und112 pl112 z112 (by kernel_rfl) rfl) rfl rfl ?_
 refine c0_ rfl rfl (r_buildFull sl22 z3 (by decide) rfl rfl rfl rfl ck3 (cs := [.int .i64 128, .int .i64 256]) (.cons .int (.cons .int .nil)) rfl (l := ([128, 256] : List Int)) (f := eI) rfl) rfl rfl ?_
 refine c0_ rfl rfl (r_buildFull sl22 z3 (by decide) rfl rfl rfl rfl ck3 (cs := [.int .i64 128, .int .i64 256]) (.cons .int (.cons .int .nil)) rfl (l := ([128, 256] : List Int)) (f := eI) rfl) rfl rfl ?_
 refine c0_ rfl rfl (.build (r := [.val (.string (⟨#[97, 101, 115, 99, 98, 99]⟩ : ByteArray)), .val (.int .i64 4), .val (.int .i64 3), .row 232, .row 240]) und112 pl112 z112 (by kernel_rfl) rfl) rfl rfl ?_
 refine c0_ rfl rfl (r_buildFull sl22 z3 (by decide) rfl rfl rfl rfl ck3 (cs := [.int .i64 128, .int .i64 256]) (.cons .int (.cons .int .nil)) rfl (l := ([128, 256] : List Int)) (f := eI) rfl) rfl rfl ?_
 refine c0_ rfl rfl (r_buildFull sl22 z3 (by decide) rfl rfl rfl rfl ck3 (cs := [.int .i64 128, .int .i64 256]) (.cons .int (.cons .int .nil)) rfl (l := ([128, 256] : List Int)) (f := eI) rfl) rfl rfl ?_
 refine c0_ rfl rfl (.build (r := [.val (.string (⟨#[97, 101, 115, 103, 99, 109]⟩ : ByteArray)), .val (.int .i64 4), .val (.int .i64 3), .row 256, .row 264]) und112 pl112 z112 (by kernel_rfl) rfl) rfl rfl ?_
 refine c0_ rfl rfl (r_buildFull sl22 z3 (by decide) rfl rfl rfl rfl ck3 (cs := [.int .i64 256]) (.cons .int .nil) rfl (l := ([256] : List Int)) (f := eI) rfl) rfl rfl ?_
 refine c0_ rfl rfl (.build (r := [.val (.string (⟨#[99, 104, 97, 99, 104, 97]⟩ : ByteArray)), .val (.int .i64 4), .val (.int .i64 0), .val (.slice none 0 0), .row 280]) und112 pl112 z112 (by kernel_rfl) rfl) rfl rfl ?_
 refine c0_ rfl rfl (r_buildFull sl22 z3 (by decide) rfl rfl rfl rfl ck3 (cs := [.int .i64 64]) (.cons .int .nil) rfl (l := ([64] : List Int)) (f := eI) rfl) rfl rfl ?_
 refine c0_ rfl rfl (.build (r := [.val (.string (⟨#[104, 109, 97, 99, 109, 100, 53]⟩ : ByteArray)), .val (.int .i64 5), .val (.int .i64 0), .val (.slice none 0 0), .row 296]) und112 pl112 z112 (by kernel_rfl) rfl) rfl rfl ?_
 refine c0_ rfl rfl (r_buildFull sl22 z3 (by decide) rfl rfl rfl rfl ck3 (cs := [.int .i64 80]) (.cons .int .nil) rfl (l := ([80] : List Int)) (f := eI) rfl) rfl rfl ?_
 refine c0_ rfl rfl (.build (r := [.val (.string (⟨#[104, 109, 97, 99, 115, 104, 97, 49]⟩ : ByteArray)), .val (.int .i64 5), .val (.int .i64 0), .val (.slice none 0 0), .row 312]) und112 pl112 z112 (by kernel_rfl) rfl) rfl rfl ?_
 refine c0_ rfl rfl (r_buildFull sl22 z3 (by decide) rfl rfl rfl rfl ck3 (cs := [.int .i64 128]) (.cons .int .nil) rfl (l := ([128] : List Int)) (f := eI) rfl) rfl rfl ?_
 refine c0_ rfl rfl (.build (r := [.val (.string (⟨#[104, 109, 97, 99, 115, 104, 97, 50, 53, 54]⟩ : ByteArray)), .val (.int .i64 5), .val (.int .i64 0), .val (.slice none 0 0), .row 328]) und112 pl112 z112 (by kernel_rfl) rfl) rfl rfl ?_
 refine c0_ rfl rfl (r_buildFull sl22 z3 (by decide) rfl rfl rfl rfl ck3 (cs := [.int .i64 256]) (.cons .int .nil) rfl (l := ([256] : List Int)) (f := eI) rfl) rfl rfl ?_
 refine c0_ rfl rfl (.build (r := [.val (.string (⟨#[97, 101, 97, 100]⟩ : ByteArray)), .val (.int .i64 5), .val (.int .i64 0), .val (.slice none 0 0), .row 344]) und112 pl112 z112 (by kernel_rfl) rfl) rfl rfl ?_
 refine c0_ rfl rfl (.buildArr (sz := 5) (r := [.val (.string (⟨#[]⟩ : ByteArray)), .val (.int .i64 0), .val (.int .i64 0), .val (.slice none 0 0), .val (.slice none 0 0), .val (.string (⟨#[109, 100, 53]⟩ : ByteArray)), .val (.int .i64 1), .val (.int .i64 0), .val (.slice none 0 0), .row 8, .val (.string (⟨#[115, 104, 97, 49]⟩ : ByteArray)), .val (.int .i64 1), .val (.int .i64 0), .val (.slice none 0 0), .row 24, .val (.string (⟨#[115, 104, 97, 50, 53, 54]⟩ : ByteArray)), .val (.int .i64 1), .val (.int .i64 0), .val (.slice none 0 0), .row 40, .val (.string (⟨#[115, 104, 97, 51, 56, 52]⟩ : ByteArray)), .val (.int .i64 1), .val (.int .i64 0), .val (.slice none 0 0), .row 56, .val (.string (⟨#[114, 115, 97]⟩ : ByteArray)), .val (.int .i64 2), .val (.int .i64 1), .val (.slice none 0 0), .val (.slice none 0 0), .val (.string (⟨#[100, 115, 97]⟩ : ByteArray)), .val (.int .i64 2), .val (.int .i64 1), .val (.slice none 0 0), .val (.slice none 0 0), .val (.string (⟨#[101, 99, 100, 115, 97]⟩ : ByteArray)), .val (.int .i64 2), .val (.int .i64 2), .val (.slice none 0 0), .val (.slice none 0 0), .val (.string (⟨#[101, 100, 50, 53, 53, 49, 57]⟩ : ByteArray)), .val (.int .i64 2), .val (.int .i64 0), .val (.slice none 0 0), .row 96, .val (.string (⟨#[109, 108, 100, 115, 97]⟩ : ByteArray)), .val (.int .i64 2), .val (.int .i64 3), .row 112, .row 120, .val (.string (⟨#[114, 115, 97, 107, 120]⟩ : ByteArray)), .val (.int .i64 3), .val (.int .i64 1), .val (.slice none 0 0), .val (.slice none 0 0), .val (.string (⟨#[100, 104, 101]⟩ : ByteArray)), .val (.int .i64 3), .val (.int .i64 1), .val (.slice none 0 0), .val (.slice none 0 0), .val (.string (⟨#[101, 99, 100, 104, 101]⟩ : ByteArray)), .val (.int .i64 3), .val (.int .i64 2), .val (.slice none 0 0), .val (.slice none 0 0), .val (.string (⟨#[109, 108, 107, 101, 109]⟩ : ByteArray)), .val (.int .i64 3), .val (.int .i64 3), .row 160, .row 168, .val (.string (⟨#[114, 99, 52]⟩ : ByteArray)), .val (.int .i64 4), .val (.int .i64 3), .row 184, .row 192, .val (.string (⟨#[100, 101, 115, 51]⟩ : ByteArray)), .val (.int .i64 4), .val (.int .i64 3), .row 208, .row 216, .val (.string (⟨#[97, 101, 115, 99, 98, 99]⟩ : ByteArray)), .val (.int .i64 4), .val (.int .i64 3), .row 232, .row 240, .val (.string (⟨#[97, 101, 115, 103, 99, 109]⟩ : ByteArray)), .val (.int .i64 4), .val (.int .i64 3), .row 256, .row 264, .val (.string (⟨#[99, 104, 97, 99, 104, 97]⟩ : ByteArray)), .val (.int .i64 4), .val (.int .i64 0), .val (.slice none 0 0), .row 280, .val (.string (⟨#[104, 109, 97, 99, 109, 100, 53]⟩ : ByteArray)), .val (.int .i64 5), .val (.int .i64 0), .val (.slice none 0 0), .row 296, .val (.string (⟨#[104, 109, 97, 99, 115, 104, 97, 49]⟩ : ByteArray)), .val (.int .i64 5), .val (.int .i64 0), .val (.slice none 0 0), .row 312, .val (.string (⟨#[104, 109, 97, 99, 115, 104, 97, 50, 53, 54]⟩ : ByteArray)), .val (.int .i64 5), .val (.int .i64 0), .val (.slice none 0 0), .row 328, .val (.string (⟨#[97, 101, 97, 100]⟩ : ByteArray)), .val (.int .i64 5), .val (.int .i64 0), .val (.slice none 0 0), .row 344]) und118 (by kernel_rfl) z118 (by kernel_rfl) rfl) rfl rfl ?_
 refine go_ ?_
 refine ch_n fun hU => ?_
 refine aw_r ?_
 obtain rfl := Option.some.inj hg
 exact fin_ [] ⟨rfl, rfl⟩
end Go.Proofs.Ytggimglopfdhiaa
