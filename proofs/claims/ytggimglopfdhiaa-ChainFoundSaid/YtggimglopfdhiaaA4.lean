/- The program computes the plain functions. -/
import Derived.Test.YtggimglopfdhiaaT1
import Derived.Test.YtggimglopfdhiaaA3
set_option linter.unusedVariables false
set_option linter.unusedSimpArgs false
set_option maxRecDepth 100000
set_option maxHeartbeats 1600000
namespace Go.Proofs.Ytggimglopfdhiaa
open Go.RowKit
theorem w_bytes_Clone (b : (List UInt8)) (r : (List UInt8)) (hg : g_bytes_Clone b = some r) : Fn Try.prog 97 0 [.sl 1 (encL e8 b)] [] (fun d b => d = .sl 1 (encL e8 r) ∧ b = []) := by
 unfold g_bytes_Clone at hg
 refine Fn.of Try.func97 rfl rfl rfl fun w0 I ρ0 => ?_
 show awp _ ⟨w0, I, ρ0, 0, 0, 8⟩ _ _ _
 refine sr_ 0 8 mk_U ?_
 refine go_ ?_
 refine ch_n fun hU => ?_
 refine awp_seq ?_
 refine awp_cut (ι := Bool) (fun (x4_1 : Bool) => mk [(0, .sl 1 (encL e8 b)), (4, .val (.bool x4_1))] [] 0) (fun (x4_1 : Bool) => g_bytes_Clone.j1 b x4_1 = some r) ?_ ?_
 ·refine awp_region (sys _ _ []) 8 24 hU rfl rfl ?_
  refine go_ ?_
  refine ch_nilE rfl rfl ⟨_, und70⟩ rfl ?_
  intro bz hz2
  rcases bz with _ | _
  ·replace hg := nilC_f hg
   refine ch_n fun hU => ?_
   exact ⟨false, hg, sub_ []⟩
  ·replace hg := nilC_t ((nil_of_enc e8_len (by decide) (hz2 rfl))) hg
   refine ch_n fun hU => ?_
   exact ⟨true, hg, sub_ []⟩
 ·rintro x4_1 hg
  replace hg : g_bytes_Clone.j1 b x4_1 = some r := hg
  show awp _ _ _ _ (mk _ _ _)
  unfold g_bytes_Clone.j1 at hg
  refine cg_ rfl hg (fun h5 hg => ?_) fun h5 hg => ?_
  ·refine awp_seq ?_
   refine awp_region (sys _ _ []) 0 8 mk_U rfl rfl ?_
   refine go_ ?_
   refine ch_n fun hU => ?_
   refine aw_r ?_
   obtain rfl := Option.some.inj hg
   exact fin_ [] ⟨rfl, rfl⟩
  ·refine awp_skip ?_
   repeat first | refine st_ ?_ | refine sn_ ?_
   refine sr_ 0 32 mk_U ?_
   refine c0_ rfl rfl (r_buildFull sl70 z5 (by decide) rfl rfl rfl rfl ck5 (cs := []) .nil rfl (l := ([] : List UInt8)) (f := e8) rfl) rfl rfl ?_
   refine go_ ?_
   obtain ⟨l, hl, hg⟩ := bind_some hg
   refine ch_s (rd := [0]) rfl rfl (r_append sl70 e8_len .row rfl .sl rfl hl rfl) rfl rfl ?_
   refine go_ ?_
   refine ch_n fun hU => ?_
   refine aw_r ?_
   obtain rfl := Option.some.inj hg
   exact fin_ [] ⟨rfl, rfl⟩
theorem w_der_copied.F (rec : (List api_Value) → Option ((List api_Value))) (hrec : ∀ (l : (List api_Value)) (r : (List api_Value)), rec l = some r → Fn Try.prog 93 0 [.sl 4 (encL api_Value.enc l)] [] (fun d b => d = .sl 4 (encL api_Value.enc r) ∧ b = [])) (l : (List api_Value)) (r : (List api_Value)) (hg : g_der_copied.F rec l = some r) : Fn Try.prog 93 0 [.sl 4 (encL api_Value.enc l)] [] (fun d b => d = .sl 4 (encL api_Value.enc r) ∧ b = []) := by
 unfold g_der_copied.F at hg
 refine Fn.of Try.func93 rfl rfl rfl fun w0 I ρ0 => ?_
 show awp _ ⟨w0, I, ρ0, 0, 0, 26⟩ _ _ _
 refine sr_ 0 8 mk_U ?_
 refine go_ ?_
 refine ch_n fun hU => ?_
 refine sr_ 8 16 hU ?_
 refine go_ ?_
 refine ch_n fun hU => ?_
 refine awp_seq ?_
 refine sr_ 16 40 hU ?_
 refine go_ ?_
 refine ch_n fun hU => ?_
 refine awp_block ?_
 refine lp_ (fun ((x8_1, out_1) : Int × List api_Value) => mk [(3, .row 0), (6, .sl 4 (encL api_Value.enc l)), (7, .val (.int .i64 (l.length : Int))), (8, .val (.int .i64 x8_1))] [(0, .row 87 4 (encL api_Value.enc out_1))] 1) hg (sub_ []) ?_
 rintro ⟨x8_1, out_1⟩ m1 o1 hg hn1
 replace hg : g_der_copied.l1 rec l x8_1 out_1 = some o1 := hg
 show awp _ _ _ _ (mk _ _ _)
 unfold g_der_copied.l1 at hg
 refine sr_ 1 9 mk_U ?_
 refine go_ ?_
 refine ch_n fun hU => ?_
 refine awp_seq ?_
 refine cg_ rfl hg (fun h5 hg => ?_) fun h5 hg => ?_
 ·refine awp_skip ?_
  repeat first | refine st_ ?_ | refine sn_ ?_
  refine awp_seq ?_
  refine awp_block ?_
  refine sr_ 9 41 hU ?_
  obtain ⟨e, he, hg⟩ := bind_some hg
  refine go_ ?_
  refine c0_ rfl rfl (r_loadEA ty87 (enc_cells api_Value.enc_len (getI_at he) (o := 0) (m := 4) (cs := [.int .i64 e.Tag, .sl 1 (encL e8 e.Bytes), .bool e.Nested, .sl 4 (encL api_Value.enc e.Elements)]) (by simp only [api_Value.enc_eq]; rfl) (by decide) rfl) (enc_cells_le api_Value.enc_len (getI_at he) (o := 0) (m := 4) (by decide) rfl)) rfl rfl ?_
  refine go_ ?_
  refine ch_n fun hU => ?_
  refine awp_seq ?_
  refine awp_draw (sys _ _ []) (by kernel_rfl) [0, 1, 3, 0, 8, 31, 31, 127, 255, 511] 41 121 hU rfl rfl (by kernel_rfl) ?_
  refine go_ ?_
  obtain ⟨y, hy, hg⟩ := bind_some hg
  refine ca_ (w_bytes_Clone _ _ hy) ?_
  refine go_ ?_
  obtain ⟨y_2, hy_2, hg⟩ := bind_some hg
  refine ca_ (hrec _ _ hy_2) ?_
  refine go_ ?_
  refine ch_n fun hU => ?_
  refine awp_region (sys _ _ []) 121 161 hU rfl rfl ?_
  refine go_ ?_
  refine c0_ rfl rfl (r_buildFull sl85 z87 (by decide) rfl rfl rfl rfl ck87 (cs := [.int .i64 e.Tag, .sl 1 (encL e8 y), .bool e.Nested, .sl 4 (encL api_Value.enc y_2)]) (.cons .int (.cons .sl (.cons .bool (.cons .sl .nil)))) rfl (l := ([(api_Value.mk e.Tag y e.Nested y_2)] : List api_Value)) (f := api_Value.enc) (by simp only [encL, List.flatMap_cons, List.flatMap_nil, api_Value.enc_eq]; rfl)) rfl rfl ?_
  obtain ⟨l_2, hl_2, hg⟩ := bind_some hg
  refine ch_s (rd := [0, 137]) rfl rfl (r_append sl85 api_Value.enc_len .row rfl .row rfl hl_2 rfl) rfl rfl ?_
  refine go_ ?_
  refine ch_n fun hU => ?_
  refine awp_region (sys _ _ []) 161 177 hU rfl rfl ?_
  refine go_ ?_
  refine ch_n fun hU => ?_
  obtain rfl := Option.some.inj hg
  exact ⟨((W (x8_1 + 1), l_2), m1), Nat.lt_succ_self _, hn1, sub_ [(0, 145)]⟩
 ·refine awp_exit ?_
  repeat first | refine st_ ?_ | refine sn_ ?_
  replace hg := leave hg hn1
  refine sr_ 9 25 hU ?_
  refine go_ ?_
  refine ch_n fun hU => ?_
  refine aw_r ?_
  obtain rfl := Option.some.inj hg
  exact fin_ [] ⟨rfl, rfl⟩
theorem w_der_copied (l : (List api_Value)) (r : (List api_Value)) (hg : g_der_copied l = some r) : Fn Try.prog 93 0 [.sl 4 (encL api_Value.enc l)] [] (fun d b => d = .sl 4 (encL api_Value.enc r) ∧ b = []) :=
 fixT_ind (motive := fun (x : (List api_Value)) (r : (List api_Value)) => Fn Try.prog 93 0 [.sl 4 (encL api_Value.enc x)] [] (fun d b => d = .sl 4 (encL api_Value.enc r) ∧ b = [])) (fun rec hrec x r h => w_der_copied.F _ (fun l r h => hrec l r h) x r h) l r hg
theorem w_der_Of (l : (List api_Value)) (r : api_Value) (hg : g_der_Of l = some r) : Fn Try.prog 81 0 [.sl 4 (encL api_Value.enc l)] [] (fun d b => d = .agg (api_Value.dv r) ∧ b = []) := by
 unfold g_der_Of at hg
 refine Fn.of Try.func81 rfl rfl rfl fun w0 I ρ0 => ?_
 show awp _ ⟨w0, I, ρ0, 0, 0, 6⟩ _ _ _
 refine sr_ 0 8 mk_U ?_
 refine go_ ?_
 refine ch_n fun hU => ?_
 refine sr_ 8 40 hU ?_
 refine go_ ?_
 obtain ⟨y, hy, hg⟩ := bind_some hg
 refine ca_ (w_der_copied _ _ hy) ?_
 refine c0_ rfl rfl (.build (r := [.val (.int .i64 48), .val (.slice none 0 0), .val (.bool true), .sl 4 (encL api_Value.enc y)]) und87 pl87 z87 (by kernel_rfl) rfl) rfl rfl ?_
 refine go_ ?_
 refine ch_n fun hU => ?_
 refine aw_r ?_
 obtain rfl := Option.some.inj hg
 exact fin_ [] ⟨rfl, rfl⟩
theorem w_certificate_Use (u : api_Use) (r : api_Value) (hg : g_certificate_Use u = some r) : Fn Try.prog 83 0 [.agg [.val (.int .i64 u.Alg), .val (.int .i64 u.Bits)]] [] (fun d b => d = .agg (api_Value.dv r) ∧ b = []) := by
 unfold g_certificate_Use at hg
 refine Fn.of Try.func83 rfl rfl rfl fun w0 I ρ0 => ?_
 show awp _ ⟨w0, I, ρ0, 0, 0, 11⟩ _ _ _
 refine sr_ 0 16 mk_U ?_
 refine go_ ?_
 refine ch_n fun hU => ?_
 refine awp_seq ?_
 refine awp_draw (sys _ _ [64]) (by kernel_rfl) [0, 1, 3, 0, 8, 31, 63, 127, 255] 16 88 hU rfl rfl (by kernel_rfl) ?_
 refine go_ ?_
 obtain ⟨y, hy, hg⟩ := bind_some hg
 refine ca_ (w_der_Int _ _ hy) ?_
 refine go_ ?_
 obtain ⟨y_2, hy_2, hg⟩ := bind_some hg
 refine ca_ (w_der_Int _ _ hy_2) ?_
 refine ch_z (rd := []) rfl rfl (r_buildFull sl85 z87 (by decide) rfl rfl rfl rfl ck87 (cs := [.int .i64 y.Tag, .sl 1 (encL e8 y.Bytes), .bool y.Nested, .sl 4 (encL api_Value.enc y.Elements), .int .i64 y_2.Tag, .sl 1 (encL e8 y_2.Bytes), .bool y_2.Nested, .sl 4 (encL api_Value.enc y_2.Elements)]) (.cons .int (.cons .sl (.cons .bool (.cons .sl (.cons .int (.cons .sl (.cons .bool (.cons .sl .nil)))))))) rfl (l := ([y, y_2] : List api_Value)) (f := api_Value.enc) (by simp only [encL, List.flatMap_cons, List.flatMap_nil, api_Value.enc_eq]; rfl)) rfl rfl rfl ?_
 obtain ⟨y_3, hy_3, hg⟩ := bind_some hg
 refine ca_ (w_der_Of _ _ hy_3) ?_
 refine go_ ?_
 refine ch_n fun hU => ?_
 refine aw_r ?_
 obtain rfl := Option.some.inj hg
 exact fin_ [] ⟨rfl, rfl⟩
theorem w_der_Bool (b : Bool) (r : api_Value) (hg : g_der_Bool b = some r) : Fn Try.prog 84 0 [.val (.bool b)] [] (fun d b => d = .agg (api_Value.dv r) ∧ b = []) := by
 unfold g_der_Bool at hg
 refine Fn.of Try.func84 rfl rfl rfl fun w0 I ρ0 => ?_
 show awp _ ⟨w0, I, ρ0, 0, 0, 8⟩ _ _ _
 refine sr_ 0 8 mk_U ?_
 refine go_ ?_
 refine ch_n fun hU => ?_
 refine awp_seq ?_
 refine sr_ 8 16 hU ?_
 refine go_ ?_
 refine ch_n fun hU => ?_
 refine cg_ rfl hg (fun h3 hg => ?_) fun h3 hg => ?_
 ·refine awp_seq ?_
  refine awp_region (sys _ _ []) 16 40 hU rfl rfl ?_
  refine c0_ rfl rfl (r_buildFull sl70 z5 (by decide) rfl rfl rfl rfl ck5 (cs := [.int .u8 255]) (.cons .int .nil) rfl (l := ([(255 : UInt8)] : List UInt8)) (f := e8) rfl) rfl rfl ?_
  refine c0_ rfl rfl (.build (r := [.val (.int .i64 1), .row 16, .val (.bool false), .val (.slice none 0 0)]) und87 pl87 z87 (by kernel_rfl) rfl) rfl rfl ?_
  refine go_ ?_
  refine ch_n fun hU => ?_
  refine aw_r ?_
  obtain rfl := Option.some.inj hg
  exact fin_ [] ⟨rfl, rfl⟩
 ·refine awp_skip ?_
  repeat first | refine st_ ?_ | refine sn_ ?_
  refine sr_ 16 40 hU ?_
  refine c0_ rfl rfl (r_buildFull sl70 z5 (by decide) rfl rfl rfl rfl ck5 (cs := [.int .u8 0]) (.cons .int .nil) rfl (l := ([(0 : UInt8)] : List UInt8)) (f := e8) rfl) rfl rfl ?_
  refine c0_ rfl rfl (.build (r := [.val (.int .i64 1), .row 16, .val (.bool false), .val (.slice none 0 0)]) und87 pl87 z87 (by kernel_rfl) rfl) rfl rfl ?_
  refine go_ ?_
  refine ch_n fun hU => ?_
  refine aw_r ?_
  obtain rfl := Option.some.inj hg
  exact fin_ [] ⟨rfl, rfl⟩
theorem w_der_List (l : (List api_Value)) (r : api_Value) (hg : g_der_List l = some r) : Fn Try.prog 85 0 [.sl 4 (encL api_Value.enc l)] [] (fun d b => d = .agg (api_Value.dv r) ∧ b = []) := by
 unfold g_der_List at hg
 refine Fn.of Try.func85 rfl rfl rfl fun w0 I ρ0 => ?_
 show awp _ ⟨w0, I, ρ0, 0, 0, 5⟩ _ _ _
 refine sr_ 0 8 mk_U ?_
 refine go_ ?_
 refine ch_n fun hU => ?_
 refine sr_ 8 32 hU ?_
 refine go_ ?_
 obtain ⟨y, hy, hg⟩ := bind_some hg
 refine ca_ (w_der_Of _ _ hy) ?_
 refine go_ ?_
 refine ch_n fun hU => ?_
 refine aw_r ?_
 obtain rfl := Option.some.inj hg
 exact fin_ [] ⟨rfl, rfl⟩
theorem w_certificate_body (c : api_Certificate) (r : api_Value) (hg : g_certificate_body c = some r) : Fn Try.prog 68 0 [.agg (api_Certificate.dv c)] [] (fun d b => d = .agg (api_Value.dv r) ∧ b = []) := by
 unfold g_certificate_body at hg
 refine Fn.of Try.func68 rfl rfl rfl fun w0 I ρ0 => ?_
 show awp _ ⟨w0, I, ρ0, 0, 0, 53⟩ _ _ _
 refine sr_ 0 16 mk_U ?_
 refine go_ ?_
 refine ch_n fun hU => ?_
 refine sr_ 16 24 hU ?_
 refine go_ ?_
 refine ch_n fun hU => ?_
 refine awp_seq ?_
 refine sr_ 24 56 hU ?_
 refine go_ ?_
 refine ch_n fun hU => ?_
 refine awp_block ?_
 refine lp_ (fun ((x9_1, names_1) : Int × List api_Value) => mk [(1, .ptr 0 0), (2, .ptr 1 0), (3, .row 2), (7, .sl 1 (encL eS c.Names)), (8, .val (.int .i64 (c.Names.length : Int))), (9, .val (.int .i64 x9_1))] [(0, .box (api_Certificate.dv c) 40), (1, .box [.val (.int .i64 0), .val (.slice none 0 0), .val (.bool false), .val (.slice none 0 0)] 87), (2, .row 87 4 (encL api_Value.enc names_1))] 3) hg (sub_ [(0, 0), (1, 8)]) ?_
 rintro ⟨x9_1, names_1⟩ m1 o1 hg hn1
 replace hg : g_certificate_body.l1 c x9_1 names_1 = some o1 := hg
 show awp _ _ _ _ (mk _ _ _)
 unfold g_certificate_body.l1 at hg
 refine sr_ 3 11 mk_U ?_
 refine go_ ?_
 refine ch_n fun hU => ?_
 refine awp_seq ?_
 refine cg_ rfl hg (fun h5 hg => ?_) fun h5 hg => ?_
 ·refine awp_skip ?_
  repeat first | refine st_ ?_ | refine sn_ ?_
  refine awp_seq ?_
  refine awp_block ?_
  refine sr_ 11 35 hU ?_
  obtain ⟨e, he, hg⟩ := bind_some hg
  refine go_ ?_
  refine c0_ rfl rfl (r_loadE1 ty9 (enc_cell eS_len (getI_at he) (o := 0) (c := .str e) rfl rfl)) rfl rfl ?_
  refine go_ ?_
  refine ch_n fun hU => ?_
  refine awp_region (sys _ _ []) 35 83 hU rfl rfl ?_
  refine go_ ?_
  obtain ⟨y, hy, hg⟩ := bind_some hg
  refine ca_ (w_der_Text _ _ hy) ?_
  refine c0_ rfl rfl (r_buildFull sl85 z87 (by decide) rfl rfl rfl rfl ck87 (cs := [.int .i64 y.Tag, .sl 1 (encL e8 y.Bytes), .bool y.Nested, .sl 4 (encL api_Value.enc y.Elements)]) (.cons .int (.cons .sl (.cons .bool (.cons .sl .nil)))) rfl (l := ([y] : List api_Value)) (f := api_Value.enc) (by simp only [encL, List.flatMap_cons, List.flatMap_nil, api_Value.enc_eq]; rfl)) rfl rfl ?_
  obtain ⟨l, hl, hg⟩ := bind_some hg
  refine ch_s (rd := [2, 59]) rfl rfl (r_append sl85 api_Value.enc_len .row rfl .row rfl hl rfl) rfl rfl ?_
  refine go_ ?_
  refine ch_n fun hU => ?_
  refine awp_region (sys _ _ []) 83 99 hU rfl rfl ?_
  refine go_ ?_
  refine ch_n fun hU => ?_
  obtain rfl := Option.some.inj hg
  exact ⟨((W (x9_1 + 1), l), m1), Nat.lt_succ_self _, hn1, sub_ [(0, 0), (1, 1), (2, 67)]⟩
 ·refine awp_exit ?_
  repeat first | refine st_ ?_ | refine sn_ ?_
  replace hg := leave hg hn1
  refine awp_seq ?_
  refine awp_sub (σ' := mk [(1, .ptr 0 0), (2, .ptr 1 0), (3, .sl 4 (encL api_Value.enc names_1))] [(0, .box (api_Certificate.dv c) 40), (1, .box [.val (.int .i64 0), .val (.slice none 0 0), .val (.bool false), .val (.slice none 0 0)] 87)] 2) (sub_ [(0, 0), (1, 1)]) ?_
  refine awp_draw (sys _ _ [258]) (by kernel_rfl) [0, 1, 3, 0, 8, 31, 0, 64, 255, 0, 512, 2047, 0, 4096, 16383, 0, 32768, 131071, 0, 262144, 1048575, 0, 2097152, 8388607, 0, 16777216, 67108863, 0, 134217728, 536870911, 0, 2147483647, 4294967295, 8589934591, 17179869183] 2 282 mk_U rfl rfl (by kernel_rfl) ?_
  refine go_ ?_
  obtain ⟨y_12, hy_12, hg⟩ := bind_some hg
  refine ca_ (w_der_Int _ _ hy_12) ?_
  refine go_ ?_
  obtain ⟨y_13, hy_13, hg⟩ := bind_some hg
  refine ca_ (w_der_Text _ _ hy_13) ?_
  refine go_ ?_
  obtain ⟨y_14, hy_14, hg⟩ := bind_some hg
  refine ca_ (w_der_Text _ _ hy_14) ?_
  refine go_ ?_
  obtain ⟨y_15, hy_15, hg⟩ := bind_some hg
  refine ca_ (w_certificate_Use _ _ hy_15) ?_
  refine go_ ?_
  obtain ⟨y_16, hy_16, hg⟩ := bind_some hg
  refine ca_ (w_der_Int _ _ hy_16) ?_
  refine go_ ?_
  obtain ⟨y_17, hy_17, hg⟩ := bind_some hg
  refine ca_ (w_certificate_Use _ _ hy_17) ?_
  refine go_ ?_
  obtain ⟨y_18, hy_18, hg⟩ := bind_some hg
  refine ca_ (w_der_Int _ _ hy_18) ?_
  refine go_ ?_
  obtain ⟨y_19, hy_19, hg⟩ := bind_some hg
  refine ca_ (w_der_Int _ _ hy_19) ?_
  refine go_ ?_
  obtain ⟨y_20, hy_20, hg⟩ := bind_some hg
  refine ca_ (w_der_Bool _ _ hy_20) ?_
  refine go_ ?_
  obtain ⟨y_21, hy_21, hg⟩ := bind_some hg
  refine ca_ (w_der_Int _ _ hy_21) ?_
  refine go_ ?_
  obtain ⟨y_22, hy_22, hg⟩ := bind_some hg
  refine ca_ (w_der_List _ _ hy_22) ?_
  refine ch_z (rd := []) rfl rfl (r_buildFull sl85 z87 (by decide) rfl rfl rfl rfl ck87 (cs := [.int .i64 y_12.Tag, .sl 1 (encL e8 y_12.Bytes), .bool y_12.Nested, .sl 4 (encL api_Value.enc y_12.Elements), .int .i64 y_13.Tag, .sl 1 (encL e8 y_13.Bytes), .bool y_13.Nested, .sl 4 (encL api_Value.enc y_13.Elements), .int .i64 y_14.Tag, .sl 1 (encL e8 y_14.Bytes), .bool y_14.Nested, .sl 4 (encL api_Value.enc y_14.Elements), .int .i64 y_15.Tag, .sl 1 (encL e8 y_15.Bytes), .bool y_15.Nested, .sl 4 (encL api_Value.enc y_15.Elements), .int .i64 y_16.Tag, .sl 1 (encL e8 y_16.Bytes), .bool y_16.Nested, .sl 4 (encL api_Value.enc y_16.Elements), .int .i64 y_17.Tag, .sl 1 (encL e8 y_17.Bytes), .bool y_17.Nested, .sl 4 (encL api_Value.enc y_17.Elements), .int .i64 y_18.Tag, .sl 1 (encL e8 y_18.Bytes), .bool y_18.Nested, .sl 4 (encL api_Value.enc y_18.Elements), .int .i64 y_19.Tag, .sl 1 (encL e8 y_19.Bytes), .bool y_19.Nested, .sl 4 (encL api_Value.enc y_19.Elements), .int .i64 y_20.Tag, .sl 1 (encL e8 y_20.Bytes), .bool y_20.Nested, .sl 4 (encL api_Value.enc y_20.Elements), .int .i64 y_21.Tag, .sl 1 (encL e8 y_21.Bytes), .bool y_21.Nested, .sl 4 (encL api_Value.enc y_21.Elements), .int .i64 y_22.Tag, .sl 1 (encL e8 y_22.Bytes), .bool y_22.Nested, .sl 4 (encL api_Value.enc y_22.Elements)]) (.cons .int (.cons .sl (.cons .bool (.cons .sl (.cons .int (.cons .sl (.cons .bool (.cons .sl (.cons .int (.cons .sl (.cons .bool (.cons .sl (.cons .int (.cons .sl (.cons .bool (.cons .sl (.cons .int (.cons .sl (.cons .bool (.cons .sl (.cons .int (.cons .sl (.cons .bool (.cons .sl (.cons .int (.cons .sl (.cons .bool (.cons .sl (.cons .int (.cons .sl (.cons .bool (.cons .sl (.cons .int (.cons .sl (.cons .bool (.cons .sl (.cons .int (.cons .sl (.cons .bool (.cons .sl (.cons .int (.cons .sl (.cons .bool (.cons .sl .nil)))))))))))))))))))))))))))))))))))))))))))) rfl (l := ([y_12, y_13, y_14, y_15, y_16, y_17, y_18, y_19, y_20, y_21, y_22] : List api_Value)) (f := api_Value.enc) (by simp only [encL, List.flatMap_cons, List.flatMap_nil, api_Value.enc_eq]; rfl)) rfl rfl rfl ?_
  obtain ⟨y_23, hy_23, hg⟩ := bind_some hg
  refine ca_ (w_der_Of _ _ hy_23) ?_
  refine go_ ?_
  refine ch_n fun hU => ?_
  refine aw_r ?_
  obtain rfl := Option.some.inj hg
  exact fin_ [] ⟨rfl, rfl⟩
theorem w_der_tag (n : Int) (r : Bool) (hg : g_der_tag n = some r) : Fn Try.prog 88 0 [.val (.int .i64 n)] [] (fun d b => d = .val (.bool r) ∧ b = []) := by
 unfold g_der_tag at hg
 refine Fn.of Try.func88 rfl rfl rfl fun w0 I ρ0 => ?_
 show awp _ ⟨w0, I, ρ0, 0, 0, 14⟩ _ _ _
 refine sr_ 0 8 mk_U ?_
 refine go_ ?_
 refine ch_n fun hU => ?_
 refine sr_ 8 104 hU ?_
 refine go_ ?_
 rcases bc_ hg with ⟨h2, hg⟩ | ⟨h2, hg⟩
 ·refine go_ ?_
  rcases bc_ hg with ⟨h3, hg⟩ | ⟨h3, hg⟩
  ·refine go_ ?_
   refine c0_ (gdv_t rfl rfl h3) rfl r_andK rfl rfl ?_
   refine go_ ?_
   refine ch_n fun hU => ?_
   refine aw_r ?_
   obtain rfl := Option.some.inj hg
   exact fin_ [] ⟨rfl, rfl⟩
  ·refine go_ ?_
   refine ch_n fun hU => ?_
   refine aw_r ?_
   obtain rfl := Option.some.inj hg
   exact fin_ [] ⟨rfl, rfl⟩
 ·refine go_ ?_
  refine ch_n fun hU => ?_
  refine aw_r ?_
  obtain rfl := Option.some.inj hg
  exact fin_ [] ⟨rfl, rfl⟩
theorem w_der_formed_c1 (rec : api_Value → Option (Bool)) (hrec : ∀ (v : api_Value) (r : Bool), rec v = some r → Fn Try.prog 77 0 [.agg (api_Value.dv v)] [] (fun d b => d = .val (.bool r) ∧ b = [])) (x' : api_Value) (r : Bool) (hg : g_der_formed_c1 rec x' = some r) : Fn Try.prog 90 0 [.agg (api_Value.dv x')] [] (fun d b => d = .val (.bool r) ∧ b = []) := by
 unfold g_der_formed_c1 at hg
 refine Fn.of Try.func90 rfl rfl rfl fun w0 I ρ0 => ?_
 show awp _ ⟨w0, I, ρ0, 0, 0, 6⟩ _ _ _
 refine sr_ 0 16 mk_U ?_
 refine go_ ?_
 refine ch_n fun hU => ?_
 refine sr_ 16 48 hU ?_
 refine go_ ?_
 obtain ⟨y, hy, hg⟩ := bind_some hg
 refine ca_ (hrec _ _ hy) ?_
 refine go_ ?_
 refine ch_n fun hU => ?_
 refine aw_r ?_
 obtain rfl := Option.some.inj hg
 exact fin_ [] ⟨rfl, rfl⟩
theorem w_slices_IndexFunc_api_Value_clo_90_0_ (rec : api_Value → Option (Bool)) (hrec : ∀ (v : api_Value) (r : Bool), rec v = some r → Fn Try.prog 77 0 [.agg (api_Value.dv v)] [] (fun d b => d = .val (.bool r) ∧ b = [])) (s : (List api_Value)) (f : api_Value → Option (Bool)) (hf_f : ∀ (x0 : api_Value) (y : Bool), f x0 = some y → Fn Try.prog 90 0 [.agg (api_Value.dv x0)] [] (fun d b => d = .val (.bool y) ∧ b = [])) (r : Int) (hg : g_slices_IndexFunc_api_Value rec s f = some r) : Fn Try.prog 96 0 [.sl 4 (encL api_Value.enc s), .clo 90 0 []] [] (fun d b => d = .val (.int .i64 r) ∧ b = []) := by
 unfold g_slices_IndexFunc_api_Value at hg
 refine Fn.of Try.func96 rfl rfl rfl fun w0 I ρ0 => ?_
 show awp _ ⟨w0, I, ρ0, 0, 0, 19⟩ _ _ _
 refine sr_ 0 8 mk_U ?_
 refine go_ ?_
 refine ch_n fun hU => ?_
 refine awp_seq ?_
 refine sr_ 8 32 hU ?_
 refine go_ ?_
 refine ch_n fun hU => ?_
 refine awp_block ?_
 refine lp_ (fun (x8_1 : Int) => mk [(0, .sl 4 (encL api_Value.enc s)), (1, .clo 90 0 []), (7, .val (.int .i64 (s.length : Int))), (8, .val (.int .i64 x8_1))] [] 0) hg (sub_ []) ?_
 rintro x8_1 m1 o1 hg hn1
 replace hg : g_slices_IndexFunc_api_Value.l1 s f x8_1 = some o1 := hg
 show awp _ _ _ _ (mk _ _ _)
 unfold g_slices_IndexFunc_api_Value.l1 at hg
 refine sr_ 0 8 mk_U ?_
 refine go_ ?_
 refine ch_n fun hU => ?_
 refine awp_seq ?_
 refine cg_ rfl hg (fun h4 hg => ?_) fun h4 hg => ?_
 ·refine awp_skip ?_
  repeat first | refine st_ ?_ | refine sn_ ?_
  refine awp_seq ?_
  refine awp_block ?_
  refine sr_ 8 24 hU ?_
  refine go_ ?_
  refine ch_n fun hU => ?_
  refine sr_ 24 72 hU ?_
  refine go_ ?_
  obtain ⟨e, he, hg⟩ := bind_some hg
  refine go_ ?_
  refine c0_ rfl rfl (r_loadEA ty87 (enc_cells api_Value.enc_len (getI_at he) (o := 0) (m := 4) (cs := [.int .i64 e.Tag, .sl 1 (encL e8 e.Bytes), .bool e.Nested, .sl 4 (encL api_Value.enc e.Elements)]) (by simp only [api_Value.enc_eq]; rfl) (by decide) rfl) (enc_cells_le api_Value.enc_len (getI_at he) (o := 0) (m := 4) (by decide) rfl)) rfl rfl ?_
  obtain ⟨y, hy, hg⟩ := bind_some hg
  refine ch_callCP (rd := []) (ps := []) (gs := []) false rfl rfl (hf_f e _ hy) rfl rfl (.cons (.agg (.cons .val (.cons .sl (.cons .val (.cons .sl .nil))))) .nil) rfl rfl (by intro h; cases h) rfl rfl rfl rfl ?_
  refine ch_n fun hU => ?_
  refine cg_ rfl hg (fun h7 hg => ?_) fun h7 hg => ?_
  ·refine awp_seq ?_
   refine awp_region (sys _ _ []) 72 88 hU rfl rfl ?_
   refine go_ ?_
   refine ch_n fun hU => ?_
   refine aw_r ?_
   replace hg := leave hg hn1
   obtain rfl := Option.some.inj hg
   exact fin_ [] ⟨rfl, rfl⟩
  ·refine awp_skip ?_
   repeat first | refine st_ ?_ | refine sn_ ?_
   refine awp_region (sys _ _ []) 72 88 hU rfl rfl ?_
   refine go_ ?_
   refine ch_n fun hU => ?_
   obtain rfl := Option.some.inj hg
   exact ⟨(W (x8_1 + 1), m1), Nat.lt_succ_self _, hn1, sub_ []⟩
 ·refine awp_exit ?_
  repeat first | refine st_ ?_ | refine sn_ ?_
  replace hg := leave hg hn1
  refine sr_ 8 16 hU ?_
  refine go_ ?_
  refine ch_n fun hU => ?_
  refine aw_r ?_
  obtain rfl := Option.some.inj hg
  exact fin_ [] ⟨rfl, rfl⟩
theorem w_slices_ContainsFunc_api_Value_clo_90_0_ (rec : api_Value → Option (Bool)) (hrec : ∀ (v : api_Value) (r : Bool), rec v = some r → Fn Try.prog 77 0 [.agg (api_Value.dv v)] [] (fun d b => d = .val (.bool r) ∧ b = [])) (s : (List api_Value)) (f : api_Value → Option (Bool)) (hf_f : ∀ (x0 : api_Value) (y : Bool), f x0 = some y → Fn Try.prog 90 0 [.agg (api_Value.dv x0)] [] (fun d b => d = .val (.bool y) ∧ b = [])) (r : Bool) (hg : g_slices_ContainsFunc_api_Value rec s f = some r) : Fn Try.prog 89 0 [.sl 4 (encL api_Value.enc s), .clo 90 0 []] [] (fun d b => d = .val (.bool r) ∧ b = []) := by
 unfold g_slices_ContainsFunc_api_Value at hg
 refine Fn.of Try.func89 rfl rfl rfl fun w0 I ρ0 => ?_
 show awp _ ⟨w0, I, ρ0, 0, 0, 9⟩ _ _ _
 refine sr_ 0 8 mk_U ?_
 refine go_ ?_
 refine ch_n fun hU => ?_
 refine sr_ 8 48 hU ?_
 refine go_ ?_
 obtain ⟨y, hy, hg⟩ := bind_some hg
 refine ca_ (w_slices_IndexFunc_api_Value_clo_90_0_ rec hrec s f hf_f _ hy) ?_
 refine go_ ?_
 refine ch_n fun hU => ?_
 refine aw_r ?_
 obtain rfl := Option.some.inj hg
 exact fin_ [] ⟨rfl, rfl⟩
theorem w_der_formed.F (rec : api_Value → Option (Bool)) (hrec : ∀ (v : api_Value) (r : Bool), rec v = some r → Fn Try.prog 77 0 [.agg (api_Value.dv v)] [] (fun d b => d = .val (.bool r) ∧ b = [])) (v : api_Value) (r : Bool) (hg : g_der_formed.F rec v = some r) : Fn Try.prog 77 0 [.agg (api_Value.dv v)] [] (fun d b => d = .val (.bool r) ∧ b = []) := by
 unfold g_der_formed.F at hg
 refine Fn.of Try.func77 rfl rfl rfl fun w0 I ρ0 => ?_
 show awp _ ⟨w0, I, ρ0, 0, 0, 41⟩ _ _ _
 refine sr_ 0 16 mk_U ?_
 refine go_ ?_
 refine ch_n fun hU => ?_
 refine awp_seq ?_
 refine awp_cut (ι := Bool) (fun (x36_1 : Bool) => mk [(1, .ptr 0 0), (36, .val (.bool x36_1))] [(0, .box (api_Value.dv v) 87)] 1) (fun (x36_1 : Bool) => g_der_formed.j1 rec v x36_1 = some r) ?_ ?_
 ·refine awp_region (sys _ _ []) 16 288 hU rfl rfl ?_
  refine go_ ?_
  obtain ⟨y, hy, hg⟩ := bind_some hg
  refine ca_ (w_der_tag _ _ hy) ?_
  refine go_ ?_
  rcases bc_ hg with ⟨h2, hg⟩ | ⟨h2, hg⟩
  ·refine go_ ?_
   refine ch_n fun hU => ?_
   exact ⟨true, hg, sub_ [(0, 0)]⟩
  ·refine go_ ?_
   refine c0_ (gdv_t rfl rfl h2) rfl r_andK rfl rfl ?_
   refine go_ ?_
   refine c0_ (gdv_t rfl rfl h2) rfl (r_bneq und4) rfl rfl ?_
   refine go_ ?_
   rcases bc_ hg with ⟨h4, hg⟩ | ⟨h4, hg⟩
   ·refine go_ ?_
    refine ch_n fun hU => ?_
    exact ⟨true, hg, sub_ [(0, 0)]⟩
   ·refine go_ ?_
    rcases bc_ hg with ⟨h6, hg⟩ | ⟨h6, hg⟩
    ·refine go_ ?_
     rcases bc_ hg with ⟨h7, hg⟩ | ⟨h7, hg⟩
     ·refine go_ ?_
      refine ch_n fun hU => ?_
      exact ⟨true, hg, sub_ [(0, 0)]⟩
     ·refine go_ ?_
      refine ch_n fun hU => ?_
      exact ⟨false, hg, sub_ [(0, 0)]⟩
    ·refine go_ ?_
     refine ch_n fun hU => ?_
     exact ⟨decide (0 < (v.Elements.length : Int)), hg, sub_ [(0, 0)]⟩
 ·rintro x36_1 hg
  replace hg : g_der_formed.j1 rec v x36_1 = some r := hg
  show awp _ _ _ _ (mk _ _ _)
  unfold g_der_formed.j1 at hg
  refine cg_ rfl hg (fun h11 hg => ?_) fun h11 hg => ?_
  ·refine awp_seq ?_
   refine awp_region (sys _ _ []) 1 9 mk_U rfl rfl ?_
   refine go_ ?_
   refine ch_n fun hU => ?_
   refine aw_r ?_
   obtain rfl := Option.some.inj hg
   exact fin_ [] ⟨rfl, rfl⟩
  ·refine awp_skip ?_
   repeat first | refine st_ ?_ | refine sn_ ?_
   refine sr_ 1 41 mk_U ?_
   refine go_ ?_
   obtain ⟨y_2, hy_2, hg⟩ := bind_some hg
   refine ca_ (w_slices_ContainsFunc_api_Value_clo_90_0_ rec hrec v.Elements (fun x0 => g_der_formed_c1 rec x0) (fun x0 y h => w_der_formed_c1 rec hrec x0 y h) _ hy_2) ?_
   refine go_ ?_
   refine ch_n fun hU => ?_
   refine aw_r ?_
   obtain rfl := Option.some.inj hg
   exact fin_ [] ⟨rfl, rfl⟩
theorem w_der_formed (v : api_Value) (r : Bool) (hg : g_der_formed v = some r) : Fn Try.prog 77 0 [.agg (api_Value.dv v)] [] (fun d b => d = .val (.bool r) ∧ b = []) :=
 fixT_ind (motive := fun (x : api_Value) (r : Bool) => Fn Try.prog 77 0 [.agg (api_Value.dv x)] [] (fun d b => d = .val (.bool r) ∧ b = [])) (fun rec hrec x r h => w_der_formed.F _ (fun v r h => hrec v r h) x r h) v r hg
theorem w_der_depth.F (rec : api_Value → Option (Int)) (hrec : ∀ (v : api_Value) (r : Int), rec v = some r → Fn Try.prog 78 0 [.agg (api_Value.dv v)] [] (fun d b => d = .val (.int .i64 r) ∧ b = [])) (v : api_Value) (r : Int) (hg : g_der_depth.F rec v = some r) : Fn Try.prog 78 0 [.agg (api_Value.dv v)] [] (fun d b => d = .val (.int .i64 r) ∧ b = []) := by
 unfold g_der_depth.F at hg
 refine Fn.of Try.func78 rfl rfl rfl fun w0 I ρ0 => ?_
 show awp _ ⟨w0, I, ρ0, 0, 0, 20⟩ _ _ _
 refine sr_ 0 16 mk_U ?_
 refine go_ ?_
 refine ch_n fun hU => ?_
 refine sr_ 16 24 hU ?_
 refine go_ ?_
 refine ch_n fun hU => ?_
 refine awp_seq ?_
 refine sr_ 24 56 hU ?_
 refine go_ ?_
 refine ch_n fun hU => ?_
 refine awp_block ?_
 refine lp_ (fun ((most_1, x9_1) : Int × Int) => mk [(3, .val (.int .i64 most_1)), (7, .sl 4 (encL api_Value.enc v.Elements)), (8, .val (.int .i64 (v.Elements.length : Int))), (9, .val (.int .i64 x9_1))] [] 0) hg (sub_ []) ?_
 rintro ⟨most_1, x9_1⟩ m1 o1 hg hn1
 replace hg : g_der_depth.l1 rec v most_1 x9_1 = some o1 := hg
 show awp _ _ _ _ (mk _ _ _)
 unfold g_der_depth.l1 at hg
 refine sr_ 0 8 mk_U ?_
 refine go_ ?_
 refine ch_n fun hU => ?_
 refine awp_seq ?_
 refine cg_ rfl hg (fun h5 hg => ?_) fun h5 hg => ?_
 ·refine awp_skip ?_
  repeat first | refine st_ ?_ | refine sn_ ?_
  refine awp_seq ?_
  refine awp_block ?_
  refine sr_ 8 40 hU ?_
  obtain ⟨e, he, hg⟩ := bind_some hg
  refine go_ ?_
  refine c0_ rfl rfl (r_loadEA ty87 (enc_cells api_Value.enc_len (getI_at he) (o := 0) (m := 4) (cs := [.int .i64 e.Tag, .sl 1 (encL e8 e.Bytes), .bool e.Nested, .sl 4 (encL api_Value.enc e.Elements)]) (by simp only [api_Value.enc_eq]; rfl) (by decide) rfl) (enc_cells_le api_Value.enc_len (getI_at he) (o := 0) (m := 4) (by decide) rfl)) rfl rfl ?_
  refine go_ ?_
  refine ch_n fun hU => ?_
  refine awp_region (sys _ _ []) 40 80 hU rfl rfl ?_
  refine go_ ?_
  obtain ⟨y, hy, hg⟩ := bind_some hg
  refine ca_ (hrec _ _ hy) ?_
  refine c0_ rfl rfl r_max rfl rfl ?_
  refine go_ ?_
  refine ch_n fun hU => ?_
  refine awp_region (sys _ _ []) 80 96 hU rfl rfl ?_
  refine go_ ?_
  refine ch_n fun hU => ?_
  obtain rfl := Option.some.inj hg
  exact ⟨((max most_1 y, W (x9_1 + 1)), m1), Nat.lt_succ_self _, hn1, sub_ []⟩
 ·refine awp_exit ?_
  repeat first | refine st_ ?_ | refine sn_ ?_
  replace hg := leave hg hn1
  refine sr_ 8 32 hU ?_
  refine go_ ?_
  refine ch_n fun hU => ?_
  refine aw_r ?_
  obtain rfl := Option.some.inj hg
  exact fin_ [] ⟨rfl, rfl⟩
theorem w_der_depth (v : api_Value) (r : Int) (hg : g_der_depth v = some r) : Fn Try.prog 78 0 [.agg (api_Value.dv v)] [] (fun d b => d = .val (.int .i64 r) ∧ b = []) :=
 fixT_ind (motive := fun (x : api_Value) (r : Int) => Fn Try.prog 78 0 [.agg (api_Value.dv x)] [] (fun d b => d = .val (.int .i64 r) ∧ b = [])) (fun rec hrec x r h => w_der_depth.F _ (fun v r h => hrec v r h) x r h) v r hg
theorem w_der_length_own (b : List UInt8) (n : Int) (r : (List UInt8)) (hg : g_der_length b n = some r) : Fn Try.prog 92 0 [.row 0, .val (.int .i64 n)] [.row 5 1 (encL e8 b)] (fun d b => d = .row 0 ∧ b = [.row 5 1 (encL e8 r)]) := by
 unfold g_der_length at hg
 refine Fn.of Try.func92 rfl rfl rfl fun w0 I ρ0 => ?_
 show awp _ ⟨w0, I, ρ0, 0, 1, 43⟩ _ _ _
 refine sr_ 1 9 mk_U ?_
 refine go_ ?_
 refine ch_n fun hU => ?_
 refine awp_seq ?_
 refine sr_ 9 25 hU ?_
 refine go_ ?_
 refine ch_n fun hU => ?_
 refine cg_ rfl hg (fun h3 hg => ?_) fun h3 hg => ?_
 ·refine awp_seq ?_
  refine awp_region (sys _ _ []) 25 73 hU rfl rfl ?_
  refine go_ ?_
  refine c0_ rfl rfl (r_conv_u8 und3 und5) rfl rfl ?_
  refine c0_ rfl rfl (r_buildFull sl70 z5 (by decide) rfl rfl rfl rfl ck5 (cs := [.int .u8 ((u8 n).toNat : Int)]) (.cons .int .nil) rfl (l := ([(u8 n)] : List UInt8)) (f := e8) rfl) rfl rfl ?_
  obtain ⟨l, hl, hg⟩ := bind_some hg
  refine ch_s (rd := [0, 49]) rfl rfl (r_append sl70 e8_len .row rfl .row rfl hl rfl) rfl rfl ?_
  refine go_ ?_
  refine ch_n fun hU => ?_
  refine aw_r ?_
  obtain rfl := Option.some.inj hg
  exact fin_ [(0, 57)] ⟨rfl, rfl⟩
 ·refine awp_skip ?_
  repeat first | refine st_ ?_ | refine sn_ ?_
  refine sr_ 25 33 hU ?_
  refine go_ ?_
  refine ch_n fun hU => ?_
  refine awp_seq ?_
  refine sr_ 33 49 hU ?_
  refine go_ ?_
  refine ch_n fun hU => ?_
  refine awp_block ?_
  refine lp_ (fun ((count_1, m_1) : Int × Int) => mk [(0, .row 0), (1, .val (.int .i64 n)), (5, .val (.int .i64 count_1)), (6, .val (.int .i64 m_1))] [(0, .row 5 1 (encL e8 b))] 1) hg (sub_ [(0, 0)]) ?_
  rintro ⟨count_1, m_1⟩ m1 o1 hg hn1
  replace hg : g_der_length.l1 b n count_1 m_1 = some o1 := hg
  show awp _ _ _ _ (mk _ _ _)
  unfold g_der_length.l1 at hg
  refine awp_seq ?_
  refine sr_ 1 17 mk_U ?_
  refine go_ ?_
  refine ch_n fun hU => ?_
  refine cg_ rfl hg (fun h8 hg => ?_) fun h8 hg => ?_
  ·refine awp_skip ?_
   repeat first | refine st_ ?_ | refine sn_ ?_
   refine awp_seq ?_
   refine awp_block ?_
   refine awp_region (sys _ _ []) 17 41 hU rfl rfl ?_
   refine go_ ?_
   refine ch_n fun hU => ?_
   refine awp_region (sys _ _ []) 41 65 hU rfl rfl ?_
   refine go_ ?_
   obtain ⟨q, hq, hg⟩ := bind_some hg
   refine c0_ rfl rfl (r_shrK hq) rfl rfl ?_
   refine go_ ?_
   refine ch_n fun hU => ?_
   obtain rfl := Option.some.inj hg
   exact ⟨((W (count_1 + 1), q), m1), Nat.lt_succ_self _, hn1, sub_ [(0, 0)]⟩
  ·refine awp_exit ?_
   repeat first | refine st_ ?_ | refine sn_ ?_
   replace hg := leave hg hn1
   refine sr_ 17 73 hU ?_
   refine go_ ?_
   refine c0_ rfl rfl (r_conv_u8 und3 und5) rfl rfl ?_
   refine c0_ rfl rfl (r_buildFull sl70 z5 (by decide) rfl rfl rfl rfl ck5 (cs := [.int .u8 ((u8 (W (128 + count_1))).toNat : Int)]) (.cons .int .nil) rfl (l := ([(u8 (W (128 + count_1)))] : List UInt8)) (f := e8) rfl) rfl rfl ?_
   obtain ⟨l_2, hl_2, hg⟩ := bind_some hg
   refine ch_s (rd := [0, 49]) rfl rfl (r_append sl70 e8_len .row rfl .row rfl hl_2 rfl) rfl rfl ?_
   refine go_ ?_
   refine ch_n fun hU => ?_
   refine awp_seq ?_
   refine sr_ 73 97 hU ?_
   refine go_ ?_
   refine ch_n fun hU => ?_
   refine awp_block ?_
   refine lp_ (fun ((i_2, b_2) : Int × List UInt8) => mk [(0, .row 0), (1, .val (.int .i64 n)), (7, .val (.int .i64 i_2))] [(0, .row 5 1 (encL e8 b_2))] 1) hg (sub_ [(0, 57)]) ?_
   rintro ⟨i_2, b_2⟩ m2 o2 hg hn2
   replace hg : g_der_length.l2 n i_2 b_2 = some o2 := hg
   show awp _ _ _ _ (mk _ _ _)
   unfold g_der_length.l2 at hg
   refine awp_seq ?_
   refine sr_ 1 17 mk_U ?_
   refine go_ ?_
   refine ch_n fun hU => ?_
   refine cg_ rfl hg (fun h14 hg => ?_) fun h14 hg => ?_
   ·refine awp_skip ?_
    repeat first | refine st_ ?_ | refine sn_ ?_
    refine awp_seq ?_
    refine awp_block ?_
    refine awp_region (sys _ _ []) 17 89 hU rfl rfl ?_
    refine go_ ?_
    obtain ⟨q_2, hq_2, hg⟩ := bind_some hg
    refine c0_ rfl rfl (r_shrK hq_2) rfl rfl ?_
    refine c0_ rfl rfl (r_conv_u8 und3 und5) rfl rfl ?_
    refine c0_ rfl rfl (r_buildFull sl70 z5 (by decide) rfl rfl rfl rfl ck5 (cs := [.int .u8 ((u8 q_2).toNat : Int)]) (.cons .int .nil) rfl (l := ([(u8 q_2)] : List UInt8)) (f := e8) rfl) rfl rfl ?_
    obtain ⟨l_3, hl_3, hg⟩ := bind_some hg
    refine ch_s (rd := [0, 65]) rfl rfl (r_append sl70 e8_len .row rfl .row rfl hl_3 rfl) rfl rfl ?_
    refine go_ ?_
    refine ch_n fun hU => ?_
    refine awp_region (sys _ _ []) 89 113 hU rfl rfl ?_
    refine go_ ?_
    refine ch_n fun hU => ?_
    obtain rfl := Option.some.inj hg
    exact ⟨((W (i_2 - 1), l_3), m2), Nat.lt_succ_self _, hn2, sub_ [(0, 73)]⟩
   ·refine awp_exit ?_
    repeat first | refine st_ ?_ | refine sn_ ?_
    replace hg := leave hg hn2
    refine sr_ 17 33 hU ?_
    refine go_ ?_
    refine ch_n fun hU => ?_
    refine aw_r ?_
    obtain rfl := Option.some.inj hg
    exact fin_ [(0, 0)] ⟨rfl, rfl⟩
theorem w_der_element_own (rec : api_Value → Option ((List UInt8))) (hrec : ∀ (v : api_Value) (r : (List UInt8)), rec v = some r → Fn Try.prog 91 0 [.agg (api_Value.dv v)] [] (fun d b => d = .sl 1 (encL e8 r) ∧ b = [])) (b : List UInt8) (v : api_Value) (r : (List UInt8)) (hg : g_der_element rec b v = some r) : Fn Try.prog 79 0 [.row 0, .agg (api_Value.dv v)] [.row 5 1 (encL e8 b)] (fun d b => d = .row 0 ∧ b = [.row 5 1 (encL e8 r)]) := by
 unfold g_der_element at hg
 refine Fn.of Try.func79 rfl rfl rfl fun w0 I ρ0 => ?_
 show awp _ ⟨w0, I, ρ0, 0, 1, 19⟩ _ _ _
 refine sr_ 1 17 mk_U ?_
 refine go_ ?_
 refine ch_n fun hU => ?_
 refine sr_ 17 41 hU ?_
 refine go_ ?_
 obtain ⟨y, hy, hg⟩ := bind_some hg
 refine ca_ (hrec _ _ hy) ?_
 refine go_ ?_
 refine ch_n fun hU => ?_
 refine sr_ 41 137 hU ?_
 refine go_ ?_
 refine c0_ rfl rfl (r_conv_u8 und3 und5) rfl rfl ?_
 refine c0_ rfl rfl (r_buildFull sl70 z5 (by decide) rfl rfl rfl rfl ck5 (cs := [.int .u8 ((u8 v.Tag).toNat : Int)]) (.cons .int .nil) rfl (l := ([(u8 v.Tag)] : List UInt8)) (f := e8) rfl) rfl rfl ?_
 obtain ⟨l, hl, hg⟩ := bind_some hg
 refine ch_s (rd := [0, 73]) rfl rfl (r_append sl70 e8_len .row rfl .row rfl hl rfl) rfl rfl ?_
 refine go_ ?_
 obtain ⟨y_2, hy_2, hg⟩ := bind_some hg
 refine ch_call (rd := [81]) (ps := []) (gs := [81]) false rfl (w_der_length_own _ _ _ hy_2) rfl rfl (.cons (.rowK rfl) (.cons .val .nil)) ⟨_, _, _, rfl, .head _, rfl, rfl⟩ rfl (by intro h; cases h) rfl (by intro h; first | (cases h; done) | exact ⟨_, _, ⟨rfl, rfl⟩, by simp, by simp⟩) ?_
 rintro _ _ ⟨rfl, rfl⟩
 refine go_ ?_
 obtain ⟨l_2, hl_2, hg⟩ := bind_some hg
 refine ch_s (rd := [105]) rfl rfl (r_append sl70 e8_len .row rfl .sl rfl hl_2 rfl) rfl rfl ?_
 refine go_ ?_
 refine ch_n fun hU => ?_
 refine aw_r ?_
 obtain rfl := Option.some.inj hg
 exact fin_ [(0, 121)] ⟨rfl, rfl⟩
theorem w_der_contents.F (rec : api_Value → Option ((List UInt8))) (hrec : ∀ (v : api_Value) (r : (List UInt8)), rec v = some r → Fn Try.prog 91 0 [.agg (api_Value.dv v)] [] (fun d b => d = .sl 1 (encL e8 r) ∧ b = [])) (v : api_Value) (r : (List UInt8)) (hg : g_der_contents.F rec v = some r) : Fn Try.prog 91 0 [.agg (api_Value.dv v)] [] (fun d b => d = .sl 1 (encL e8 r) ∧ b = []) := by
 unfold g_der_contents.F at hg
 refine Fn.of Try.func91 rfl rfl rfl fun w0 I ρ0 => ?_
 show awp _ ⟨w0, I, ρ0, 0, 0, 23⟩ _ _ _
 refine sr_ 0 16 mk_U ?_
 refine go_ ?_
 refine ch_n fun hU => ?_
 refine awp_seq ?_
 refine sr_ 16 40 hU ?_
 refine go_ ?_
 refine ch_n fun hU => ?_
 refine cg_ rfl hg (fun h3 hg => ?_) fun h3 hg => ?_
 ·refine awp_seq ?_
  refine awp_region (sys _ _ []) 40 64 hU rfl rfl ?_
  refine go_ ?_
  refine ch_n fun hU => ?_
  refine aw_r ?_
  obtain rfl := Option.some.inj hg
  exact fin_ [] ⟨rfl, rfl⟩
 ·refine awp_skip ?_
  repeat first | refine st_ ?_ | refine sn_ ?_
  refine sr_ 40 48 hU ?_
  refine go_ ?_
  refine ch_n fun hU => ?_
  refine awp_seq ?_
  refine sr_ 48 80 hU ?_
  refine go_ ?_
  refine ch_n fun hU => ?_
  refine awp_block ?_
  refine lp_ (fun ((x14_1, out_1) : Int × List UInt8) => mk [(3, .row 0), (12, .sl 4 (encL api_Value.enc v.Elements)), (13, .val (.int .i64 (v.Elements.length : Int))), (14, .val (.int .i64 x14_1))] [(0, .row 5 1 (encL e8 out_1))] 1) hg (sub_ []) ?_
  rintro ⟨x14_1, out_1⟩ m1 o1 hg hn1
  replace hg : g_der_contents.l1 rec v x14_1 out_1 = some o1 := hg
  show awp _ _ _ _ (mk _ _ _)
  unfold g_der_contents.l1 at hg
  refine sr_ 1 9 mk_U ?_
  refine go_ ?_
  refine ch_n fun hU => ?_
  refine awp_seq ?_
  refine cg_ rfl hg (fun h8 hg => ?_) fun h8 hg => ?_
  ·refine awp_skip ?_
   repeat first | refine st_ ?_ | refine sn_ ?_
   refine awp_seq ?_
   refine awp_block ?_
   refine sr_ 9 41 hU ?_
   obtain ⟨e, he, hg⟩ := bind_some hg
   refine go_ ?_
   refine c0_ rfl rfl (r_loadEA ty87 (enc_cells api_Value.enc_len (getI_at he) (o := 0) (m := 4) (cs := [.int .i64 e.Tag, .sl 1 (encL e8 e.Bytes), .bool e.Nested, .sl 4 (encL api_Value.enc e.Elements)]) (by simp only [api_Value.enc_eq]; rfl) (by decide) rfl) (enc_cells_le api_Value.enc_len (getI_at he) (o := 0) (m := 4) (by decide) rfl)) rfl rfl ?_
   refine go_ ?_
   refine ch_n fun hU => ?_
   refine awp_region (sys _ _ []) 41 73 hU rfl rfl ?_
   refine go_ ?_
   obtain ⟨y, hy, hg⟩ := bind_some hg
   refine ch_call (rd := [0]) (ps := []) (gs := [0]) false rfl (w_der_element_own rec hrec _ _ _ hy) rfl rfl (.cons (.rowK rfl) (.cons (.agg (.cons .val (.cons .sl (.cons .val (.cons .sl .nil))))) .nil)) ⟨_, _, _, rfl, .head _, rfl, rfl⟩ rfl (by intro h; cases h) rfl (by intro h; first | (cases h; done) | exact ⟨_, _, ⟨rfl, rfl⟩, by simp, by simp⟩) ?_
   rintro _ _ ⟨rfl, rfl⟩
   refine go_ ?_
   refine ch_n fun hU => ?_
   refine awp_region (sys _ _ []) 73 89 hU rfl rfl ?_
   refine go_ ?_
   refine ch_n fun hU => ?_
   obtain rfl := Option.some.inj hg
   exact ⟨((W (x14_1 + 1), y), m1), Nat.lt_succ_self _, hn1, sub_ [(0, 57)]⟩
  ·refine awp_exit ?_
   repeat first | refine st_ ?_ | refine sn_ ?_
   replace hg := leave hg hn1
   refine sr_ 9 25 hU ?_
   refine go_ ?_
   refine ch_n fun hU => ?_
   refine aw_r ?_
   obtain rfl := Option.some.inj hg
   exact fin_ [] ⟨rfl, rfl⟩
theorem w_der_contents (v : api_Value) (r : (List UInt8)) (hg : g_der_contents v = some r) : Fn Try.prog 91 0 [.agg (api_Value.dv v)] [] (fun d b => d = .sl 1 (encL e8 r) ∧ b = []) :=
 fixT_ind (motive := fun (x : api_Value) (r : (List UInt8)) => Fn Try.prog 91 0 [.agg (api_Value.dv x)] [] (fun d b => d = .sl 1 (encL e8 r) ∧ b = [])) (fun rec hrec x r h => w_der_contents.F _ (fun v r h => hrec v r h) x r h) v r hg
theorem w_der_element_nil_own (v : api_Value) (r : (List UInt8)) (hg : g_der_element_nil v = some r) : Fn Try.prog 79 0 [.val (.slice none 0 0), .agg (api_Value.dv v)] [] (fun d b => d = .row 0 ∧ b = [.row 5 1 (encL e8 r)]) := by
 unfold g_der_element_nil at hg
 refine Fn.of Try.func79 rfl rfl rfl fun w0 I ρ0 => ?_
 show awp _ ⟨w0, I, ρ0, 0, 0, 19⟩ _ _ _
 refine sr_ 0 16 mk_U ?_
 refine go_ ?_
 refine ch_n fun hU => ?_
 refine sr_ 16 40 hU ?_
 refine go_ ?_
 obtain ⟨y, hy, hg⟩ := bind_some hg
 refine ca_ (w_der_contents _ _ hy) ?_
 refine go_ ?_
 refine ch_n fun hU => ?_
 refine sr_ 40 136 hU ?_
 refine go_ ?_
 refine c0_ rfl rfl (r_conv_u8 und3 und5) rfl rfl ?_
 refine c0_ rfl rfl (r_buildFull sl70 z5 (by decide) rfl rfl rfl rfl ck5 (cs := [.int .u8 ((u8 v.Tag).toNat : Int)]) (.cons .int .nil) rfl (l := ([(u8 v.Tag)] : List UInt8)) (f := e8) rfl) rfl rfl ?_
 obtain ⟨l, hl, hg⟩ := bind_some hg
 refine ch_s (rd := [72]) rfl rfl (r_append sl70 e8_len .nil rfl .row rfl hl rfl) rfl rfl ?_
 refine go_ ?_
 obtain ⟨y_2, hy_2, hg⟩ := bind_some hg
 refine ch_call (rd := [80]) (ps := []) (gs := [80]) false rfl (w_der_length_own _ _ _ hy_2) rfl rfl (.cons (.rowK rfl) (.cons .val .nil)) ⟨_, _, _, rfl, .head _, rfl, rfl⟩ rfl (by intro h; cases h) rfl (by intro h; first | (cases h; done) | exact ⟨_, _, ⟨rfl, rfl⟩, by simp, by simp⟩) ?_
 rintro _ _ ⟨rfl, rfl⟩
 refine go_ ?_
 obtain ⟨l_2, hl_2, hg⟩ := bind_some hg
 refine ch_s (rd := [104]) rfl rfl (r_append sl70 e8_len .row rfl .sl rfl hl_2 rfl) rfl rfl ?_
 refine go_ ?_
 refine ch_n fun hU => ?_
 refine aw_r ?_
 obtain rfl := Option.some.inj hg
 exact fin_ [(0, 120)] ⟨rfl, rfl⟩
theorem w_der_Encode (v : api_Value) (r : (List UInt8) × Int) (hg : g_der_Encode v = some r) : Fn Try.prog 67 0 [.agg (api_Value.dv v)] [] (fun d b => d = .tup [.sl 1 (encL e8 r.1), .val (.int .i64 r.2)] ∧ b = []) := by
 unfold g_der_Encode at hg
 refine Fn.of Try.func67 rfl rfl rfl fun w0 I ρ0 => ?_
 show awp _ ⟨w0, I, ρ0, 0, 0, 17⟩ _ _ _
 refine sr_ 0 24 mk_U ?_
 refine go_ ?_
 refine ch_n fun hU => ?_
 refine awp_seq ?_
 refine sr_ 24 48 hU ?_
 refine go_ ?_
 obtain ⟨y, hy, hg⟩ := bind_some hg
 refine ca_ (w_der_formed _ _ hy) ?_
 refine go_ ?_
 refine ch_n fun hU => ?_
 refine cg_ rfl hg (fun h3 hg => ?_) fun h3 hg => ?_
 ·refine awp_seq ?_
  refine awp_region (sys _ _ []) 48 64 hU rfl rfl ?_
  refine go_ ?_
  refine ch_n fun hU => ?_
  refine aw_r ?_
  obtain rfl := Option.some.inj hg
  exact fin_ [] ⟨rfl, rfl⟩
 ·refine awp_skip ?_
  repeat first | refine st_ ?_ | refine sn_ ?_
  refine awp_seq ?_
  refine sr_ 48 72 hU ?_
  refine go_ ?_
  obtain ⟨y_2, hy_2, hg⟩ := bind_some hg
  refine ca_ (w_der_depth _ _ hy_2) ?_
  refine go_ ?_
  refine ch_n fun hU => ?_
  refine cg_ rfl hg (fun h6 hg => ?_) fun h6 hg => ?_
  ·refine awp_seq ?_
   refine awp_region (sys _ _ []) 72 88 hU rfl rfl ?_
   refine go_ ?_
   refine ch_n fun hU => ?_
   refine aw_r ?_
   obtain rfl := Option.some.inj hg
   exact fin_ [] ⟨rfl, rfl⟩
  ·refine awp_skip ?_
   repeat first | refine st_ ?_ | refine sn_ ?_
   refine sr_ 72 96 hU ?_
   refine go_ ?_
   obtain ⟨y_3, hy_3, hg⟩ := bind_some hg
   refine ch_call (rd := []) (ps := []) (gs := []) false rfl (w_der_element_nil_own _ _ hy_3) rfl rfl (.cons .val (.cons (.agg (.cons .val (.cons .sl (.cons .val (.cons .sl .nil))))) .nil)) rfl rfl (by intro h; cases h) rfl (by intro h; first | (cases h; done) | exact ⟨_, _, ⟨rfl, rfl⟩, by simp, by simp⟩) ?_
   rintro _ _ ⟨rfl, rfl⟩
   refine go_ ?_
   refine ch_n fun hU => ?_
   refine awp_seq ?_
   refine sr_ 96 120 hU ?_
   refine go_ ?_
   refine ch_n fun hU => ?_
   refine cg_ rfl hg (fun h10 hg => ?_) fun h10 hg => ?_
   ·refine awp_seq ?_
    refine awp_region (sys _ _ []) 120 136 hU rfl rfl ?_
    refine go_ ?_
    refine ch_n fun hU => ?_
    refine aw_r ?_
    obtain rfl := Option.some.inj hg
    exact fin_ [] ⟨rfl, rfl⟩
   ·refine awp_skip ?_
    repeat first | refine st_ ?_ | refine sn_ ?_
    refine sr_ 120 144 hU ?_
    refine go_ ?_
    refine ch_n fun hU => ?_
    refine aw_r ?_
    obtain rfl := Option.some.inj hg
    exact fin_ [] ⟨rfl, rfl⟩
theorem w_certificate_Bytes (c : api_Certificate) (r : (List UInt8) × Int) (hg : g_certificate_Bytes c = some r) : Fn Try.prog 50 0 [.agg (api_Certificate.dv c)] [] (fun d b => d = .tup [.sl 1 (encL e8 r.1), .val (.int .i64 r.2)] ∧ b = []) := by
 unfold g_certificate_Bytes at hg
 refine Fn.of Try.func50 rfl rfl rfl fun w0 I ρ0 => ?_
 show awp _ ⟨w0, I, ρ0, 0, 0, 12⟩ _ _ _
 refine sr_ 0 24 mk_U ?_
 refine go_ ?_
 refine ch_n fun hU => ?_
 refine awp_seq ?_
 refine sr_ 24 48 hU ?_
 refine go_ ?_
 obtain ⟨y, hy, hg⟩ := bind_some hg
 refine ca_ (w_certificate_valid _ _ hy) ?_
 refine go_ ?_
 refine ch_n fun hU => ?_
 refine cg_ rfl hg (fun h3 hg => ?_) fun h3 hg => ?_
 ·refine awp_seq ?_
  refine awp_region (sys _ _ []) 48 64 hU rfl rfl ?_
  refine go_ ?_
  refine ch_n fun hU => ?_
  refine aw_r ?_
  obtain rfl := Option.some.inj hg
  exact fin_ [] ⟨rfl, rfl⟩
 ·refine awp_skip ?_
  repeat first | refine st_ ?_ | refine sn_ ?_
  refine sr_ 48 104 hU ?_
  refine go_ ?_
  obtain ⟨y_2, hy_2, hg⟩ := bind_some hg
  refine ca_ (w_certificate_body _ _ hy_2) ?_
  obtain ⟨y_3, hy_3, hg⟩ := bind_some hg
  refine ca_ (w_der_Encode _ _ hy_3) ?_
  refine go_ ?_
  refine ch_n fun hU => ?_
  refine aw_r ?_
  obtain rfl := Option.some.inj hg
  exact fin_ [] ⟨rfl, rfl⟩
theorem w_certificate_Sum (b : (List UInt8)) (r : Int) (hg : g_certificate_Sum b = some r) : Fn Try.prog 51 0 [.sl 1 (encL e8 b)] [] (fun d b => d = .val (.int .i64 r) ∧ b = []) := by
 unfold g_certificate_Sum at hg
 refine Fn.of Try.func51 rfl rfl rfl fun w0 I ρ0 => ?_
 show awp _ ⟨w0, I, ρ0, 0, 0, 20⟩ _ _ _
 refine sr_ 0 8 mk_U ?_
 refine go_ ?_
 refine ch_n fun hU => ?_
 refine sr_ 8 16 hU ?_
 refine go_ ?_
 refine ch_n fun hU => ?_
 refine awp_seq ?_
 refine sr_ 16 40 hU ?_
 refine go_ ?_
 refine ch_n fun hU => ?_
 refine awp_block ?_
 refine lp_ (fun ((s_1, x8_1) : Int × Int) => mk [(3, .val (.int .u32 s_1)), (6, .sl 1 (encL e8 b)), (7, .val (.int .i64 (b.length : Int))), (8, .val (.int .i64 x8_1))] [] 0) hg (sub_ []) ?_
 rintro ⟨s_1, x8_1⟩ m1 o1 hg hn1
 replace hg : g_certificate_Sum.l1 b s_1 x8_1 = some o1 := hg
 show awp _ _ _ _ (mk _ _ _)
 unfold g_certificate_Sum.l1 at hg
 refine sr_ 0 8 mk_U ?_
 refine go_ ?_
 refine ch_n fun hU => ?_
 refine awp_seq ?_
 refine cg_ rfl hg (fun h5 hg => ?_) fun h5 hg => ?_
 ·refine awp_skip ?_
  repeat first | refine st_ ?_ | refine sn_ ?_
  refine awp_seq ?_
  refine awp_block ?_
  refine sr_ 8 32 hU ?_
  obtain ⟨e, he, hg⟩ := bind_some hg
  refine go_ ?_
  refine c0_ rfl rfl (r_loadE1 ty5 (enc_cell e8_len (getI_at he) (o := 0) (c := .int .u8 (e.toNat : Int)) rfl rfl)) rfl rfl ?_
  refine go_ ?_
  refine ch_n fun hU => ?_
  refine awp_region (sys _ _ []) 32 80 hU rfl rfl ?_
  refine go_ ?_
  refine c0_ rfl rfl (r_convK und5 und89) rfl rfl ?_
  refine c0_ rfl rfl r_xorK rfl rfl ?_
  refine c0_ rfl rfl r_mulK rfl rfl ?_
  refine go_ ?_
  refine ch_n fun hU => ?_
  refine awp_region (sys _ _ []) 80 96 hU rfl rfl ?_
  refine go_ ?_
  refine ch_n fun hU => ?_
  obtain rfl := Option.some.inj hg
  exact ⟨((IntKind.wrap .u32 ((xorK .u32 s_1 (IntKind.wrap .u32 (e.toNat : Int))) * 16777619), W (x8_1 + 1)), m1), Nat.lt_succ_self _, hn1, sub_ []⟩
 ·refine awp_exit ?_
  repeat first | refine st_ ?_ | refine sn_ ?_
  replace hg := leave hg hn1
  refine sr_ 8 32 hU ?_
  refine go_ ?_
  refine c0_ rfl rfl (r_conv_i64 und89 und3) rfl rfl ?_
  refine go_ ?_
  refine ch_n fun hU => ?_
  refine aw_r ?_
  obtain rfl := Option.some.inj hg
  exact fin_ [] ⟨rfl, rfl⟩
theorem w_certificate_Sealed (c : api_Certificate) (key : Int) (r : Bool) (hg : g_certificate_Sealed c key = some r) : Fn Try.prog 37 0 [.agg (api_Certificate.dv c), .val (.int .i64 key)] [] (fun d b => d = .val (.bool r) ∧ b = []) := by
 unfold g_certificate_Sealed at hg
 refine Fn.of Try.func37 rfl rfl rfl fun w0 I ρ0 => ?_
 show awp _ ⟨w0, I, ρ0, 0, 0, 23⟩ _ _ _
 refine sr_ 0 16 mk_U ?_
 refine go_ ?_
 refine ch_n fun hU => ?_
 refine sr_ 16 72 hU ?_
 refine go_ ?_
 obtain ⟨y, hy, hg⟩ := bind_some hg
 refine ca_ (w_certificate_Bytes _ _ hy) ?_
 refine go_ ?_
 refine ch_n fun hU => ?_
 refine awp_seq ?_
 refine awp_draw (sys _ _ []) (by kernel_rfl) [0, 1, 3, 7, 15, 7, 7, 71, 231, 511, 1023, 2047] 72 168 hU rfl rfl (by kernel_rfl) ?_
 refine go_ ?_
 rcases bc_ hg with ⟨h3, hg⟩ | ⟨h3, hg⟩
 ·refine go_ ?_
  obtain ⟨y_2, hy_2, hg⟩ := bind_some hg
  refine ca_ (w_certificate_Sum _ _ hy_2) ?_
  refine c0_ (gdv_t rfl rfl h3) rfl (.build (r := [.val (.int .i64 key), .val (.int .i64 y_2)]) und38 pl38 z38 (by kernel_rfl) rfl) rfl rfl ?_
  refine c0_ (gdv_t rfl rfl h3) rfl (steq38_eql c.Seal (api_Seal.mk key y_2)) rfl rfl ?_
  refine go_ ?_
  refine ch_n fun hU => ?_
  refine aw_r ?_
  obtain rfl := Option.some.inj hg
  exact fin_ [] ⟨rfl, rfl⟩
 ·refine go_ ?_
  refine ch_n fun hU => ?_
  refine aw_r ?_
  obtain rfl := Option.some.inj hg
  exact fin_ [] ⟨rfl, rfl⟩
theorem w_chain_fails (l : (List api_Certificate)) (e : Int) (r : Bool) (hg : g_chain_fails l e = some r) : Fn Try.prog 28 0 [.sl 15 (encL api_Certificate.enc l), .val (.int .i64 e)] [] (fun d b => d = .val (.bool r) ∧ b = []) := by
 unfold g_chain_fails at hg
 refine Fn.of Try.func28 rfl rfl rfl fun w0 I ρ0 => ?_
 show awp _ ⟨w0, I, ρ0, 0, 0, 51⟩ _ _ _
 refine sr_ 0 8 mk_U ?_
 refine go_ ?_
 refine ch_n fun hU => ?_
 refine awp_seq ?_
 refine sr_ 8 32 hU ?_
 refine go_ ?_
 refine ch_n fun hU => ?_
 refine awp_block ?_
 refine lp_ (fun (x9_1 : Int) => mk [(0, .sl 15 (encL api_Certificate.enc l)), (1, .val (.int .i64 e)), (8, .val (.int .i64 (l.length : Int))), (9, .val (.int .i64 x9_1))] [] 0) hg (sub_ []) ?_
 rintro x9_1 m1 o1 hg hn1
 replace hg : g_chain_fails.l1 l e x9_1 = some o1 := hg
 show awp _ _ _ _ (mk _ _ _)
 unfold g_chain_fails.l1 at hg
 refine sr_ 0 8 mk_U ?_
 refine go_ ?_
 refine ch_n fun hU => ?_
 refine awp_seq ?_
 refine cg_ rfl hg (fun h4 hg => ?_) fun h4 hg => ?_
 ·refine awp_skip ?_
  repeat first | refine st_ ?_ | refine sn_ ?_
  refine awp_seq ?_
  refine awp_block ?_
  refine sr_ 8 24 hU ?_
  refine go_ ?_
  refine ch_n fun hU => ?_
  refine sr_ 24 32 hU ?_
  refine go_ ?_
  refine ch_n fun hU => ?_
  refine awp_cut (ι := Bool) (fun (wrong_2 : Bool) => mk [(0, .sl 15 (encL api_Certificate.enc l)), (1, .val (.int .i64 e)), (6, .val (.bool wrong_2)), (8, .val (.int .i64 (l.length : Int))), (9, .val (.int .i64 x9_1))] [] 0) (fun (wrong_2 : Bool) => g_chain_fails.j2 x9_1 wrong_2 = some o1) ?_ ?_
  ·refine awp_seq ?_
   refine awp_region (sys _ _ []) 32 40 hU rfl rfl ?_
   refine go_ ?_
   refine ch_n fun hU => ?_
   refine awp_block ?_
   refine sr_ 40 56 hU ?_
   refine go_ ?_
   refine ch_n fun hU => ?_
   refine cg_ rfl hg (fun h9 hg => ?_) fun h9 hg => ?_
   ·refine awp_draw (sys _ _ []) (by kernel_rfl) [0, 1, 0, 4, 15, 31, 63, 63, 255, 511, 1023, 63, 63, 4159, 14399, 30783, 63551, 131071, 262143, 524287] 56 216 hU rfl rfl (by kernel_rfl) ?_
    refine go_ ?_
    rcases bc_ hg with ⟨h10, hg⟩ | ⟨h10, hg⟩
    ·refine go_ ?_
     obtain ⟨e_2, he_2, hg⟩ := bind_some hg
     refine go_ ?_
     refine c0_ (gdv_t rfl rfl h10) rfl (r_fieldE fd40_1 ty9 (by decide) (enc_lt api_Certificate.enc_len (getI_at he_2) (o := 1) (by decide) rfl)) rfl rfl ?_
     refine c0_ (gdv_t rfl rfl h10) rfl (r_loadE1 ty9 (enc_cell api_Certificate.enc_len (getI_at he_2) (o := 1) (c := .str e_2.Issuer) rfl rfl)) rfl rfl ?_
     refine go_ ?_
     obtain ⟨e_3, he_3, hg⟩ := bind_some hg
     refine go_ ?_
     refine c0_ (gdv_t rfl rfl h10) rfl (r_fieldE fd40_2 ty9 (by decide) (enc_lt api_Certificate.enc_len (getI_at he_3) (o := 2) (by decide) rfl)) rfl rfl ?_
     refine c0_ (gdv_t rfl rfl h10) rfl (r_loadE1 ty9 (enc_cell api_Certificate.enc_len (getI_at he_3) (o := 2) (c := .str e_3.Subject) rfl rfl)) rfl rfl ?_
     refine go_ ?_
     refine ch_n fun hU => ?_
     exact ⟨!decide (e_2.Issuer = e_3.Subject), hg, sub_ []⟩
    ·refine go_ ?_
     refine ch_n fun hU => ?_
     exact ⟨false, hg, sub_ []⟩
   ·refine awp_seq ?_
    refine awp_region (sys _ _ []) 56 72 hU rfl rfl ?_
    refine go_ ?_
    refine ch_n fun hU => ?_
    refine cg_ rfl hg (fun h14 hg => ?_) fun h14 hg => ?_
    ·refine awp_region (sys _ _ []) 72 112 hU rfl rfl ?_
     refine go_ ?_
     obtain ⟨y, hy, hg⟩ := bind_some hg
     refine ca_ (w_chain_Path _ _ _ hy) ?_
     refine go_ ?_
     refine ch_n fun hU => ?_
     exact ⟨!y, hg, sub_ []⟩
    ·refine awp_draw (sys _ _ []) (by kernel_rfl) [0, 0, 3, 7, 0, 0, 48, 127, 255, 511] 72 152 hU rfl rfl (by kernel_rfl) ?_
     refine go_ ?_
     obtain ⟨e_4, he_4, hg⟩ := bind_some hg
     refine go_ ?_
     refine c0_ rfl rfl (r_loadEA ty40 (enc_cells api_Certificate.enc_len (getI_at he_4) (o := 0) (m := 15) (cs := [.int .i64 e_4.Serial, .str e_4.Issuer, .str e_4.Subject, .int .i64 e_4.Key.Alg, .int .i64 e_4.Key.Bits, .int .i64 e_4.KeyId, .int .i64 e_4.Hash.Alg, .int .i64 e_4.Hash.Bits, .int .i64 e_4.From, .int .i64 e_4.To, .bool e_4.Authority, .int .i64 e_4.Path, .sl 1 (encL eS e_4.Names), .int .i64 e_4.Seal.Key, .int .i64 e_4.Seal.Sum]) rfl (by decide) rfl) (enc_cells_le api_Certificate.enc_len (getI_at he_4) (o := 0) (m := 15) (by decide) rfl)) rfl rfl ?_
     refine go_ ?_
     obtain ⟨y_2, hy_2, hg⟩ := bind_some hg
     refine ca_ (w_chain_sealer _ _ _ hy_2) ?_
     obtain ⟨y_3, hy_3, hg⟩ := bind_some hg
     refine ca_ (w_certificate_Sealed _ _ _ hy_3) ?_
     refine go_ ?_
     refine ch_n fun hU => ?_
     exact ⟨!y_3, hg, sub_ []⟩
  ·rintro wrong_2 hg
   replace hg : g_chain_fails.j2 x9_1 wrong_2 = some o1 := hg
   show awp _ _ _ _ (mk _ _ _)
   unfold g_chain_fails.j2 at hg
   refine sr_ 0 8 mk_U ?_
   refine go_ ?_
   refine ch_n fun hU => ?_
   refine cg_ rfl hg (fun h18 hg => ?_) fun h18 hg => ?_
   ·refine awp_seq ?_
    refine awp_region (sys _ _ []) 8 16 hU rfl rfl ?_
    refine go_ ?_
    refine ch_n fun hU => ?_
    refine aw_r ?_
    replace hg := leave hg hn1
    obtain rfl := Option.some.inj hg
    exact fin_ [] ⟨rfl, rfl⟩
   ·refine awp_skip ?_
    repeat first | refine st_ ?_ | refine sn_ ?_
    refine awp_region (sys _ _ []) 8 24 hU rfl rfl ?_
    refine go_ ?_
    refine ch_n fun hU => ?_
    obtain rfl := Option.some.inj hg
    exact ⟨(W (x9_1 + 1), m1), Nat.lt_succ_self _, hn1, sub_ []⟩
 ·refine awp_exit ?_
  repeat first | refine st_ ?_ | refine sn_ ?_
  replace hg := leave hg hn1
  refine sr_ 8 16 hU ?_
  refine go_ ?_
  refine ch_n fun hU => ?_
  refine aw_r ?_
  obtain rfl := Option.some.inj hg
  exact fin_ [] ⟨rfl, rfl⟩
theorem w_chain_Check (l : (List api_Certificate)) (anchors : (List Int)) (hashes : (List Int)) (day : Int) (name : ByteArray) (r : Int) (hg : g_chain_Check l anchors hashes day name = some r) : Fn Try.prog 12 0 [.sl 15 (encL api_Certificate.enc l), .sl 1 (encL eI anchors), .sl 1 (encL eI hashes), .val (.int .i64 day), .val (.string name)] [] (fun d b => d = .val (.int .i64 r) ∧ b = []) := by
 unfold g_chain_Check at hg
 refine Fn.of Try.func12 rfl rfl rfl fun w0 I ρ0 => ?_
 show awp _ ⟨w0, I, ρ0, 0, 0, 63⟩ _ _ _
 refine sr_ 0 24 mk_U ?_
 refine go_ ?_
 refine ch_n fun hU => ?_
 refine awp_seq ?_
 refine awp_block ?_
 refine sr_ 24 56 hU ?_
 refine go_ ?_
 refine ch_n fun hU => ?_
 refine cg_ rfl hg (fun h3 hg => ?_) fun h3 hg => ?_
 ·refine awp_seq ?_
  refine awp_region (sys _ _ []) 56 64 hU rfl rfl ?_
  refine go_ ?_
  refine ch_n fun hU => ?_
  refine aw_r ?_
  obtain rfl := Option.some.inj hg
  exact fin_ [] ⟨rfl, rfl⟩
 ·refine awp_seq ?_
  refine awp_region (sys _ _ []) 56 88 hU rfl rfl ?_
  refine go_ ?_
  refine ch_n fun hU => ?_
  refine cg_ rfl hg (fun h6 hg => ?_) fun h6 hg => ?_
  ·refine awp_seq ?_
   refine awp_region (sys _ _ []) 88 96 hU rfl rfl ?_
   refine go_ ?_
   refine ch_n fun hU => ?_
   refine aw_r ?_
   obtain rfl := Option.some.inj hg
   exact fin_ [] ⟨rfl, rfl⟩
  ·refine awp_seq ?_
   refine awp_region (sys _ _ []) 88 112 hU rfl rfl ?_
   refine go_ ?_
   obtain ⟨y, hy, hg⟩ := bind_some hg
   refine ca_ (w_slices_ContainsFunc_api_Certificate_clo_23_0_ l (fun x0 => g_chain_Check_c1 x0) (fun x0 y h => w_chain_Check_c1 x0 y h) _ hy) ?_
   refine go_ ?_
   refine ch_n fun hU => ?_
   refine cg_ rfl hg (fun h9 hg => ?_) fun h9 hg => ?_
   ·refine awp_seq ?_
    refine awp_region (sys _ _ []) 112 120 hU rfl rfl ?_
    refine go_ ?_
    refine ch_n fun hU => ?_
    refine aw_r ?_
    obtain rfl := Option.some.inj hg
    exact fin_ [] ⟨rfl, rfl⟩
   ·refine awp_seq ?_
    refine awp_region (sys _ _ []) 112 176 hU rfl rfl ?_
    refine go_ ?_
    obtain ⟨e, he, hg⟩ := bind_some hg
    refine go_ ?_
    refine c0_ rfl rfl (r_fieldE fd40_10 ty36 (by decide) (enc_lt api_Certificate.enc_len (getI_at he) (o := 12) (by decide) rfl)) rfl rfl ?_
    refine c0_ rfl rfl (r_loadE1 ty36 (enc_cell api_Certificate.enc_len (getI_at he) (o := 12) (c := .sl 1 (encL eS e.Names)) rfl rfl)) rfl rfl ?_
    refine go_ ?_
    obtain ⟨y_2, hy_2, hg⟩ := bind_some hg
    refine ca_ (w_slices_Contains_string _ _ _ hy_2) ?_
    refine go_ ?_
    refine ch_n fun hU => ?_
    refine cg_ rfl hg (fun h12 hg => ?_) fun h12 hg => ?_
    ·refine awp_seq ?_
     refine awp_region (sys _ _ []) 176 184 hU rfl rfl ?_
     refine go_ ?_
     refine ch_n fun hU => ?_
     refine aw_r ?_
     obtain rfl := Option.some.inj hg
     exact fin_ [] ⟨rfl, rfl⟩
    ·refine awp_skip ?_
     repeat first | refine st_ ?_ | refine sn_ ?_
     refine awp_seq ?_
     refine sr_ 176 192 hU ?_
     refine c0_ rfl rfl (.buildArr (sz := 1) (r := [.val (.int .i64 13), .val (.int .i64 7)]) und63 (by kernel_rfl) z63 (by kernel_rfl) rfl) rfl rfl ?_
     refine go_ ?_
     refine ch_n fun hU => ?_
     refine awp_block ?_
     refine lp_ (fun (x35_1 : Int) => mk [(0, .sl 15 (encL api_Certificate.enc l)), (1, .sl 1 (encL eI anchors)), (7, .elt (([.sl 1 (encL eI hashes)] : List C).drop 0)), (8, .elt (([.int .i64 day] : List C).drop 0)), (34, .agg [.val (.int .i64 13), .val (.int .i64 7)]), (35, .val (.int .i64 x35_1))] [] 0) hg (Sub.lists [] rfl rfl ⟨⟨_, rfl, .sl _ _⟩, ⟨_, rfl, .sl _ _⟩, ⟨_, rfl, .frzb (ks := [some 1]) rfl (.cons .sl .nil) (look_ne rfl)⟩, ⟨_, rfl, .frzb (ks := [none]) rfl (.cons .int .nil) (look_ne rfl)⟩, ⟨_, rfl, .agg (.cons (.val _) (.cons (.val _) .nil))⟩, ⟨_, rfl, .val _⟩, trivial⟩ trivial) ?_
     rintro x35_1 m1 o1 hg hn1
     replace hg : g_chain_Check.l1 l anchors hashes day x35_1 = some o1 := hg
     show awp _ _ _ _ (mk _ _ _)
     unfold g_chain_Check.l1 at hg
     refine sr_ 0 8 mk_U ?_
     refine go_ ?_
     refine ch_n fun hU => ?_
     refine awp_seq ?_
     refine cg_ rfl hg (fun h16 hg => ?_) fun h16 hg => ?_
     ·refine awp_skip ?_
      repeat first | refine st_ ?_ | refine sn_ ?_
      refine awp_seq ?_
      refine awp_block ?_
      refine sr_ 8 32 hU ?_
      obtain ⟨e_2, he_2, hg⟩ := bind_some hg
      refine c0_ rfl rfl (.indexA und63 ty33 (getI_ix he_2) rfl (arr_int (getI_at he_2))) rfl rfl ?_
      refine go_ ?_
      refine ch_n fun hU => ?_
      refine awp_seq ?_
      refine awp_sub (σ' := mk [(0, .sl 15 (encL api_Certificate.enc l)), (1, .sl 1 (encL eI anchors)), (7, .elt (([.sl 1 (encL eI hashes)] : List C).drop 0)), (8, .elt (([.int .i64 day] : List C).drop 0)), (12, .elt (([.int .i64 e_2] : List C).drop 0)), (34, .agg [.val (.int .i64 13), .val (.int .i64 7)]), (35, .val (.int .i64 x35_1))] [] 0) (Sub.lists [] rfl rfl ⟨⟨_, rfl, .sl _ _⟩, ⟨_, rfl, .sl _ _⟩, ⟨_, rfl, .elt _⟩, ⟨_, rfl, .elt _⟩, ⟨_, rfl, .frzb (ks := [none]) rfl (.cons .int .nil) (look_ne rfl)⟩, ⟨_, rfl, .agg (.cons (.val _) (.cons (.val _) .nil))⟩, ⟨_, rfl, .val _⟩, trivial⟩ trivial) ?_
      refine awp_region (sys _ _ []) 0 24 mk_U rfl rfl ?_
      refine go_ ?_
      obtain ⟨y_3, hy_3, hg⟩ := bind_some hg
      refine ca_ (w_slices_ContainsFunc_api_Certificate_clo_26_0_ref_22_ref_3_ref_33 l (fun x0 => g_chain_Check_c2 x0 hashes day e_2) hashes day e_2 (fun x0 y h => w_chain_Check_c2 x0 hashes day e_2 y h) _ hy_3) ?_
      refine ch_n fun hU => ?_
      refine cg_ rfl hg (fun h19 hg => ?_) fun h19 hg => ?_
      ·refine awp_seq ?_
       refine awp_region (sys _ _ []) 24 40 hU rfl rfl ?_
       refine c0_ rfl rfl (r_loadE1 ty33 (c := .int .i64 e_2) rfl) rfl rfl ?_
       refine go_ ?_
       refine ch_n fun hU => ?_
       refine aw_r ?_
       replace hg := leave hg hn1
       obtain rfl := Option.some.inj hg
       exact fin_ [] ⟨rfl, rfl⟩
      ·refine awp_skip ?_
       repeat first | refine st_ ?_ | refine sn_ ?_
       refine awp_region (sys _ _ []) 24 40 hU rfl rfl ?_
       refine go_ ?_
       refine ch_n fun hU => ?_
       obtain rfl := Option.some.inj hg
       exact ⟨(W (x35_1 + 1), m1), Nat.lt_succ_self _, hn1, sub_ []⟩
     ·refine awp_exit ?_
      repeat first | refine st_ ?_ | refine sn_ ?_
      replace hg := leave hg hn1
      refine awp_seq ?_
      refine sr_ 8 24 hU ?_
      refine c0_ rfl rfl (.buildArr (sz := 1) (r := [.val (.int .i64 11), .val (.int .i64 15), .val (.int .i64 10)]) und65 (by kernel_rfl) z65 (by kernel_rfl) rfl) rfl rfl ?_
      refine go_ ?_
      refine ch_n fun hU => ?_
      refine awp_block ?_
      refine lp_ (fun (x44_3 : Int) => mk [(0, .sl 15 (encL api_Certificate.enc l)), (1, .sl 1 (encL eI anchors)), (43, .agg [.val (.int .i64 11), .val (.int .i64 15), .val (.int .i64 10)]), (44, .val (.int .i64 x44_3))] [] 0) hg (sub_ []) ?_
      rintro x44_3 m3 o3 hg hn3
      replace hg : g_chain_Check.l3 l anchors x44_3 = some o3 := hg
      show awp _ _ _ _ (mk _ _ _)
      unfold g_chain_Check.l3 at hg
      refine sr_ 0 8 mk_U ?_
      refine go_ ?_
      refine ch_n fun hU => ?_
      refine awp_seq ?_
      refine cg_ rfl hg (fun h24 hg => ?_) fun h24 hg => ?_
      ·refine awp_skip ?_
       repeat first | refine st_ ?_ | refine sn_ ?_
       refine awp_seq ?_
       refine awp_block ?_
       refine sr_ 8 24 hU ?_
       obtain ⟨e_3, he_3, hg⟩ := bind_some hg
       refine c0_ rfl rfl (.indexA und65 ty33 (getI_ix he_3) rfl (arr_int (getI_at he_3))) rfl rfl ?_
       refine go_ ?_
       refine ch_n fun hU => ?_
       refine sr_ 24 48 hU ?_
       refine go_ ?_
       obtain ⟨y_4, hy_4, hg⟩ := bind_some hg
       refine ca_ (w_chain_fails _ _ _ hy_4) ?_
       refine ch_n fun hU => ?_
       refine cg_ rfl hg (fun h27 hg => ?_) fun h27 hg => ?_
       ·refine awp_seq ?_
        refine awp_region (sys _ _ []) 48 64 hU rfl rfl ?_
        refine go_ ?_
        refine ch_n fun hU => ?_
        refine aw_r ?_
        replace hg := leave hg hn3
        obtain rfl := Option.some.inj hg
        exact fin_ [] ⟨rfl, rfl⟩
       ·refine awp_skip ?_
        repeat first | refine st_ ?_ | refine sn_ ?_
        refine awp_region (sys _ _ []) 48 64 hU rfl rfl ?_
        refine go_ ?_
        refine ch_n fun hU => ?_
        obtain rfl := Option.some.inj hg
        exact ⟨(W (x44_3 + 1), m3), Nat.lt_succ_self _, hn3, sub_ []⟩
      ·refine awp_exit ?_
       repeat first | refine st_ ?_ | refine sn_ ?_
       replace hg := leave hg hn3
       refine awp_seq ?_
       refine sr_ 8 96 hU ?_
       refine go_ ?_
       obtain ⟨e_4, he_4, hg⟩ := bind_some hg
       refine go_ ?_
       refine c0_ rfl rfl (r_fieldE fd40_11 ty38 (by decide) (enc_lt api_Certificate.enc_len (getI_at he_4) (o := 13) (by decide) rfl)) rfl rfl ?_
       refine c0_ rfl rfl (r_fieldE fd38_0 ty3 (by decide) (enc_lt api_Certificate.enc_len (getI_at he_4) (o := 13) (by decide) rfl)) rfl rfl ?_
       refine c0_ rfl rfl (r_loadE1 ty3 (enc_cell api_Certificate.enc_len (getI_at he_4) (o := 13) (c := .int .i64 e_4.Seal.Key) rfl rfl)) rfl rfl ?_
       obtain ⟨y_5, hy_5, hg⟩ := bind_some hg
       refine ca_ (w_slices_Contains_int _ _ _ hy_5) ?_
       refine go_ ?_
       refine ch_n fun hU => ?_
       refine cg_ rfl hg (fun h31 hg => ?_) fun h31 hg => ?_
       ·refine awp_seq ?_
        refine awp_region (sys _ _ []) 96 104 hU rfl rfl ?_
        refine go_ ?_
        refine ch_n fun hU => ?_
        refine aw_r ?_
        obtain rfl := Option.some.inj hg
        exact fin_ [] ⟨rfl, rfl⟩
       ·refine awp_skip ?_
        repeat first | refine st_ ?_ | refine sn_ ?_
        refine sr_ 96 104 hU ?_
        refine go_ ?_
        refine ch_n fun hU => ?_
        refine aw_r ?_
        obtain rfl := Option.some.inj hg
        exact fin_ [] ⟨rfl, rfl⟩
end Go.Proofs.Ytggimglopfdhiaa
