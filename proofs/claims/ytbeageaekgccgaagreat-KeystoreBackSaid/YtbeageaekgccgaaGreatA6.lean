/- The program computes the plain functions. -/
import Derived.Test.YtbeageaekgccgaaGreatT1
import Derived.Test.YtbeageaekgccgaaGreatA2
import Derived.Test.YtbeageaekgccgaaGreatA5
set_option linter.unusedVariables false
set_option linter.unusedSimpArgs false
set_option maxRecDepth 100000
set_option maxHeartbeats 1600000
namespace Go.Proofs.YtbeageaekgccgaaGreat
open Go.RowKit
theorem w_der_element_own (rec : api_Value → Option ((List UInt8))) (hrec : ∀ (v : api_Value) (r : (List UInt8)), rec v = some r → Fn Tryz.prog 121 0 [.agg (api_Value.dv v)] [] (fun d' b' => d' = .sl 1 (encL e8 r) ∧ b' = [])) (b : List UInt8) (v : api_Value) (r : (List UInt8)) (hg : g_der_element rec b v = some r) : Fn Tryz.prog 79 0 [.row 0, .agg (api_Value.dv v)] [.row 5 1 (encL e8 b)] (fun d' b' => d' = .row 0 ∧ b' = [.row 5 1 (encL e8 r)]) := by
 unfold g_der_element at hg
 refine Fn.of Tryz.func79 rfl rfl rfl fun w0 I ρ0 => ?_
 show awp _ ⟨w0, I, ρ0, 0, 1, 19⟩ _ _ _
 refine sr_ 1 17 mk_U ?_
 refine go_ ?_
 refine ch_n fun hU => ?_
 refine sr_ 17 41 hU ?_
 refine go_ ?_
 obtain ⟨y, hy, hg⟩ := bind_some hg
 refine ca_ (hrec _ _ hy) ?_
 refine go_ ?_
 refine ch_n fun hU => ?_
 refine sr_ 41 137 hU ?_
 refine go_ ?_
 refine c0_ rfl rfl (r_conv_u8 und3 und5) rfl rfl ?_
 refine c0_ rfl rfl (r_buildFull sl29 z5 (by decide) rfl rfl rfl rfl ck5 (cs := [.int .u8 ((u8 v.Tag).toNat : Int)]) (.cons .int .nil) rfl (l := ([(u8 v.Tag)] : List UInt8)) (f := e8) rfl) rfl rfl ?_
 obtain ⟨l, hl, hg⟩ := bind_some hg
 refine ch_s (rd := [0, 73]) rfl rfl (r_append sl29 e8_len .row rfl .row rfl hl rfl) rfl rfl ?_
 refine go_ ?_
 obtain ⟨y_2, hy_2, hg⟩ := bind_some hg
 refine ch_call (rd := [81]) (ps := []) (gs := [81]) false rfl (w_der_length_own _ _ _ hy_2) rfl rfl (.cons (.rowK rfl) (.cons .val .nil)) ⟨_, _, _, rfl, .head _, rfl, rfl⟩ rfl (by intro h; cases h) rfl (by intro h; first | (cases h; done) | exact ⟨_, _, ⟨rfl, rfl⟩, by simp, by simp⟩) ?_
 rintro _ _ ⟨rfl, rfl⟩
 refine go_ ?_
 obtain ⟨l_2, hl_2, hg⟩ := bind_some hg
 refine ch_s (rd := [105]) rfl rfl (r_append sl29 e8_len .row rfl .sl rfl hl_2 rfl) rfl rfl ?_
 refine go_ ?_
 refine ch_n fun hU => ?_
 refine aw_r ?_
 obtain rfl := Option.some.inj hg
 exact fin_ [(0, 121)] ⟨rfl, rfl⟩
theorem w_der_contents.F (rec : api_Value → Option ((List UInt8))) (hrec : ∀ (v : api_Value) (r : (List UInt8)), rec v = some r → Fn Tryz.prog 121 0 [.agg (api_Value.dv v)] [] (fun d' b' => d' = .sl 1 (encL e8 r) ∧ b' = [])) (v : api_Value) (r : (List UInt8)) (hg : g_der_contents.F rec v = some r) : Fn Tryz.prog 121 0 [.agg (api_Value.dv v)] [] (fun d' b' => d' = .sl 1 (encL e8 r) ∧ b' = []) := by
 unfold g_der_contents.F at hg
 refine Fn.of Tryz.func121 rfl rfl rfl fun w0 I ρ0 => ?_
 show awp _ ⟨w0, I, ρ0, 0, 0, 23⟩ _ _ _
 refine sr_ 0 16 mk_U ?_
 refine go_ ?_
 refine ch_n fun hU => ?_
 refine awp_seq ?_
 refine sr_ 16 40 hU ?_
 refine go_ ?_
 refine ch_n fun hU => ?_
 refine cg_ rfl hg (fun h3 hg => ?_) fun h3 hg => ?_
 ·refine awp_seq ?_
  refine awp_region (sys _ _ []) 40 64 hU rfl rfl ?_
  refine go_ ?_
  refine ch_n fun hU => ?_
  refine aw_r ?_
  obtain rfl := Option.some.inj hg
  exact fin_ [] ⟨rfl, rfl⟩
 ·refine awp_skip ?_
  repeat first | refine st_ ?_ | refine sn_ ?_
  refine sr_ 40 48 hU ?_
  refine go_ ?_
  refine ch_n fun hU => ?_
  refine awp_seq ?_
  refine sr_ 48 80 hU ?_
  refine go_ ?_
  refine ch_n fun hU => ?_
  refine awp_block ?_
  refine lp_ (fun ((x14_1, out_1) : Int × List UInt8) => mk [(3, .row 0), (12, .sl 4 (encL api_Value.enc v.Elements)), (13, .val (.int .i64 (v.Elements.length : Int))), (14, .val (.int .i64 x14_1))] [(0, .row 5 1 (encL e8 out_1))] 1) hg (sub_ []) ?_
  rintro ⟨x14_1, out_1⟩ m1 o1 hg hn1
  replace hg : g_der_contents.l1 rec v x14_1 out_1 = some o1 := hg
  show awp _ _ _ _ (mk _ _ _)
  unfold g_der_contents.l1 at hg
  refine sr_ 1 9 mk_U ?_
  refine go_ ?_
  refine ch_n fun hU => ?_
  refine awp_seq ?_
  refine cg_ rfl hg (fun h8 hg => ?_) fun h8 hg => ?_
  ·refine awp_skip ?_
   repeat first | refine st_ ?_ | refine sn_ ?_
   refine awp_seq ?_
   refine awp_block ?_
   refine sr_ 9 41 hU ?_
   obtain ⟨e, he, hg⟩ := bind_some hg
   refine go_ ?_
   refine c0_ rfl rfl (r_loadEA ty50 (enc_cells api_Value.enc_len (getI_at he) (o := 0) (m := 4) (cs := [.int .i64 e.Tag, .sl 1 (encL e8 e.Bytes), .bool e.Nested, .sl 4 (encL api_Value.enc e.Elements)]) (by simp only [api_Value.enc_eq]; rfl) (by decide) rfl) (enc_cells_le api_Value.enc_len (getI_at he) (o := 0) (m := 4) (by decide) rfl)) rfl rfl ?_
   refine go_ ?_
   refine ch_n fun hU => ?_
   refine awp_region (sys _ _ []) 41 73 hU rfl rfl ?_
   refine go_ ?_
   obtain ⟨y, hy, hg⟩ := bind_some hg
   refine ch_call (rd := [0]) (ps := []) (gs := [0]) false rfl (w_der_element_own rec hrec _ _ _ hy) rfl rfl (.cons (.rowK rfl) (.cons (.agg (.cons .val (.cons .sl (.cons .val (.cons .sl .nil))))) .nil)) ⟨_, _, _, rfl, .head _, rfl, rfl⟩ rfl (by intro h; cases h) rfl (by intro h; first | (cases h; done) | exact ⟨_, _, ⟨rfl, rfl⟩, by simp, by simp⟩) ?_
   rintro _ _ ⟨rfl, rfl⟩
   refine go_ ?_
   refine ch_n fun hU => ?_
   refine awp_region (sys _ _ []) 73 89 hU rfl rfl ?_
   refine go_ ?_
   refine ch_n fun hU => ?_
   obtain rfl := Option.some.inj hg
   exact ⟨((W (x14_1 + 1), y), m1), Nat.lt_succ_self _, hn1, sub_ [(0, 57)]⟩
  ·refine awp_exit ?_
   repeat first | refine st_ ?_ | refine sn_ ?_
   replace hg := leave hg hn1
   refine sr_ 9 25 hU ?_
   refine go_ ?_
   refine ch_n fun hU => ?_
   refine aw_r ?_
   obtain rfl := Option.some.inj hg
   exact fin_ [] ⟨rfl, rfl⟩
theorem w_der_contents (v : api_Value) (r : (List UInt8)) (hg : g_der_contents v = some r) : Fn Tryz.prog 121 0 [.agg (api_Value.dv v)] [] (fun d' b' => d' = .sl 1 (encL e8 r) ∧ b' = []) :=
 fixT_ind (motive := fun (x : api_Value) (r : (List UInt8)) => Fn Tryz.prog 121 0 [.agg (api_Value.dv x)] [] (fun d' b' => d' = .sl 1 (encL e8 r) ∧ b' = [])) (fun rec hrec x r h => w_der_contents.F _ (fun v r h => hrec v r h) x r h) v r hg
theorem w_der_element_nil_own (v : api_Value) (r : (List UInt8)) (hg : g_der_element_nil v = some r) : Fn Tryz.prog 79 0 [.val (.slice none 0 0), .agg (api_Value.dv v)] [] (fun d' b' => d' = .row 0 ∧ b' = [.row 5 1 (encL e8 r)]) := by
 unfold g_der_element_nil at hg
 refine Fn.of Tryz.func79 rfl rfl rfl fun w0 I ρ0 => ?_
 show awp _ ⟨w0, I, ρ0, 0, 0, 19⟩ _ _ _
 refine sr_ 0 16 mk_U ?_
 refine go_ ?_
 refine ch_n fun hU => ?_
 refine sr_ 16 40 hU ?_
 refine go_ ?_
 obtain ⟨y, hy, hg⟩ := bind_some hg
 refine ca_ (w_der_contents _ _ hy) ?_
 refine go_ ?_
 refine ch_n fun hU => ?_
 refine sr_ 40 136 hU ?_
 refine go_ ?_
 refine c0_ rfl rfl (r_conv_u8 und3 und5) rfl rfl ?_
 refine c0_ rfl rfl (r_buildFull sl29 z5 (by decide) rfl rfl rfl rfl ck5 (cs := [.int .u8 ((u8 v.Tag).toNat : Int)]) (.cons .int .nil) rfl (l := ([(u8 v.Tag)] : List UInt8)) (f := e8) rfl) rfl rfl ?_
 obtain ⟨l, hl, hg⟩ := bind_some hg
 refine ch_s (rd := [72]) rfl rfl (r_append sl29 e8_len .nil rfl .row rfl hl rfl) rfl rfl ?_
 refine go_ ?_
 obtain ⟨y_2, hy_2, hg⟩ := bind_some hg
 refine ch_call (rd := [80]) (ps := []) (gs := [80]) false rfl (w_der_length_own _ _ _ hy_2) rfl rfl (.cons (.rowK rfl) (.cons .val .nil)) ⟨_, _, _, rfl, .head _, rfl, rfl⟩ rfl (by intro h; cases h) rfl (by intro h; first | (cases h; done) | exact ⟨_, _, ⟨rfl, rfl⟩, by simp, by simp⟩) ?_
 rintro _ _ ⟨rfl, rfl⟩
 refine go_ ?_
 obtain ⟨l_2, hl_2, hg⟩ := bind_some hg
 refine ch_s (rd := [104]) rfl rfl (r_append sl29 e8_len .row rfl .sl rfl hl_2 rfl) rfl rfl ?_
 refine go_ ?_
 refine ch_n fun hU => ?_
 refine aw_r ?_
 obtain rfl := Option.some.inj hg
 exact fin_ [(0, 120)] ⟨rfl, rfl⟩
theorem w_der_Encode (v : api_Value) (r : (List UInt8) × Int) (hg : g_der_Encode v = some r) : Fn Tryz.prog 33 0 [.agg (api_Value.dv v)] [] (fun d' b' => d' = .tup [.sl 1 (encL e8 r.1), .val (.int .i64 r.2)] ∧ b' = []) := by
 unfold g_der_Encode at hg
 refine Fn.of Tryz.func33 rfl rfl rfl fun w0 I ρ0 => ?_
 show awp _ ⟨w0, I, ρ0, 0, 0, 17⟩ _ _ _
 refine sr_ 0 24 mk_U ?_
 refine go_ ?_
 refine ch_n fun hU => ?_
 refine awp_seq ?_
 refine sr_ 24 48 hU ?_
 refine go_ ?_
 obtain ⟨y, hy, hg⟩ := bind_some hg
 refine ca_ (w_der_formed _ _ hy) ?_
 refine go_ ?_
 refine ch_n fun hU => ?_
 refine cg_ rfl hg (fun h3 hg => ?_) fun h3 hg => ?_
 ·refine awp_seq ?_
  refine awp_region (sys _ _ []) 48 64 hU rfl rfl ?_
  refine go_ ?_
  refine ch_n fun hU => ?_
  refine aw_r ?_
  obtain rfl := Option.some.inj hg
  exact fin_ [] ⟨rfl, rfl⟩
 ·refine awp_skip ?_
  repeat first | refine st_ ?_ | refine sn_ ?_
  refine awp_seq ?_
  refine sr_ 48 72 hU ?_
  refine go_ ?_
  obtain ⟨y_2, hy_2, hg⟩ := bind_some hg
  refine ca_ (w_der_depth _ _ hy_2) ?_
  refine go_ ?_
  refine ch_n fun hU => ?_
  refine cg_ rfl hg (fun h6 hg => ?_) fun h6 hg => ?_
  ·refine awp_seq ?_
   refine awp_region (sys _ _ []) 72 88 hU rfl rfl ?_
   refine go_ ?_
   refine ch_n fun hU => ?_
   refine aw_r ?_
   obtain rfl := Option.some.inj hg
   exact fin_ [] ⟨rfl, rfl⟩
  ·refine awp_skip ?_
   repeat first | refine st_ ?_ | refine sn_ ?_
   refine sr_ 72 96 hU ?_
   refine go_ ?_
   obtain ⟨y_3, hy_3, hg⟩ := bind_some hg
   refine ch_call (rd := []) (ps := []) (gs := []) false rfl (w_der_element_nil_own _ _ hy_3) rfl rfl (.cons .val (.cons (.agg (.cons .val (.cons .sl (.cons .val (.cons .sl .nil))))) .nil)) rfl rfl (by intro h; cases h) rfl (by intro h; first | (cases h; done) | exact ⟨_, _, ⟨rfl, rfl⟩, by simp, by simp⟩) ?_
   rintro _ _ ⟨rfl, rfl⟩
   refine go_ ?_
   refine ch_n fun hU => ?_
   refine awp_seq ?_
   refine sr_ 96 120 hU ?_
   refine go_ ?_
   refine ch_n fun hU => ?_
   refine cg_ rfl hg (fun h10 hg => ?_) fun h10 hg => ?_
   ·refine awp_seq ?_
    refine awp_region (sys _ _ []) 120 136 hU rfl rfl ?_
    refine go_ ?_
    refine ch_n fun hU => ?_
    refine aw_r ?_
    obtain rfl := Option.some.inj hg
    exact fin_ [] ⟨rfl, rfl⟩
   ·refine awp_skip ?_
    repeat first | refine st_ ?_ | refine sn_ ?_
    refine sr_ 120 144 hU ?_
    refine go_ ?_
    refine ch_n fun hU => ?_
    refine aw_r ?_
    obtain rfl := Option.some.inj hg
    exact fin_ [] ⟨rfl, rfl⟩
theorem w_keystore_Encode (l : (List api_Entry)) (r : (List UInt8) × Int) (hg : g_keystore_Encode l = some r) : Fn Tryz.prog 10 0 [.sl 6 (encL api_Entry.enc l)] [] (fun d' b' => d' = .tup [.sl 1 (encL e8 r.1), .val (.int .i64 r.2)] ∧ b' = []) := by
 unfold g_keystore_Encode at hg
 refine Fn.of Tryz.func10 rfl rfl rfl fun w0 I ρ0 => ?_
 show awp _ ⟨w0, I, ρ0, 0, 0, 27⟩ _ _ _
 refine sr_ 0 16 mk_U ?_
 refine go_ ?_
 refine ch_n fun hU => ?_
 refine awp_seq ?_
 refine sr_ 16 40 hU ?_
 refine go_ ?_
 obtain ⟨y, hy, hg⟩ := bind_some hg
 refine ca_ (w_keystore_Check _ _ hy) ?_
 refine go_ ?_
 refine ch_n fun hU => ?_
 refine cg_ rfl hg (fun h3 hg => ?_) fun h3 hg => ?_
 ·refine awp_seq ?_
  refine awp_region (sys _ _ []) 40 56 hU rfl rfl ?_
  refine go_ ?_
  refine ch_n fun hU => ?_
  refine aw_r ?_
  obtain rfl := Option.some.inj hg
  exact fin_ [] ⟨rfl, rfl⟩
 ·refine awp_skip ?_
  repeat first | refine st_ ?_ | refine sn_ ?_
  refine sr_ 40 48 hU ?_
  refine go_ ?_
  refine ch_n fun hU => ?_
  refine awp_seq ?_
  refine sr_ 48 72 hU ?_
  refine go_ ?_
  refine ch_n fun hU => ?_
  refine awp_block ?_
  refine lp_ (fun ((x12_1, entries_1) : Int × List api_Value) => mk [(4, .row 0), (10, .sl 6 (encL api_Entry.enc l)), (11, .val (.int .i64 (l.length : Int))), (12, .val (.int .i64 x12_1))] [(0, .row 50 4 (encL api_Value.enc entries_1))] 1) hg (sub_ []) ?_
  rintro ⟨x12_1, entries_1⟩ m1 o1 hg hn1
  replace hg : g_keystore_Encode.l1 l x12_1 entries_1 = some o1 := hg
  show awp _ _ _ _ (mk _ _ _)
  unfold g_keystore_Encode.l1 at hg
  refine sr_ 1 9 mk_U ?_
  refine go_ ?_
  refine ch_n fun hU => ?_
  refine awp_seq ?_
  refine cg_ rfl hg (fun h8 hg => ?_) fun h8 hg => ?_
  ·refine awp_skip ?_
   repeat first | refine st_ ?_ | refine sn_ ?_
   refine awp_seq ?_
   refine awp_block ?_
   refine sr_ 9 41 hU ?_
   obtain ⟨e, he, hg⟩ := bind_some hg
   refine go_ ?_
   refine c0_ rfl rfl (r_loadEA ty40 (enc_cells api_Entry.enc_len (getI_at he) (o := 0) (m := 6) (cs := [.str e.Alias, .int .i64 e.Key.Alg, .int .i64 e.Key.Bits, .int .i64 e.KeyId, .bool e.Secret, .sl 15 (encL api_Certificate.enc e.Chain)]) rfl (by decide) rfl) (enc_cells_le api_Entry.enc_len (getI_at he) (o := 0) (m := 6) (by decide) rfl)) rfl rfl ?_
   refine go_ ?_
   refine ch_n fun hU => ?_
   refine awp_region (sys _ _ []) 41 89 hU rfl rfl ?_
   refine go_ ?_
   obtain ⟨y_2, hy_2, hg⟩ := bind_some hg
   refine ca_ (w_keystore_element _ _ hy_2) ?_
   refine c0_ rfl rfl (r_buildFull sl48 z50 (by decide) rfl rfl rfl rfl ck50 (cs := [.int .i64 y_2.Tag, .sl 1 (encL e8 y_2.Bytes), .bool y_2.Nested, .sl 4 (encL api_Value.enc y_2.Elements)]) (.cons .int (.cons .sl (.cons .bool (.cons .sl .nil)))) rfl (l := ([y_2] : List api_Value)) (f := api_Value.enc) (by simp only [encL, List.flatMap_cons, List.flatMap_nil, api_Value.enc_eq]; rfl)) rfl rfl ?_
   obtain ⟨l_2, hl_2, hg⟩ := bind_some hg
   refine ch_s (rd := [0, 65]) rfl rfl (r_append sl48 api_Value.enc_len .row rfl .row rfl hl_2 rfl) rfl rfl ?_
   refine go_ ?_
   refine ch_n fun hU => ?_
   refine awp_region (sys _ _ []) 89 105 hU rfl rfl ?_
   refine go_ ?_
   refine ch_n fun hU => ?_
   obtain rfl := Option.some.inj hg
   exact ⟨((W (x12_1 + 1), l_2), m1), Nat.lt_succ_self _, hn1, sub_ [(0, 73)]⟩
  ·refine awp_exit ?_
   repeat first | refine st_ ?_ | refine sn_ ?_
   replace hg := leave hg hn1
   refine awp_seq ?_
   refine awp_sub (σ' := mk [(4, .sl 4 (encL api_Value.enc entries_1))] [] 0) (sub_ []) ?_
   refine awp_region (sys _ _ []) 0 56 mk_U rfl rfl ?_
   refine go_ ?_
   obtain ⟨y_3, hy_3, hg⟩ := bind_some hg
   refine ca_ (w_der_List _ _ hy_3) ?_
   obtain ⟨y_4, hy_4, hg⟩ := bind_some hg
   refine ca_ (w_der_Encode _ _ hy_4) ?_
   refine go_ ?_
   refine ch_n fun hU => ?_
   refine aw_r ?_
   obtain rfl := Option.some.inj hg
   exact fin_ [] ⟨rfl, rfl⟩
theorem w_der_size (b : (List UInt8)) (r : Int × Int × Bool) (hg : g_der_size b = some r) : Fn Tryz.prog 141 0 [.sl 1 (encL e8 b)] [] (fun d' b' => d' = .tup [.val (.int .i64 r.1), .val (.int .i64 r.2.1), .val (.bool r.2.2)] ∧ b' = []) := by
 unfold g_der_size at hg
 refine Fn.of Tryz.func141 rfl rfl rfl fun w0 I ρ0 => ?_
 show awp _ ⟨w0, I, ρ0, 0, 0, 61⟩ _ _ _
 refine sr_ 0 24 mk_U ?_
 refine go_ ?_
 refine ch_n fun hU => ?_
 refine awp_seq ?_
 refine sr_ 24 48 hU ?_
 refine go_ ?_
 refine ch_n fun hU => ?_
 refine cg_ rfl hg (fun h3 hg => ?_) fun h3 hg => ?_
 ·refine awp_seq ?_
  refine awp_region (sys _ _ []) 48 72 hU rfl rfl ?_
  refine go_ ?_
  refine ch_n fun hU => ?_
  refine aw_r ?_
  obtain rfl := Option.some.inj hg
  exact fin_ [] ⟨rfl, rfl⟩
 ·refine awp_skip ?_
  repeat first | refine st_ ?_ | refine sn_ ?_
  refine sr_ 48 96 hU ?_
  refine go_ ?_
  obtain ⟨e, he, hg⟩ := bind_some hg
  refine go_ ?_
  refine c0_ rfl rfl (r_loadE1 ty5 (enc_cell e8_len (getI_at he) (o := 0) (c := .int .u8 (e.toNat : Int)) rfl rfl)) rfl rfl ?_
  refine c0_ rfl rfl (r_conv_8i (u := e) und5 und3) rfl rfl ?_
  refine go_ ?_
  refine ch_n fun hU => ?_
  refine awp_seq ?_
  refine sr_ 96 112 hU ?_
  refine go_ ?_
  refine ch_n fun hU => ?_
  refine cg_ rfl hg (fun h7 hg => ?_) fun h7 hg => ?_
  ·refine awp_seq ?_
   refine awp_region (sys _ _ []) 112 168 hU rfl rfl ?_
   refine go_ ?_
   refine c0_ rfl rfl (r_loadE1 ty5 (enc_cell e8_len (getI_at he) (o := 0) (c := .int .u8 (e.toNat : Int)) rfl rfl)) rfl rfl ?_
   refine c0_ rfl rfl (r_conv_8i (u := e) und5 und3) rfl rfl ?_
   refine go_ ?_
   refine ch_n fun hU => ?_
   refine aw_r ?_
   obtain rfl := Option.some.inj hg
   exact fin_ [] ⟨rfl, rfl⟩
  ·refine awp_skip ?_
   repeat first | refine st_ ?_ | refine sn_ ?_
   refine awp_seq ?_
   refine awp_cut (ι := Bool) (fun (x40_1 : Bool) => mk [(0, .sl 1 (encL e8 b)), (5, .val (.int .i64 (W ((e.toNat : Int) - 128)))), (40, .val (.bool x40_1))] [] 0) (fun (x40_1 : Bool) => g_der_size.j1 b e x40_1 = some r) ?_ ?_
   ·refine awp_region (sys _ _ []) 112 256 hU rfl rfl ?_
    refine go_ ?_
    rcases bc_ hg with ⟨h9, hg⟩ | ⟨h9, hg⟩
    ·refine go_ ?_
     refine ch_n fun hU => ?_
     exact ⟨true, hg, sub_ []⟩
    ·refine go_ ?_
     rcases bc_ hg with ⟨h11, hg⟩ | ⟨h11, hg⟩
     ·refine go_ ?_
      refine ch_n fun hU => ?_
      exact ⟨true, hg, sub_ []⟩
     ·refine go_ ?_
      rcases bc_ hg with ⟨h13, hg⟩ | ⟨h13, hg⟩
      ·refine go_ ?_
       refine ch_n fun hU => ?_
       exact ⟨true, hg, sub_ []⟩
      ·refine go_ ?_
       obtain ⟨e_2, he_2, hg⟩ := bind_some hg
       refine go_ ?_
       refine c0_ (gdv_t rfl rfl h13) rfl (r_loadE1 ty5 (enc_cell e8_len (getI_at he_2) (o := 0) (c := .int .u8 (e_2.toNat : Int)) rfl rfl)) rfl rfl ?_
       refine go_ ?_
       refine ch_n fun hU => ?_
       exact ⟨decide ((e_2.toNat : Int) = 0), hg, sub_ []⟩
   ·rintro x40_1 hg
    replace hg : g_der_size.j1 b e x40_1 = some r := hg
    show awp _ _ _ _ (mk _ _ _)
    unfold g_der_size.j1 at hg
    refine cg_ rfl hg (fun h16 hg => ?_) fun h16 hg => ?_
    ·refine awp_seq ?_
     refine awp_region (sys _ _ []) 0 24 mk_U rfl rfl ?_
     refine go_ ?_
     refine ch_n fun hU => ?_
     refine aw_r ?_
     obtain rfl := Option.some.inj hg
     exact fin_ [] ⟨rfl, rfl⟩
    ·refine awp_skip ?_
     repeat first | refine st_ ?_ | refine sn_ ?_
     refine sr_ 0 8 mk_U ?_
     refine go_ ?_
     refine ch_n fun hU => ?_
     refine awp_seq ?_
     refine sr_ 8 56 hU ?_
     refine go_ ?_
     obtain ⟨l, hl, hg⟩ := bind_some hg
     refine c0_ rfl rfl (r_sliS sl29 e8_len hl) rfl rfl ?_
     refine go_ ?_
     refine ch_n fun hU => ?_
     refine awp_block ?_
     refine lp_ (fun ((n_2, x46_2) : Int × Int) => mk [(5, .val (.int .i64 (W ((e.toNat : Int) - 128)))), (6, .val (.int .i64 n_2)), (44, .sl 1 (encL e8 l)), (45, .val (.int .i64 (l.length : Int))), (46, .val (.int .i64 x46_2))] [] 0) hg (sub_ []) ?_
     rintro ⟨n_2, x46_2⟩ m2 o2 hg hn2
     replace hg : g_der_size.l2 e l n_2 x46_2 = some o2 := hg
     show awp _ _ _ _ (mk _ _ _)
     unfold g_der_size.l2 at hg
     refine sr_ 0 8 mk_U ?_
     refine go_ ?_
     refine ch_n fun hU => ?_
     refine awp_seq ?_
     refine cg_ rfl hg (fun h21 hg => ?_) fun h21 hg => ?_
     ·refine awp_skip ?_
      repeat first | refine st_ ?_ | refine sn_ ?_
      refine awp_seq ?_
      refine awp_block ?_
      refine sr_ 8 32 hU ?_
      obtain ⟨e_3, he_3, hg⟩ := bind_some hg
      refine go_ ?_
      refine c0_ rfl rfl (r_loadE1 ty5 (enc_cell e8_len (getI_at he_3) (o := 0) (c := .int .u8 (e_3.toNat : Int)) rfl rfl)) rfl rfl ?_
      refine go_ ?_
      refine ch_n fun hU => ?_
      refine awp_region (sys _ _ []) 32 80 hU rfl rfl ?_
      refine go_ ?_
      obtain ⟨q, hq, hg⟩ := bind_some hg
      refine c0_ rfl rfl (r_shlK hq) rfl rfl ?_
      refine go_ ?_
      refine c0_ rfl rfl (r_conv_8i (u := e_3) und5 und3) rfl rfl ?_
      refine c0_ rfl rfl r_orK rfl rfl ?_
      refine go_ ?_
      refine ch_n fun hU => ?_
      refine awp_region (sys _ _ []) 80 96 hU rfl rfl ?_
      refine go_ ?_
      refine ch_n fun hU => ?_
      obtain rfl := Option.some.inj hg
      exact ⟨((orK .i64 q (e_3.toNat : Int), W (x46_2 + 1)), m2), Nat.lt_succ_self _, hn2, sub_ []⟩
     ·refine awp_exit ?_
      repeat first | refine st_ ?_ | refine sn_ ?_
      replace hg := leave hg hn2
      refine sr_ 8 72 hU ?_
      refine go_ ?_
      refine ch_n fun hU => ?_
      refine aw_r ?_
      obtain rfl := Option.some.inj hg
      exact fin_ [] ⟨rfl, rfl⟩
theorem w_der_all (rec : (List UInt8) → Option (api_Value × Int × Bool)) (hrec : ∀ (b : (List UInt8)) (r : api_Value × Int × Bool), rec b = some r → Fn Tryz.prog 100 0 [.sl 1 (encL e8 b)] [] (fun d' b' => d' = .tup [.agg (api_Value.dv r.1), .val (.int .i64 r.2.1), .val (.bool r.2.2)] ∧ b' = [])) (b : (List UInt8)) (r : (List api_Value) × Bool) (hg : g_der_all rec b = some r) : Fn Tryz.prog 142 0 [.sl 1 (encL e8 b)] [] (fun d' b' => d' = .tup [.sl 4 (encL api_Value.enc r.1), .val (.bool r.2)] ∧ b' = []) := by
 unfold g_der_all at hg
 refine Fn.of Tryz.func142 rfl rfl rfl fun w0 I ρ0 => ?_
 show awp _ ⟨w0, I, ρ0, 0, 0, 31⟩ _ _ _
 refine sr_ 0 16 mk_U ?_
 refine go_ ?_
 refine ch_n fun hU => ?_
 refine sr_ 16 24 hU ?_
 refine go_ ?_
 refine ch_n fun hU => ?_
 refine awp_seq ?_
 refine sr_ 24 32 hU ?_
 refine go_ ?_
 refine ch_n fun hU => ?_
 refine awp_block ?_
 refine lp_ (fun ((at_1, out_1) : Int × List api_Value) => mk [(0, .sl 1 (encL e8 b)), (4, .row 0), (5, .val (.int .i64 at_1))] [(0, .row 50 4 (encL api_Value.enc out_1))] 1) hg (sub_ []) ?_
 rintro ⟨at_1, out_1⟩ m1 o1 hg hn1
 replace hg : g_der_all.l1 rec b at_1 out_1 = some o1 := hg
 show awp _ _ _ _ (mk _ _ _)
 unfold g_der_all.l1 at hg
 refine awp_seq ?_
 refine sr_ 1 33 mk_U ?_
 refine go_ ?_
 refine ch_n fun hU => ?_
 refine cg_ rfl hg (fun h5 hg => ?_) fun h5 hg => ?_
 ·refine awp_skip ?_
  repeat first | refine st_ ?_ | refine sn_ ?_
  refine awp_block ?_
  refine sr_ 33 129 hU ?_
  refine go_ ?_
  obtain ⟨l, hl, hg⟩ := bind_some hg
  refine c0_ rfl rfl (r_sliS_lo sl29 e8_len hl) rfl rfl ?_
  obtain ⟨y, hy, hg⟩ := bind_some hg
  refine ca_ (hrec _ _ hy) ?_
  refine go_ ?_
  refine ch_n fun hU => ?_
  refine awp_seq ?_
  refine sr_ 129 145 hU ?_
  refine go_ ?_
  refine ch_n fun hU => ?_
  refine cg_ rfl hg (fun h8 hg => ?_) fun h8 hg => ?_
  ·refine awp_seq ?_
   refine awp_region (sys _ _ []) 145 161 hU rfl rfl ?_
   refine go_ ?_
   refine ch_n fun hU => ?_
   refine aw_r ?_
   replace hg := leave hg hn1
   obtain rfl := Option.some.inj hg
   exact fin_ [] ⟨rfl, rfl⟩
  ·refine awp_skip ?_
   repeat first | refine st_ ?_ | refine sn_ ?_
   refine awp_region (sys _ _ []) 145 217 hU rfl rfl ?_
   refine go_ ?_
   refine c0_ rfl rfl (r_buildFull sl48 z50 (by decide) rfl rfl rfl rfl ck50 (cs := [.int .i64 y.1.Tag, .sl 1 (encL e8 y.1.Bytes), .bool y.1.Nested, .sl 4 (encL api_Value.enc y.1.Elements)]) (.cons .int (.cons .sl (.cons .bool (.cons .sl .nil)))) rfl (l := ([y.1] : List api_Value)) (f := api_Value.enc) (by simp only [encL, List.flatMap_cons, List.flatMap_nil, api_Value.enc_eq]; rfl)) rfl rfl ?_
   obtain ⟨l_2, hl_2, hg⟩ := bind_some hg
   refine ch_s (rd := [0, 161]) rfl rfl (r_append sl48 api_Value.enc_len .row rfl .row rfl hl_2 rfl) rfl rfl ?_
   refine go_ ?_
   refine ch_n fun hU => ?_
   obtain rfl := Option.some.inj hg
   exact ⟨((W (at_1 + y.2.1), l_2), m1), Nat.lt_succ_self _, hn1, sub_ [(0, 169)]⟩
 ·refine awp_exit ?_
  repeat first | refine st_ ?_ | refine sn_ ?_
  replace hg := leave hg hn1
  refine sr_ 33 57 hU ?_
  refine go_ ?_
  refine ch_n fun hU => ?_
  refine aw_r ?_
  obtain rfl := Option.some.inj hg
  exact fin_ [] ⟨rfl, rfl⟩
theorem w_der_next.F (rec : (List UInt8) → Option (api_Value × Int × Bool)) (hrec : ∀ (b : (List UInt8)) (r : api_Value × Int × Bool), rec b = some r → Fn Tryz.prog 100 0 [.sl 1 (encL e8 b)] [] (fun d' b' => d' = .tup [.agg (api_Value.dv r.1), .val (.int .i64 r.2.1), .val (.bool r.2.2)] ∧ b' = [])) (b : (List UInt8)) (r : api_Value × Int × Bool) (hg : g_der_next.F rec b = some r) : Fn Tryz.prog 100 0 [.sl 1 (encL e8 b)] [] (fun d' b' => d' = .tup [.agg (api_Value.dv r.1), .val (.int .i64 r.2.1), .val (.bool r.2.2)] ∧ b' = []) := by
 unfold g_der_next.F at hg
 refine Fn.of Tryz.func100 rfl rfl rfl fun w0 I ρ0 => ?_
 show awp _ ⟨w0, I, ρ0, 0, 0, 83⟩ _ _ _
 refine sr_ 0 24 mk_U ?_
 refine go_ ?_
 refine ch_n fun hU => ?_
 refine awp_seq ?_
 refine awp_cut (ι := Bool) (fun (x20_1 : Bool) => mk [(0, .sl 1 (encL e8 b)), (2, .ptr 0 0), (20, .val (.bool x20_1))] [(0, .box [.val (.int .i64 0), .val (.slice none 0 0), .val (.bool false), .val (.slice none 0 0)] 50)] 1) (fun (x20_1 : Bool) => g_der_next.j1 rec b x20_1 = some r) ?_ ?_
 ·refine awp_region (sys _ _ []) 24 112 hU rfl rfl ?_
  refine go_ ?_
  rcases bc_ hg with ⟨h2, hg⟩ | ⟨h2, hg⟩
  ·refine go_ ?_
   refine ch_n fun hU => ?_
   exact ⟨true, hg, sub_ [(0, 0)]⟩
  ·refine go_ ?_
   obtain ⟨e, he, hg⟩ := bind_some hg
   refine go_ ?_
   refine c0_ (gdv_t rfl rfl h2) rfl (r_loadE1 ty5 (enc_cell e8_len (getI_at he) (o := 0) (c := .int .u8 (e.toNat : Int)) rfl rfl)) rfl rfl ?_
   refine c0_ (gdv_t rfl rfl h2) rfl (r_conv_8i (u := e) und5 und3) rfl rfl ?_
   obtain ⟨y, hy, hg⟩ := bind_some hg
   refine ca_ (w_der_tag _ _ hy) ?_
   refine go_ ?_
   refine ch_n fun hU => ?_
   exact ⟨!y, hg, sub_ [(0, 0)]⟩
 ·rintro x20_1 hg
  replace hg : g_der_next.j1 rec b x20_1 = some r := hg
  show awp _ _ _ _ (mk _ _ _)
  unfold g_der_next.j1 at hg
  refine cg_ rfl hg (fun h5 hg => ?_) fun h5 hg => ?_
  ·refine awp_seq ?_
   refine awp_region (sys _ _ []) 1 33 mk_U rfl rfl ?_
   refine c0_ rfl rfl (.build (r := [.val (.int .i64 0), .val (.slice none 0 0), .val (.bool false), .val (.slice none 0 0)]) und50 pl50 z50 (by kernel_rfl) rfl) rfl rfl ?_
   refine go_ ?_
   refine ch_n fun hU => ?_
   refine aw_r ?_
   obtain rfl := Option.some.inj hg
   exact fin_ [] ⟨rfl, rfl⟩
  ·refine awp_skip ?_
   repeat first | refine st_ ?_ | refine sn_ ?_
   refine sr_ 1 81 mk_U ?_
   refine go_ ?_
   obtain ⟨l, hl, hg⟩ := bind_some hg
   refine c0_ rfl rfl (r_sliS_lo sl29 e8_len hl) rfl rfl ?_
   obtain ⟨y_2, hy_2, hg⟩ := bind_some hg
   refine ca_ (w_der_size _ _ hy_2) ?_
   refine go_ ?_
   refine ch_n fun hU => ?_
   refine sr_ 81 105 hU ?_
   refine go_ ?_
   refine ch_n fun hU => ?_
   refine awp_cut (ι := Bool) (fun (x40_2 : Bool) => mk [(0, .sl 1 (encL e8 b)), (2, .ptr 0 0), (5, .val (.int .i64 y_2.1)), (8, .val (.int .i64 (W (1 + y_2.2.1)))), (40, .val (.bool x40_2))] [(0, .box [.val (.int .i64 0), .val (.slice none 0 0), .val (.bool false), .val (.slice none 0 0)] 50)] 1) (fun (x40_2 : Bool) => g_der_next.j2 rec b y_2 x40_2 = some r) ?_ ?_
   ·refine awp_region (sys _ _ []) 105 185 hU rfl rfl ?_
    refine go_ ?_
    rcases bc_ hg with ⟨h9, hg⟩ | ⟨h9, hg⟩
    ·refine go_ ?_
     refine ch_n fun hU => ?_
     exact ⟨true, hg, sub_ [(0, 0)]⟩
    ·refine go_ ?_
     refine ch_n fun hU => ?_
     exact ⟨decide ((W ((b.length : Int) - (W (1 + y_2.2.1)))) < y_2.1), hg, sub_ [(0, 0)]⟩
   ·rintro x40_2 hg
    replace hg : g_der_next.j2 rec b y_2 x40_2 = some r := hg
    show awp _ _ _ _ (mk _ _ _)
    unfold g_der_next.j2 at hg
    refine cg_ rfl hg (fun h12 hg => ?_) fun h12 hg => ?_
    ·refine awp_seq ?_
     refine awp_region (sys _ _ []) 1 33 mk_U rfl rfl ?_
     refine c0_ rfl rfl (.build (r := [.val (.int .i64 0), .val (.slice none 0 0), .val (.bool false), .val (.slice none 0 0)]) und50 pl50 z50 (by kernel_rfl) rfl) rfl rfl ?_
     refine go_ ?_
     refine ch_n fun hU => ?_
     refine aw_r ?_
     obtain rfl := Option.some.inj hg
     exact fin_ [] ⟨rfl, rfl⟩
    ·refine awp_seq ?_
     refine awp_draw (sys _ _ []) (by kernel_rfl) [0, 1, 3, 7, 0, 16, 48, 112, 240, 496, 1023, 0, 4095] 1 105 mk_U rfl rfl (by kernel_rfl) ?_
     refine go_ ?_
     obtain ⟨e_2, he_2, hg⟩ := bind_some hg
     refine go_ ?_
     refine c0_ rfl rfl (r_loadE1 ty5 (enc_cell e8_len (getI_at he_2) (o := 0) (c := .int .u8 (e_2.toNat : Int)) rfl rfl)) rfl rfl ?_
     refine c0_ rfl rfl (r_conv_8i (u := e_2) und5 und3) rfl rfl ?_
     refine go_ ?_
     refine c0_ rfl rfl (r_loadE1 ty5 (enc_cell e8_len (getI_at he_2) (o := 0) (c := .int .u8 (e_2.toNat : Int)) rfl rfl)) rfl rfl ?_
     refine c0_ rfl rfl (r_conv_8i (u := e_2) und5 und3) rfl rfl ?_
     refine c0_ rfl rfl r_andK rfl rfl ?_
     refine go_ ?_
     refine c0_ rfl rfl (.build (r := [.val (.int .i64 (e_2.toNat : Int)), .val (.slice none 0 0), .val (.bool (!decide ((andK .i64 (e_2.toNat : Int) 32) = 0))), .val (.slice none 0 0)]) und50 pl50 z50 (by kernel_rfl) rfl) rfl rfl ?_
     refine go_ ?_
     refine ch_n fun hU => ?_
     refine sr_ 105 121 hU ?_
     refine go_ ?_
     refine ch_n fun hU => ?_
     refine cg_ rfl hg (fun h16 hg => ?_) fun h16 hg => ?_
     ·refine awp_seq ?_
      refine awp_region (sys _ _ []) 121 225 hU rfl rfl ?_
      refine go_ ?_
      obtain ⟨l_2, hl_2, hg⟩ := bind_some hg
      refine c0_ rfl rfl (r_sliS sl29 e8_len hl_2) rfl rfl ?_
      obtain ⟨y_3, hy_3, hg⟩ := bind_some hg
      refine ca_ (w_der_all rec hrec _ _ hy_3) ?_
      refine go_ ?_
      refine ch_n fun hU => ?_
      refine sr_ 225 289 hU ?_
      refine go_ ?_
      refine ch_n fun hU => ?_
      refine aw_r ?_
      obtain rfl := Option.some.inj hg
      exact fin_ [] ⟨rfl, rfl⟩
     ·refine awp_seq ?_
      refine awp_region (sys _ _ []) 121 193 hU rfl rfl ?_
      refine go_ ?_
      obtain ⟨l_3, hl_3, hg⟩ := bind_some hg
      refine c0_ rfl rfl (r_sliS sl29 e8_len hl_3) rfl rfl ?_
      obtain ⟨y_4, hy_4, hg⟩ := bind_some hg
      refine ca_ (w_bytes_Clone _ _ hy_4) ?_
      refine go_ ?_
      refine ch_n fun hU => ?_
      refine sr_ 193 249 hU ?_
      refine go_ ?_
      refine ch_n fun hU => ?_
      refine aw_r ?_
      obtain rfl := Option.some.inj hg
      exact fin_ [] ⟨rfl, rfl⟩
theorem w_der_next (b : (List UInt8)) (r : api_Value × Int × Bool) (hg : g_der_next b = some r) : Fn Tryz.prog 100 0 [.sl 1 (encL e8 b)] [] (fun d' b' => d' = .tup [.agg (api_Value.dv r.1), .val (.int .i64 r.2.1), .val (.bool r.2.2)] ∧ b' = []) :=
 fixT_ind (motive := fun (x : (List UInt8)) (r : api_Value × Int × Bool) => Fn Tryz.prog 100 0 [.sl 1 (encL e8 x)] [] (fun d' b' => d' = .tup [.agg (api_Value.dv r.1), .val (.int .i64 r.2.1), .val (.bool r.2.2)] ∧ b' = [])) (fun rec hrec x r h => w_der_next.F _ (fun b r h => hrec b r h) x r h) b r hg
theorem w_der_Decode (b : (List UInt8)) (r : api_Value × Int) (hg : g_der_Decode b = some r) : Fn Tryz.prog 56 0 [.sl 1 (encL e8 b)] [] (fun d' b' => d' = .tup [.agg (api_Value.dv r.1), .val (.int .i64 r.2)] ∧ b' = []) := by
 unfold g_der_Decode at hg
 refine Fn.of Tryz.func56 rfl rfl rfl fun w0 I ρ0 => ?_
 show awp _ ⟨w0, I, ρ0, 0, 0, 31⟩ _ _ _
 refine sr_ 0 16 mk_U ?_
 refine go_ ?_
 refine ch_n fun hU => ?_
 refine awp_seq ?_
 refine sr_ 16 40 hU ?_
 refine go_ ?_
 refine ch_n fun hU => ?_
 refine cg_ rfl hg (fun h3 hg => ?_) fun h3 hg => ?_
 ·refine awp_seq ?_
  refine awp_region (sys _ _ []) 40 64 hU rfl rfl ?_
  refine c0_ rfl rfl (.build (r := [.val (.int .i64 0), .val (.slice none 0 0), .val (.bool false), .val (.slice none 0 0)]) und50 pl50 z50 (by kernel_rfl) rfl) rfl rfl ?_
  refine go_ ?_
  refine ch_n fun hU => ?_
  refine aw_r ?_
  obtain rfl := Option.some.inj hg
  exact fin_ [] ⟨rfl, rfl⟩
 ·refine awp_skip ?_
  repeat first | refine st_ ?_ | refine sn_ ?_
  refine sr_ 40 120 hU ?_
  refine go_ ?_
  obtain ⟨y, hy, hg⟩ := bind_some hg
  refine ca_ (w_der_next _ _ hy) ?_
  refine go_ ?_
  refine ch_n fun hU => ?_
  refine awp_seq ?_
  refine awp_cut (ι := Bool) (fun (x24_1 : Bool) => mk [(2, .ptr 0 0), (4, .ptr 1 0), (24, .val (.bool x24_1))] [(0, .box [.val (.int .i64 0), .val (.slice none 0 0), .val (.bool false), .val (.slice none 0 0)] 50), (1, .box (api_Value.dv y.1) 50)] 2) (fun (x24_1 : Bool) => g_der_Decode.j1 y x24_1 = some r) ?_ ?_
  ·refine awp_region (sys _ _ []) 120 184 hU rfl rfl ?_
   refine go_ ?_
   rcases bc_ hg with ⟨h6, hg⟩ | ⟨h6, hg⟩
   ·refine go_ ?_
    refine ch_n fun hU => ?_
    exact ⟨true, hg, sub_ [(0, 0), (1, 88)]⟩
   ·refine go_ ?_
    refine ch_n fun hU => ?_
    exact ⟨!decide (y.2.1 = (b.length : Int)), hg, sub_ [(0, 0), (1, 88)]⟩
  ·rintro x24_1 hg
   replace hg : g_der_Decode.j1 y x24_1 = some r := hg
   show awp _ _ _ _ (mk _ _ _)
   unfold g_der_Decode.j1 at hg
   refine cg_ rfl hg (fun h9 hg => ?_) fun h9 hg => ?_
   ·refine awp_seq ?_
    refine awp_region (sys _ _ []) 2 26 mk_U rfl rfl ?_
    refine c0_ rfl rfl (.build (r := [.val (.int .i64 0), .val (.slice none 0 0), .val (.bool false), .val (.slice none 0 0)]) und50 pl50 z50 (by kernel_rfl) rfl) rfl rfl ?_
    refine go_ ?_
    refine ch_n fun hU => ?_
    refine aw_r ?_
    obtain rfl := Option.some.inj hg
    exact fin_ [] ⟨rfl, rfl⟩
   ·refine awp_skip ?_
    repeat first | refine st_ ?_ | refine sn_ ?_
    refine awp_seq ?_
    refine sr_ 2 26 mk_U ?_
    refine go_ ?_
    obtain ⟨y_2, hy_2, hg⟩ := bind_some hg
    refine ca_ (w_der_depth _ _ hy_2) ?_
    refine go_ ?_
    refine ch_n fun hU => ?_
    refine cg_ rfl hg (fun h12 hg => ?_) fun h12 hg => ?_
    ·refine awp_seq ?_
     refine awp_region (sys _ _ []) 26 50 hU rfl rfl ?_
     refine c0_ rfl rfl (.build (r := [.val (.int .i64 0), .val (.slice none 0 0), .val (.bool false), .val (.slice none 0 0)]) und50 pl50 z50 (by kernel_rfl) rfl) rfl rfl ?_
     refine go_ ?_
     refine ch_n fun hU => ?_
     refine aw_r ?_
     obtain rfl := Option.some.inj hg
     exact fin_ [] ⟨rfl, rfl⟩
    ·refine awp_skip ?_
     repeat first | refine st_ ?_ | refine sn_ ?_
     refine sr_ 26 50 hU ?_
     refine go_ ?_
     refine ch_n fun hU => ?_
     refine aw_r ?_
     obtain rfl := Option.some.inj hg
     exact fin_ [] ⟨rfl, rfl⟩
theorem w_der_AsList (v : api_Value) (r : (List api_Value) × Int) (hg : g_der_AsList v = some r) : Fn Tryz.prog 57 0 [.agg (api_Value.dv v)] [] (fun d' b' => d' = .tup [.sl 4 (encL api_Value.enc r.1), .val (.int .i64 r.2)] ∧ b' = []) := by
 unfold g_der_AsList at hg
 refine Fn.of Tryz.func57 rfl rfl rfl fun w0 I ρ0 => ?_
 show awp _ ⟨w0, I, ρ0, 0, 0, 15⟩ _ _ _
 refine sr_ 0 24 mk_U ?_
 refine go_ ?_
 refine ch_n fun hU => ?_
 refine awp_seq ?_
 refine awp_cut (ι := Bool) (fun (x11_1 : Bool) => mk [(1, .ptr 0 0), (11, .val (.bool x11_1))] [(0, .box (api_Value.dv v) 50)] 1) (fun (x11_1 : Bool) => g_der_AsList.j1 v x11_1 = some r) ?_ ?_
 ·refine awp_region (sys _ _ []) 24 88 hU rfl rfl ?_
  refine go_ ?_
  rcases bc_ hg with ⟨h2, hg⟩ | ⟨h2, hg⟩
  ·refine go_ ?_
   refine ch_n fun hU => ?_
   exact ⟨true, hg, sub_ [(0, 0)]⟩
  ·refine go_ ?_
   obtain ⟨y, hy, hg⟩ := bind_some hg
   refine ca_ (w_der_formed _ _ hy) ?_
   refine go_ ?_
   refine ch_n fun hU => ?_
   exact ⟨!y, hg, sub_ [(0, 0)]⟩
 ·rintro x11_1 hg
  replace hg : g_der_AsList.j1 v x11_1 = some r := hg
  show awp _ _ _ _ (mk _ _ _)
  unfold g_der_AsList.j1 at hg
  refine cg_ rfl hg (fun h5 hg => ?_) fun h5 hg => ?_
  ·refine awp_seq ?_
   refine awp_region (sys _ _ []) 1 17 mk_U rfl rfl ?_
   refine go_ ?_
   refine ch_n fun hU => ?_
   refine aw_r ?_
   obtain rfl := Option.some.inj hg
   exact fin_ [] ⟨rfl, rfl⟩
  ·refine awp_skip ?_
   repeat first | refine st_ ?_ | refine sn_ ?_
   refine sr_ 1 41 mk_U ?_
   refine go_ ?_
   obtain ⟨y_2, hy_2, hg⟩ := bind_some hg
   refine ca_ (w_der_copied _ _ hy_2) ?_
   refine go_ ?_
   refine ch_n fun hU => ?_
   refine aw_r ?_
   obtain rfl := Option.some.inj hg
   exact fin_ [] ⟨rfl, rfl⟩
theorem w_certificate_Read (v : api_Value) (count : Int) (r : certificate_Reader) (hg : g_certificate_Read v count = some r) : Fn Tryz.prog 102 0 [.agg (api_Value.dv v), .val (.int .i64 count)] [] (fun d' b' => d' = .ptr 0 0 ∧ b' = [.box [.sl 4 (encL api_Value.enc r.l), .val (.bool r.Failed)] 131]) := by
 unfold g_certificate_Read at hg
 refine Fn.of Tryz.func102 rfl rfl rfl fun w0 I ρ0 => ?_
 show awp _ ⟨w0, I, ρ0, 0, 0, 23⟩ _ _ _
 refine sr_ 0 16 mk_U ?_
 refine go_ ?_
 refine ch_n fun hU => ?_
 refine sr_ 16 72 hU ?_
 refine go_ ?_
 obtain ⟨y, hy, hg⟩ := bind_some hg
 refine ca_ (w_der_AsList _ _ hy) ?_
 refine go_ ?_
 refine ch_n fun hU => ?_
 refine sr_ 72 168 hU ?_
 refine go_ ?_
 rcases bc_ hg with ⟨h3, hg⟩ | ⟨h3, hg⟩
 ·refine go_ ?_
  refine c0_ rfl rfl (.build (r := [.sl 4 (encL api_Value.enc y.1), .val (.bool true)]) und131 pl131 z131 (by kernel_rfl) rfl) rfl rfl ?_
  refine go_ ?_
  refine ch_n fun hU => ?_
  refine aw_r ?_
  obtain rfl := Option.some.inj hg
  exact fin_ [(0, 152)] ⟨rfl, rfl⟩
 ·refine go_ ?_
  refine c0_ rfl rfl (.build (r := [.sl 4 (encL api_Value.enc y.1), .val (.bool (!decide ((y.1.length : Int) = count)))]) und131 pl131 z131 (by kernel_rfl) rfl) rfl rfl ?_
  refine go_ ?_
  refine ch_n fun hU => ?_
  refine aw_r ?_
  obtain rfl := Option.some.inj hg
  exact fin_ [(0, 152)] ⟨rfl, rfl⟩
theorem w_certificate_Reader_Next (r' : certificate_Reader) (r : api_Value × certificate_Reader) (hg : g_certificate_Reader_Next r' = some r) : Fn Tryz.prog 145 1 [.ptr 0 0] [.box [.sl 4 (encL api_Value.enc r'.l), .val (.bool r'.Failed)] 131] (fun d' b' => d' = .agg (api_Value.dv r.1) ∧ b' = [.box [.sl 4 (encL api_Value.enc r.2.l), .val (.bool r.2.Failed)] 131]) := by
 unfold g_certificate_Reader_Next at hg
 refine Fn.of Tryz.func145 rfl rfl rfl fun w0 I ρ0 => ?_
 show awp _ ⟨w0, I, ρ0, 1, 1, 35⟩ _ _ _
 refine sr_ 1 9 mk_U ?_
 refine go_ ?_
 refine ch_n fun hU => ?_
 refine awp_seq ?_
 refine awp_cut (ι := Bool) (fun (x15_1 : Bool) => mk [(0, .ptr 0 0), (2, .ptr 1 0), (15, .val (.bool x15_1))] [(0, .box [.sl 4 (encL api_Value.enc r'.l), .val (.bool r'.Failed)] 131), (1, .box [.val (.int .i64 0), .val (.slice none 0 0), .val (.bool false), .val (.slice none 0 0)] 50)] 2) (fun (x15_1 : Bool) => g_certificate_Reader_Next.j1 r' x15_1 = some r) ?_ ?_
 ·refine awp_region (sys _ _ []) 9 105 hU rfl rfl ?_
  refine go_ ?_
  rcases bc_ hg with ⟨h2, hg⟩ | ⟨h2, hg⟩
  ·refine go_ ?_
   refine ch_n fun hU => ?_
   exact ⟨true, hg, sub_ [(0, 0), (1, 1)]⟩
  ·refine go_ ?_
   refine ch_n fun hU => ?_
   exact ⟨decide ((r'.l.length : Int) = 0), hg, sub_ [(0, 0), (1, 1)]⟩
 ·rintro x15_1 hg
  replace hg : g_certificate_Reader_Next.j1 r' x15_1 = some r := hg
  show awp _ _ _ _ (mk _ _ _)
  unfold g_certificate_Reader_Next.j1 at hg
  refine cg_ rfl hg (fun h5 hg => ?_) fun h5 hg => ?_
  ·refine awp_seq ?_
   refine awp_region (sys _ _ []) 2 34 mk_U rfl rfl ?_
   refine go_ ?_
   refine ch_n fun hU => ?_
   refine sr_ 34 50 hU ?_
   refine c0_ rfl rfl (.build (r := [.val (.int .i64 0), .val (.slice none 0 0), .val (.bool false), .val (.slice none 0 0)]) und50 pl50 z50 (by kernel_rfl) rfl) rfl rfl ?_
   refine go_ ?_
   refine ch_n fun hU => ?_
   refine aw_r ?_
   obtain rfl := Option.some.inj hg
   exact fin_ [(0, 0)] ⟨rfl, rfl⟩
  ·refine awp_skip ?_
   repeat first | refine st_ ?_ | refine sn_ ?_
   refine sr_ 2 66 mk_U ?_
   refine go_ ?_
   obtain ⟨e, he, hg⟩ := bind_some hg
   refine go_ ?_
   refine c0_ rfl rfl (r_loadEA ty50 (enc_cells api_Value.enc_len (getI_at he) (o := 0) (m := 4) (cs := [.int .i64 e.Tag, .sl 1 (encL e8 e.Bytes), .bool e.Nested, .sl 4 (encL api_Value.enc e.Elements)]) (by simp only [api_Value.enc_eq]; rfl) (by decide) rfl) (enc_cells_le api_Value.enc_len (getI_at he) (o := 0) (m := 4) (by decide) rfl)) rfl rfl ?_
   refine go_ ?_
   refine ch_n fun hU => ?_
   refine sr_ 66 138 hU ?_
   refine go_ ?_
   obtain ⟨l, hl, hg⟩ := bind_some hg
   refine c0_ rfl rfl (r_sliS_lo sl48 api_Value.enc_len hl) rfl rfl ?_
   refine go_ ?_
   refine ch_n fun hU => ?_
   refine sr_ 138 154 hU ?_
   refine go_ ?_
   refine ch_n fun hU => ?_
   refine aw_r ?_
   obtain rfl := Option.some.inj hg
   exact fin_ [(0, 0)] ⟨rfl, rfl⟩
theorem w_der_plain (v : api_Value) (tag : Int) (r : Bool) (hg : g_der_plain v tag = some r) : Fn Tryz.prog 173 0 [.agg (api_Value.dv v), .val (.int .i64 tag)] [] (fun d' b' => d' = .val (.bool r) ∧ b' = []) := by
 unfold g_der_plain at hg
 refine Fn.of Tryz.func173 rfl rfl rfl fun w0 I ρ0 => ?_
 show awp _ ⟨w0, I, ρ0, 0, 0, 20⟩ _ _ _
 refine sr_ 0 16 mk_U ?_
 refine go_ ?_
 refine ch_n fun hU => ?_
 refine sr_ 16 144 hU ?_
 refine go_ ?_
 rcases bc_ hg with ⟨h2, hg⟩ | ⟨h2, hg⟩
 ·refine go_ ?_
  rcases bc_ hg with ⟨h3, hg⟩ | ⟨h3, hg⟩
  ·refine go_ ?_
   refine ch_n fun hU => ?_
   refine aw_r ?_
   obtain rfl := Option.some.inj hg
   exact fin_ [] ⟨rfl, rfl⟩
  ·refine go_ ?_
   refine ch_n fun hU => ?_
   refine aw_r ?_
   obtain rfl := Option.some.inj hg
   exact fin_ [] ⟨rfl, rfl⟩
 ·refine go_ ?_
  refine ch_n fun hU => ?_
  refine aw_r ?_
  obtain rfl := Option.some.inj hg
  exact fin_ [] ⟨rfl, rfl⟩
theorem w_der_AsText_c1 (x' : UInt8) (r : Bool) (hg : g_der_AsText_c1 x' = some r) : Fn Tryz.prog 175 0 [.val (.int .u8 (x'.toNat : Int))] [] (fun d' b' => d' = .val (.bool r) ∧ b' = []) := by
 unfold g_der_AsText_c1 at hg
 refine Fn.of Tryz.func175 rfl rfl rfl fun w0 I ρ0 => ?_
 show awp _ ⟨w0, I, ρ0, 0, 0, 9⟩ _ _ _
 refine sr_ 0 8 mk_U ?_
 refine go_ ?_
 refine ch_n fun hU => ?_
 refine sr_ 8 64 hU ?_
 refine go_ ?_
 rcases bc_ hg with ⟨h2, hg⟩ | ⟨h2, hg⟩
 ·refine go_ ?_
  refine ch_n fun hU => ?_
  refine aw_r ?_
  obtain rfl := Option.some.inj hg
  exact fin_ [] ⟨rfl, rfl⟩
 ·refine go_ ?_
  refine ch_n fun hU => ?_
  refine aw_r ?_
  obtain rfl := Option.some.inj hg
  exact fin_ [] ⟨rfl, rfl⟩
theorem w_slices_IndexFunc_byte_clo_175_0_ (s : (List UInt8)) (f : UInt8 → Option (Bool)) (hf_f : ∀ (x0 : UInt8) (y : Bool), f x0 = some y → Fn Tryz.prog 175 0 [.val (.int .u8 (x0.toNat : Int))] [] (fun d' b' => d' = .val (.bool y) ∧ b' = [])) (r : Int) (hg : g_slices_IndexFunc_byte s f = some r) : Fn Tryz.prog 181 0 [.sl 1 (encL e8 s), .clo 175 0 []] [] (fun d' b' => d' = .val (.int .i64 r) ∧ b' = []) := by
 unfold g_slices_IndexFunc_byte at hg
 refine Fn.of Tryz.func181 rfl rfl rfl fun w0 I ρ0 => ?_
 show awp _ ⟨w0, I, ρ0, 0, 0, 19⟩ _ _ _
 refine sr_ 0 8 mk_U ?_
 refine go_ ?_
 refine ch_n fun hU => ?_
 refine awp_seq ?_
 refine sr_ 8 32 hU ?_
 refine go_ ?_
 refine ch_n fun hU => ?_
 refine awp_block ?_
 refine lp_ (fun (x8_1 : Int) => mk [(0, .sl 1 (encL e8 s)), (1, .clo 175 0 []), (7, .val (.int .i64 (s.length : Int))), (8, .val (.int .i64 x8_1))] [] 0) hg (sub_ []) ?_
 rintro x8_1 m1 o1 hg hn1
 replace hg : g_slices_IndexFunc_byte.l1 s f x8_1 = some o1 := hg
 show awp _ _ _ _ (mk _ _ _)
 unfold g_slices_IndexFunc_byte.l1 at hg
 refine sr_ 0 8 mk_U ?_
 refine go_ ?_
 refine ch_n fun hU => ?_
 refine awp_seq ?_
 refine cg_ rfl hg (fun h4 hg => ?_) fun h4 hg => ?_
 ·refine awp_skip ?_
  repeat first | refine st_ ?_ | refine sn_ ?_
  refine awp_seq ?_
  refine awp_block ?_
  refine sr_ 8 24 hU ?_
  refine go_ ?_
  refine ch_n fun hU => ?_
  refine sr_ 24 72 hU ?_
  refine go_ ?_
  obtain ⟨e, he, hg⟩ := bind_some hg
  refine go_ ?_
  refine c0_ rfl rfl (r_loadE1 ty5 (enc_cell e8_len (getI_at he) (o := 0) (c := .int .u8 (e.toNat : Int)) rfl rfl)) rfl rfl ?_
  obtain ⟨y, hy, hg⟩ := bind_some hg
  refine ch_callCP (rd := []) (ps := []) (gs := []) false rfl rfl (hf_f e _ hy) rfl rfl (.cons .val .nil) rfl rfl (by intro h; cases h) rfl rfl rfl rfl ?_
  refine ch_n fun hU => ?_
  refine cg_ rfl hg (fun h7 hg => ?_) fun h7 hg => ?_
  ·refine awp_seq ?_
   refine awp_region (sys _ _ []) 72 88 hU rfl rfl ?_
   refine go_ ?_
   refine ch_n fun hU => ?_
   refine aw_r ?_
   replace hg := leave hg hn1
   obtain rfl := Option.some.inj hg
   exact fin_ [] ⟨rfl, rfl⟩
  ·refine awp_skip ?_
   repeat first | refine st_ ?_ | refine sn_ ?_
   refine awp_region (sys _ _ []) 72 88 hU rfl rfl ?_
   refine go_ ?_
   refine ch_n fun hU => ?_
   obtain rfl := Option.some.inj hg
   exact ⟨(W (x8_1 + 1), m1), Nat.lt_succ_self _, hn1, sub_ []⟩
 ·refine awp_exit ?_
  repeat first | refine st_ ?_ | refine sn_ ?_
  replace hg := leave hg hn1
  refine sr_ 8 16 hU ?_
  refine go_ ?_
  refine ch_n fun hU => ?_
  refine aw_r ?_
  obtain rfl := Option.some.inj hg
  exact fin_ [] ⟨rfl, rfl⟩
theorem w_slices_ContainsFunc_byte_clo_175_0_ (s : (List UInt8)) (f : UInt8 → Option (Bool)) (hf_f : ∀ (x0 : UInt8) (y : Bool), f x0 = some y → Fn Tryz.prog 175 0 [.val (.int .u8 (x0.toNat : Int))] [] (fun d' b' => d' = .val (.bool y) ∧ b' = [])) (r : Bool) (hg : g_slices_ContainsFunc_byte s f = some r) : Fn Tryz.prog 174 0 [.sl 1 (encL e8 s), .clo 175 0 []] [] (fun d' b' => d' = .val (.bool r) ∧ b' = []) := by
 unfold g_slices_ContainsFunc_byte at hg
 refine Fn.of Tryz.func174 rfl rfl rfl fun w0 I ρ0 => ?_
 show awp _ ⟨w0, I, ρ0, 0, 0, 9⟩ _ _ _
 refine sr_ 0 8 mk_U ?_
 refine go_ ?_
 refine ch_n fun hU => ?_
 refine sr_ 8 48 hU ?_
 refine go_ ?_
 obtain ⟨y, hy, hg⟩ := bind_some hg
 refine ca_ (w_slices_IndexFunc_byte_clo_175_0_ s f hf_f _ hy) ?_
 refine go_ ?_
 refine ch_n fun hU => ?_
 refine aw_r ?_
 obtain rfl := Option.some.inj hg
 exact fin_ [] ⟨rfl, rfl⟩
theorem w_der_AsText (v : api_Value) (r : ByteArray × Int) (hg : g_der_AsText v = some r) : Fn Tryz.prog 144 0 [.agg (api_Value.dv v)] [] (fun d' b' => d' = .tup [.val (.string r.1), .val (.int .i64 r.2)] ∧ b' = []) := by
 unfold g_der_AsText at hg
 refine Fn.of Tryz.func144 rfl rfl rfl fun w0 I ρ0 => ?_
 show awp _ ⟨w0, I, ρ0, 0, 0, 15⟩ _ _ _
 refine sr_ 0 24 mk_U ?_
 refine go_ ?_
 refine ch_n fun hU => ?_
 refine awp_seq ?_
 refine awp_cut (ι := Bool) (fun (x11_1 : Bool) => mk [(1, .ptr 0 0), (11, .val (.bool x11_1))] [(0, .box (api_Value.dv v) 50)] 1) (fun (x11_1 : Bool) => g_der_AsText.j1 v x11_1 = some r) ?_ ?_
 ·refine awp_region (sys _ _ []) 24 88 hU rfl rfl ?_
  refine go_ ?_
  obtain ⟨y, hy, hg⟩ := bind_some hg
  refine ca_ (w_der_plain _ _ _ hy) ?_
  refine go_ ?_
  rcases bc_ hg with ⟨h2, hg⟩ | ⟨h2, hg⟩
  ·refine go_ ?_
   refine ch_n fun hU => ?_
   exact ⟨true, hg, sub_ [(0, 0)]⟩
  ·refine go_ ?_
   obtain ⟨y_2, hy_2, hg⟩ := bind_some hg
   refine ca_ (w_slices_ContainsFunc_byte_clo_175_0_ v.Bytes (fun x0 => g_der_AsText_c1 x0) (fun x0 y h => w_der_AsText_c1 x0 y h) _ hy_2) ?_
   refine go_ ?_
   refine ch_n fun hU => ?_
   exact ⟨y_2, hg, sub_ [(0, 0)]⟩
 ·rintro x11_1 hg
  replace hg : g_der_AsText.j1 v x11_1 = some r := hg
  show awp _ _ _ _ (mk _ _ _)
  unfold g_der_AsText.j1 at hg
  refine cg_ rfl hg (fun h5 hg => ?_) fun h5 hg => ?_
  ·refine awp_seq ?_
   refine awp_region (sys _ _ []) 1 17 mk_U rfl rfl ?_
   refine go_ ?_
   refine ch_n fun hU => ?_
   refine aw_r ?_
   obtain rfl := Option.some.inj hg
   exact fin_ [] ⟨rfl, rfl⟩
  ·refine awp_skip ?_
   repeat first | refine st_ ?_ | refine sn_ ?_
   refine sr_ 1 41 mk_U ?_
   refine go_ ?_
   refine c0_ rfl rfl (r_convS und29 und5 und9 .sl rfl) rfl rfl ?_
   refine go_ ?_
   refine ch_n fun hU => ?_
   refine aw_r ?_
   obtain rfl := Option.some.inj hg
   exact fin_ [] ⟨rfl, rfl⟩
theorem w_certificate_Reader_Text (r' : certificate_Reader) (r : ByteArray × certificate_Reader) (hg : g_certificate_Reader_Text r' = some r) : Fn Tryz.prog 103 1 [.ptr 0 0] [.box [.sl 4 (encL api_Value.enc r'.l), .val (.bool r'.Failed)] 131] (fun d' b' => d' = .val (.string r.1) ∧ b' = [.box [.sl 4 (encL api_Value.enc r.2.l), .val (.bool r.2.Failed)] 131]) := by
 unfold g_certificate_Reader_Text at hg
 refine Fn.of Tryz.func103 rfl rfl rfl fun w0 I ρ0 => ?_
 show awp _ ⟨w0, I, ρ0, 1, 1, 23⟩ _ _ _
 refine sr_ 1 9 mk_U ?_
 refine go_ ?_
 refine ch_n fun hU => ?_
 refine sr_ 9 73 hU ?_
 refine go_ ?_
 obtain ⟨y, hy, hg⟩ := bind_some hg
 refine cb_ [0] [0] [] false (w_certificate_Reader_Next _ _ hy) ?_
 obtain ⟨y_2, hy_2, hg⟩ := bind_some hg
 refine ca_ (w_der_AsText _ _ hy_2) ?_
 refine go_ ?_
 refine ch_n fun hU => ?_
 refine sr_ 73 169 hU ?_
 refine go_ ?_
 rcases bc_ hg with ⟨h3, hg⟩ | ⟨h3, hg⟩
 ·refine go_ ?_
  refine ch_n fun hU => ?_
  refine sr_ 169 185 hU ?_
  refine go_ ?_
  refine ch_n fun hU => ?_
  refine aw_r ?_
  obtain rfl := Option.some.inj hg
  exact fin_ [(0, 0)] ⟨rfl, rfl⟩
 ·refine go_ ?_
  refine ch_n fun hU => ?_
  refine sr_ 169 185 hU ?_
  refine go_ ?_
  refine ch_n fun hU => ?_
  refine aw_r ?_
  obtain rfl := Option.some.inj hg
  exact fin_ [(0, 0)] ⟨rfl, rfl⟩
theorem w_bytes_Equal (a : (List UInt8)) (b : (List UInt8)) (r : Bool) (hg : g_bytes_Equal a b = some r) : Fn Tryz.prog 176 0 [.sl 1 (encL e8 a), .sl 1 (encL e8 b)] [] (fun d' b' => d' = .val (.bool r) ∧ b' = []) := by
 unfold g_bytes_Equal at hg
 refine Fn.of Tryz.func176 rfl rfl rfl fun w0 I ρ0 => ?_
 show awp _ ⟨w0, I, ρ0, 0, 0, 10⟩ _ _ _
 refine sr_ 0 8 mk_U ?_
 refine go_ ?_
 refine ch_n fun hU => ?_
 refine sr_ 8 56 hU ?_
 refine go_ ?_
 refine c0_ rfl rfl (r_convS und29 und5 und9 .sl rfl) rfl rfl ?_
 refine go_ ?_
 refine c0_ rfl rfl (r_convS und29 und5 und9 .sl rfl) rfl rfl ?_
 refine go_ ?_
 refine ch_n fun hU => ?_
 refine aw_r ?_
 obtain rfl := Option.some.inj hg
 exact fin_ [] ⟨rfl, rfl⟩
theorem w_der_AsInt (v : api_Value) (r : Int × Int) (hg : g_der_AsInt v = some r) : Fn Tryz.prog 146 0 [.agg (api_Value.dv v)] [] (fun d' b' => d' = .tup [.val (.int .i64 r.1), .val (.int .i64 r.2)] ∧ b' = []) := by
 unfold g_der_AsInt at hg
 refine Fn.of Tryz.func146 rfl rfl rfl fun w0 I ρ0 => ?_
 show awp _ ⟨w0, I, ρ0, 0, 0, 52⟩ _ _ _
 refine sr_ 0 24 mk_U ?_
 refine go_ ?_
 refine ch_n fun hU => ?_
 refine awp_seq ?_
 refine awp_cut (ι := Bool) (fun (x21_1 : Bool) => mk [(1, .ptr 0 0), (21, .val (.bool x21_1))] [(0, .box (api_Value.dv v) 50)] 1) (fun (x21_1 : Bool) => g_der_AsInt.j1 v x21_1 = some r) ?_ ?_
 ·refine awp_region (sys _ _ []) 24 144 hU rfl rfl ?_
  refine go_ ?_
  obtain ⟨y, hy, hg⟩ := bind_some hg
  refine ca_ (w_der_plain _ _ _ hy) ?_
  refine go_ ?_
  rcases bc_ hg with ⟨h2, hg⟩ | ⟨h2, hg⟩
  ·refine go_ ?_
   refine ch_n fun hU => ?_
   exact ⟨true, hg, sub_ [(0, 0)]⟩
  ·refine go_ ?_
   rcases bc_ hg with ⟨h4, hg⟩ | ⟨h4, hg⟩
   ·refine go_ ?_
    refine ch_n fun hU => ?_
    exact ⟨true, hg, sub_ [(0, 0)]⟩
   ·refine go_ ?_
    refine ch_n fun hU => ?_
    exact ⟨decide (8 < (v.Bytes.length : Int)), hg, sub_ [(0, 0)]⟩
 ·rintro x21_1 hg
  replace hg : g_der_AsInt.j1 v x21_1 = some r := hg
  show awp _ _ _ _ (mk _ _ _)
  unfold g_der_AsInt.j1 at hg
  refine cg_ rfl hg (fun h7 hg => ?_) fun h7 hg => ?_
  ·refine awp_seq ?_
   refine awp_region (sys _ _ []) 1 17 mk_U rfl rfl ?_
   refine go_ ?_
   refine ch_n fun hU => ?_
   refine aw_r ?_
   obtain rfl := Option.some.inj hg
   exact fin_ [] ⟨rfl, rfl⟩
  ·refine awp_skip ?_
   repeat first | refine st_ ?_ | refine sn_ ?_
   refine sr_ 1 9 mk_U ?_
   refine go_ ?_
   refine ch_n fun hU => ?_
   refine awp_cut (ι := Int) (fun (n_2 : Int) => mk [(1, .ptr 0 0), (4, .val (.int .u64 n_2))] [(0, .box (api_Value.dv v) 50)] 1) (fun (n_2 : Int) => g_der_AsInt.j2 v n_2 = some r) ?_ ?_
   ·refine awp_seq ?_
    refine awp_region (sys _ _ []) 9 49 hU rfl rfl ?_
    refine go_ ?_
    obtain ⟨e, he, hg⟩ := bind_some hg
    refine go_ ?_
    refine c0_ rfl rfl (r_loadE1 ty5 (enc_cell e8_len (getI_at he) (o := 0) (c := .int .u8 (e.toNat : Int)) rfl rfl)) rfl rfl ?_
    refine go_ ?_
    refine ch_n fun hU => ?_
    refine cg_ rfl hg (fun h11 hg => ?_) fun h11 hg => ?_
    ·refine awp_region (sys _ _ []) 49 73 hU rfl rfl ?_
     refine go_ ?_
     refine c0_ rfl rfl r_notK rfl rfl ?_
     refine go_ ?_
     refine ch_n fun hU => ?_
     exact ⟨notK .u64 0, hg, sub_ [(0, 0)]⟩
    ·refine awp_skip ?_
     repeat first | refine st_ ?_ | refine sn_ ?_
     exact ⟨0, hg, sub_ [(0, 0)]⟩
   ·rintro n_2 hg
    replace hg : g_der_AsInt.j2 v n_2 = some r := hg
    show awp _ _ _ _ (mk _ _ _)
    unfold g_der_AsInt.j2 at hg
    refine awp_seq ?_
    refine sr_ 1 33 mk_U ?_
    refine go_ ?_
    refine ch_n fun hU => ?_
    refine awp_block ?_
    refine lp_ (fun ((n_3, x32_3) : Int × Int) => mk [(1, .ptr 0 0), (4, .val (.int .u64 n_3)), (30, .sl 1 (encL e8 v.Bytes)), (31, .val (.int .i64 (v.Bytes.length : Int))), (32, .val (.int .i64 x32_3))] [(0, .box (api_Value.dv v) 50)] 1) hg (sub_ [(0, 0)]) ?_
    rintro ⟨n_3, x32_3⟩ m3 o3 hg hn3
    replace hg : g_der_AsInt.l3 v n_3 x32_3 = some o3 := hg
    show awp _ _ _ _ (mk _ _ _)
    unfold g_der_AsInt.l3 at hg
    refine sr_ 1 9 mk_U ?_
    refine go_ ?_
    refine ch_n fun hU => ?_
    refine awp_seq ?_
    refine cg_ rfl hg (fun h15 hg => ?_) fun h15 hg => ?_
    ·refine awp_skip ?_
     repeat first | refine st_ ?_ | refine sn_ ?_
     refine awp_seq ?_
     refine awp_block ?_
     refine sr_ 9 33 hU ?_
     obtain ⟨e_2, he_2, hg⟩ := bind_some hg
     refine go_ ?_
     refine c0_ rfl rfl (r_loadE1 ty5 (enc_cell e8_len (getI_at he_2) (o := 0) (c := .int .u8 (e_2.toNat : Int)) rfl rfl)) rfl rfl ?_
     refine go_ ?_
     refine ch_n fun hU => ?_
     refine awp_region (sys _ _ []) 33 81 hU rfl rfl ?_
     refine go_ ?_
     obtain ⟨q, hq, hg⟩ := bind_some hg
     refine c0_ rfl rfl (r_shlK hq) rfl rfl ?_
     refine go_ ?_
     refine c0_ rfl rfl (r_convK und5 und141) rfl rfl ?_
     refine c0_ rfl rfl r_orK rfl rfl ?_
     refine go_ ?_
     refine ch_n fun hU => ?_
     refine awp_region (sys _ _ []) 81 97 hU rfl rfl ?_
     refine go_ ?_
     refine ch_n fun hU => ?_
     obtain rfl := Option.some.inj hg
     exact ⟨((orK .u64 q (IntKind.wrap .u64 (e_2.toNat : Int)), W (x32_3 + 1)), m3), Nat.lt_succ_self _, hn3, sub_ [(0, 0)]⟩
    ·refine awp_exit ?_
     repeat first | refine st_ ?_ | refine sn_ ?_
     replace hg := leave hg hn3
     refine awp_seq ?_
     refine awp_seq ?_
     refine awp_draw (sys _ _ []) (by kernel_rfl) [0, 1, 3, 7, 0, 16, 63, 127] 9 73 hU rfl rfl (by kernel_rfl) ?_
     refine go_ ?_
     refine c0_ rfl rfl (r_conv_i64 und141 und3) rfl rfl ?_
     obtain ⟨y_2, hy_2, hg⟩ := bind_some hg
     refine ca_ (w_der_Int _ _ hy_2) ?_
     refine go_ ?_
     obtain ⟨y_3, hy_3, hg⟩ := bind_some hg
     refine ca_ (w_bytes_Equal _ _ _ hy_3) ?_
     refine go_ ?_
     refine ch_n fun hU => ?_
     refine cg_ rfl hg (fun h20 hg => ?_) fun h20 hg => ?_
     ·refine awp_seq ?_
      refine awp_region (sys _ _ []) 73 89 hU rfl rfl ?_
      refine go_ ?_
      refine ch_n fun hU => ?_
      refine aw_r ?_
      obtain rfl := Option.some.inj hg
      exact fin_ [] ⟨rfl, rfl⟩
     ·refine awp_skip ?_
      repeat first | refine st_ ?_ | refine sn_ ?_
      refine sr_ 73 105 hU ?_
      refine go_ ?_
      refine c0_ rfl rfl (r_conv_i64 und141 und3) rfl rfl ?_
      refine go_ ?_
      refine ch_n fun hU => ?_
      refine aw_r ?_
      obtain rfl := Option.some.inj hg
      exact fin_ [] ⟨rfl, rfl⟩
end Go.Proofs.YtbeageaekgccgaaGreat
