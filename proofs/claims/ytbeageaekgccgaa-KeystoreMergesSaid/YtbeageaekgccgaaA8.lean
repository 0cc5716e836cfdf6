/- The program computes the plain functions. -/
import Derived.Test.YtbeageaekgccgaaT1
import Derived.Test.YtbeageaekgccgaaA2
import Derived.Test.YtbeageaekgccgaaA4
import Derived.Test.YtbeageaekgccgaaA6
import Derived.Test.YtbeageaekgccgaaA7
set_option linter.unusedVariables false
set_option linter.unusedSimpArgs false
set_option maxRecDepth 100000
set_option maxHeartbeats 1600000
namespace Go.Proofs.Ytbeageaekgccgaa
open Go.RowKit
theorem w_make_Chain_own (d : cipherplanmake_Dice) (name : ByteArray) (key : api_Use) (id : Int) (r : (List api_Certificate) × cipherplanmake_Dice) (hg : g_make_Chain d name key id = some r) : Fn Try.prog 42 1 [.ptr 0 0, .val (.string name), .agg [.val (.int .i64 key.Alg), .val (.int .i64 key.Bits)], .val (.int .i64 id)] [.box [.sl 1 (encL eI d.L), .val (.int .i64 d.At)] 48] (fun d' b' => d' = .row 1 ∧ b' = [.box [.sl 1 (encL eI r.2.L), .val (.int .i64 r.2.At)] 48, .row 64 15 (encL api_Certificate.enc r.1)]) := by
 unfold g_make_Chain at hg
 refine Fn.of Try.func42 rfl rfl rfl fun w0 I ρ0 => ?_
 show awp _ ⟨w0, I, ρ0, 1, 1, 56⟩ _ _ _
 refine sr_ 1 17 mk_U ?_
 refine go_ ?_
 refine ch_n fun hU => ?_
 refine awp_seq ?_
 refine awp_region (sys _ _ [25]) 17 49 hU rfl rfl ?_
 refine go_ ?_
 refine ch_z (rd := []) rfl rfl (r_buildFull sl34 z3 (by decide) rfl rfl rfl rfl ck3 (cs := [.int .i64 1, .int .i64 0, .int .i64 2]) (.cons .int (.cons .int (.cons .int .nil))) rfl (l := ([1, 0, 2] : List Int)) (f := eI) rfl) rfl rfl rfl ?_
 obtain ⟨y, hy, hg⟩ := bind_some hg
 refine cb_ [0] [0] [] false (w_make_Dice_Of _ _ _ hy) ?_
 refine go_ ?_
 refine ch_n fun hU => ?_
 refine sr_ 49 89 hU ?_
 refine go_ ?_
 obtain ⟨y_2, hy_2, hg⟩ := bind_some hg
 refine cb_ [0] [0] [] false (w_make_Dice_Next _ _ _ hy_2) ?_
 refine go_ ?_
 refine ch_n fun hU => ?_
 refine sr_ 89 97 hU ?_
 refine go_ ?_
 refine ch_n fun hU => ?_
 refine awp_seq ?_
 refine sr_ 97 105 hU ?_
 refine go_ ?_
 refine ch_n fun hU => ?_
 refine awp_block ?_
 refine lp_ (fun ((signer_1, issuer_1, i_1, d_1, above_1) : Int × ByteArray × Int × cipherplanmake_Dice × List api_Certificate) => mk [(0, .ptr 0 0), (1, .val (.string name)), (3, .val (.int .i64 id)), (6, .ptr 1 0), (9, .val (.int .i64 y.1)), (10, .val (.int .i64 signer_1)), (11, .val (.string issuer_1)), (12, .row 2), (13, .val (.int .i64 i_1))] [(0, .box [.sl 1 (encL eI d_1.L), .val (.int .i64 d_1.At)] 48), (1, .box [.val (.int .i64 key.Alg), .val (.int .i64 key.Bits)] 25), (2, .row 64 15 (encL api_Certificate.enc above_1))] 3) hg (sub_ [(0, 0), (1, 1)]) ?_
 rintro ⟨signer_1, issuer_1, i_1, d_1, above_1⟩ m1 o1 hg hn1
 replace hg : g_make_Chain.l1 name key id y signer_1 issuer_1 i_1 d_1 above_1 = some o1 := hg
 show awp _ _ _ _ (mk _ _ _)
 unfold g_make_Chain.l1 at hg
 refine awp_seq ?_
 refine sr_ 3 27 mk_U ?_
 refine go_ ?_
 refine ch_n fun hU => ?_
 refine cg_ rfl hg (fun h7 hg => ?_) fun h7 hg => ?_
 ·refine awp_skip ?_
  repeat first | refine st_ ?_ | refine sn_ ?_
  refine awp_seq ?_
  refine awp_block ?_
  refine sr_ 27 67 hU ?_
  refine c0_ rfl rfl (r_buildFull sl51 z9 (by decide) rfl rfl rfl rfl ck9 (cs := [.str (⟨#[99, 97]⟩ : ByteArray), .str (⟨#[99, 98]⟩ : ByteArray), .str (⟨#[99, 99]⟩ : ByteArray)]) (.cons .str (.cons .str (.cons .str .nil))) rfl (l := ([(⟨#[99, 97]⟩ : ByteArray), (⟨#[99, 98]⟩ : ByteArray), (⟨#[99, 99]⟩ : ByteArray)] : List ByteArray)) (f := eS) rfl) rfl rfl ?_
  refine go_ ?_
  obtain ⟨e, he, hg⟩ := bind_some hg
  refine go_ ?_
  refine ch_s (rd := [27]) rfl rfl (.loadR1 ty9 (enc_cell eS_len (getI_at he) (o := 0) (c := .str e) rfl rfl)) rfl rfl ?_
  refine go_ ?_
  refine ch_n fun hU => ?_
  refine sr_ 67 147 hU ?_
  refine go_ ?_
  refine c0_ rfl rfl (.build (r := [.val (.int .i64 5), .val (.int .i64 2048)]) und25 pl25 z25 (by kernel_rfl) rfl) rfl rfl ?_
  refine go_ ?_
  obtain ⟨y_3, hy_3, hg⟩ := bind_some hg
  refine cb_ [0] [0] [] false (w_make_Certificate _ _ _ _ _ _ _ _ hy_3) ?_
  refine go_ ?_
  refine ch_n fun hU => ?_
  refine sr_ 147 187 hU ?_
  refine go_ ?_
  refine c0_ rfl rfl (r_buildFull sl26 z64 (by decide) rfl rfl rfl rfl ck64 (cs := [.int .i64 y_3.1.Serial, .str y_3.1.Issuer, .str y_3.1.Subject, .int .i64 y_3.1.Key.Alg, .int .i64 y_3.1.Key.Bits, .int .i64 y_3.1.KeyId, .int .i64 y_3.1.Hash.Alg, .int .i64 y_3.1.Hash.Bits, .int .i64 y_3.1.From, .int .i64 y_3.1.To, .bool y_3.1.Authority, .int .i64 y_3.1.Path, .sl 1 (encL eS y_3.1.Names), .int .i64 y_3.1.Seal.Key, .int .i64 y_3.1.Seal.Sum]) (.cons .int (.cons .str (.cons .str (.cons .int (.cons .int (.cons .int (.cons .int (.cons .int (.cons .int (.cons .int (.cons .bool (.cons .int (.cons .sl (.cons .int (.cons .int .nil))))))))))))))) rfl (l := ([y_3.1] : List api_Certificate)) (f := api_Certificate.enc) rfl) rfl rfl ?_
  refine go_ ?_
  obtain ⟨l, hl, hg⟩ := bind_some hg
  refine ch_s (rd := [155, 2]) rfl rfl (r_append sl26 api_Certificate.enc_len .row rfl .row rfl hl rfl) rfl rfl ?_
  refine go_ ?_
  refine ch_n fun hU => ?_
  refine awp_region (sys _ _ []) 187 227 hU rfl rfl ?_
  refine go_ ?_
  refine ch_n fun hU => ?_
  refine awp_region (sys _ _ []) 227 251 hU rfl rfl ?_
  refine go_ ?_
  refine ch_n fun hU => ?_
  obtain rfl := Option.some.inj hg
  exact ⟨((W (11 + i_1), e, W (i_1 + 1), y_3.2, l), m1), Nat.lt_succ_self _, hn1, sub_ [(0, 0), (1, 1), (2, 171)]⟩
 ·refine awp_exit ?_
  repeat first | refine st_ ?_ | refine sn_ ?_
  replace hg := leave hg hn1
  refine sr_ 27 115 hU ?_
  refine go_ ?_
  obtain ⟨y_4, hy_4, hg⟩ := bind_some hg
  refine cb_ [0] [0] [] false (w_make_Certificate _ _ _ _ _ _ _ _ hy_4) ?_
  refine c0_ rfl rfl (r_buildFull sl26 z64 (by decide) rfl rfl rfl rfl ck64 (cs := [.int .i64 y_4.1.Serial, .str y_4.1.Issuer, .str y_4.1.Subject, .int .i64 y_4.1.Key.Alg, .int .i64 y_4.1.Key.Bits, .int .i64 y_4.1.KeyId, .int .i64 y_4.1.Hash.Alg, .int .i64 y_4.1.Hash.Bits, .int .i64 y_4.1.From, .int .i64 y_4.1.To, .bool y_4.1.Authority, .int .i64 y_4.1.Path, .sl 1 (encL eS y_4.1.Names), .int .i64 y_4.1.Seal.Key, .int .i64 y_4.1.Seal.Sum]) (.cons .int (.cons .str (.cons .str (.cons .int (.cons .int (.cons .int (.cons .int (.cons .int (.cons .int (.cons .int (.cons .bool (.cons .int (.cons .sl (.cons .int (.cons .int .nil))))))))))))))) rfl (l := ([y_4.1] : List api_Certificate)) (f := api_Certificate.enc) rfl) rfl rfl ?_
  refine go_ ?_
  obtain ⟨l_2, hl_2, hg⟩ := bind_some hg
  refine ch_s (rd := [83, 2]) rfl rfl (r_append sl26 api_Certificate.enc_len .row rfl .row rfl hl_2 rfl) rfl rfl ?_
  refine go_ ?_
  refine ch_n fun hU => ?_
  refine aw_r ?_
  obtain rfl := Option.some.inj hg
  exact fin_ [(0, 0), (1, 99)] ⟨rfl, rfl⟩
theorem w_make_Entry (d : cipherplanmake_Dice) (alias : ByteArray) (name : ByteArray) (id : Int) (r : api_Entry × cipherplanmake_Dice) (hg : g_make_Entry d alias name id = some r) : Fn Try.prog 25 1 [.ptr 0 0, .val (.string alias), .val (.string name), .val (.int .i64 id)] [.box [.sl 1 (encL eI d.L), .val (.int .i64 d.At)] 48] (fun d' b' => d' = .agg (api_Entry.dv r.1) ∧ b' = [.box [.sl 1 (encL eI r.2.L), .val (.int .i64 r.2.At)] 48]) := by
 unfold g_make_Entry at hg
 refine Fn.of Try.func25 rfl rfl rfl fun w0 I ρ0 => ?_
 show awp _ ⟨w0, I, ρ0, 1, 1, 28⟩ _ _ _
 refine sr_ 1 9 mk_U ?_
 refine go_ ?_
 refine ch_n fun hU => ?_
 refine sr_ 9 81 hU ?_
 refine go_ ?_
 obtain ⟨y, hy, hg⟩ := bind_some hg
 refine cb_ [0] [0] [] false (w_make_Key _ _ hy) ?_
 refine go_ ?_
 obtain ⟨y_2, hy_2, hg⟩ := bind_some hg
 refine cb_ [0] [0] [] false (w_make_Dice_One _ _ _ hy_2) ?_
 refine c0_ rfl rfl (.build (r := [.val (.string alias), .val (.int .i64 y.1.Alg), .val (.int .i64 y.1.Bits), .val (.int .i64 id), .val (.bool y_2.1), .val (.slice none 0 0)]) und28 pl28 z28 (by kernel_rfl) rfl) rfl rfl ?_
 refine go_ ?_
 refine ch_n fun hU => ?_
 refine awp_cut (ι := cipherplanmake_Dice × List api_Certificate) (fun ((b_1, l_1) : cipherplanmake_Dice × List api_Certificate) => mk [(8, .ptr 1 0), (9, .ptr 2 0)] [(0, .box [.sl 1 (encL eI b_1.L), .val (.int .i64 b_1.At)] 48), (1, .box [.val (.string (⟨#[]⟩ : ByteArray)), .val (.int .i64 0), .val (.int .i64 0), .val (.int .i64 0), .val (.bool false), .val (.slice none 0 0)] 28), (2, .box [.val (.string alias), .val (.int .i64 y.1.Alg), .val (.int .i64 y.1.Bits), .val (.int .i64 id), .val (.bool y_2.1), .row 3] 28), (3, .row 64 15 (encL api_Certificate.enc l_1))] 4) (fun ((b_1, l_1) : cipherplanmake_Dice × List api_Certificate) => g_make_Entry.j1 alias id y y_2 b_1 l_1 = some r) ?_ ?_
 ·refine awp_seq ?_
  refine awp_region (sys _ _ []) 81 105 hU rfl rfl ?_
  refine go_ ?_
  obtain ⟨y_3, hy_3, hg⟩ := bind_some hg
  refine cb_ [0] [0] [] false (w_make_Dice_One _ _ _ hy_3) ?_
  refine go_ ?_
  refine ch_n fun hU => ?_
  refine cg_ rfl hg (fun h4 hg => ?_) fun h4 hg => ?_
  ·refine awp_region (sys _ _ []) 105 169 hU rfl rfl ?_
   refine go_ ?_
   obtain ⟨y_4, hy_4, hg⟩ := bind_some hg
   refine ch_call (rd := [0]) (ps := [0]) (gs := []) false rfl (w_make_Chain_own _ _ _ _ _ hy_4) rfl rfl (.cons (.ptr rfl) (.cons .val (.cons (.agg (.cons .val (.cons .val .nil))) (.cons .val .nil)))) ⟨_, _, _, rfl, .head _, ⟨_, rfl, (by repeat' (first | exact AgL.nil | apply AgL.cons | exact Ag.val | exact Ag.sl | exact Ag.nils | exact Ag.ptr rfl))⟩, rfl⟩ rfl (by intro h; cases h) rfl (by intro h; first | (cases h; done) | exact ⟨_, _, ⟨rfl, rfl⟩, by simp, by simp⟩) ?_
   rintro _ _ ⟨rfl, rfl⟩
   refine go_ ?_
   refine ch_n fun hU => ?_
   exact ⟨(y_4.2, y_4.1), hg, sub_ [(0, 0), (1, 1), (2, 65), (3, 145)]⟩
  ·refine awp_skip ?_
   repeat first | refine st_ ?_ | refine sn_ ?_
   exact ⟨(y_3.2, ([] : List api_Certificate)), hg, sub_ [(0, 0), (1, 1), (2, 65)]⟩
 ·rintro ⟨b_1, l_1⟩ hg
  replace hg : g_make_Entry.j1 alias id y y_2 b_1 l_1 = some r := hg
  show awp _ _ _ _ (mk _ _ _)
  unfold g_make_Entry.j1 at hg
  refine sr_ 4 20 mk_U ?_
  refine go_ ?_
  refine ch_n fun hU => ?_
  refine aw_r ?_
  obtain rfl := Option.some.inj hg
  exact fin_ [(0, 0)] ⟨rfl, rfl⟩
theorem w_make_Store (d : cipherplanmake_Dice) (name : ByteArray) (r : (List api_Entry) × cipherplanmake_Dice) (hg : g_make_Store d name = some r) : Fn Try.prog 13 1 [.ptr 0 0, .val (.string name)] [.box [.sl 1 (encL eI d.L), .val (.int .i64 d.At)] 48] (fun d' b' => d' = .sl 6 (encL api_Entry.enc r.1) ∧ b' = [.box [.sl 1 (encL eI r.2.L), .val (.int .i64 r.2.At)] 48]) := by
 unfold g_make_Store at hg
 refine Fn.of Try.func13 rfl rfl rfl fun w0 I ρ0 => ?_
 show awp _ ⟨w0, I, ρ0, 1, 1, 34⟩ _ _ _
 refine sr_ 1 9 mk_U ?_
 refine go_ ?_
 refine ch_n fun hU => ?_
 refine sr_ 9 17 hU ?_
 refine go_ ?_
 refine ch_n fun hU => ?_
 refine awp_seq ?_
 refine sr_ 17 49 hU ?_
 refine go_ ?_
 obtain ⟨y, hy, hg⟩ := bind_some hg
 refine cb_ [0] [0] [] false (w_make_Dice_Next _ _ _ hy) ?_
 refine go_ ?_
 refine ch_n fun hU => ?_
 refine awp_block ?_
 refine lp_ (fun ((i_1, d_1, l_1) : Int × cipherplanmake_Dice × List api_Entry) => mk [(0, .ptr 0 0), (1, .val (.string name)), (5, .row 1), (6, .val (.int .i64 i_1))] [(0, .box [.sl 1 (encL eI d_1.L), .val (.int .i64 d_1.At)] 48), (1, .row 28 6 (encL api_Entry.enc l_1))] 2) hg (sub_ [(0, 0)]) ?_
 rintro ⟨i_1, d_1, l_1⟩ m1 o1 hg hn1
 replace hg : g_make_Store.l1 name i_1 d_1 l_1 = some o1 := hg
 show awp _ _ _ _ (mk _ _ _)
 unfold g_make_Store.l1 at hg
 refine awp_seq ?_
 refine sr_ 2 18 mk_U ?_
 refine go_ ?_
 refine ch_n fun hU => ?_
 refine cg_ rfl hg (fun h5 hg => ?_) fun h5 hg => ?_
 ·refine awp_skip ?_
  repeat first | refine st_ ?_ | refine sn_ ?_
  refine awp_seq ?_
  refine awp_block ?_
  refine sr_ 18 42 hU ?_
  refine go_ ?_
  refine ch_n fun hU => ?_
  refine awp_draw (sys _ _ []) (by kernel_rfl) [0, 0, 0, 0, 12, 28, 0, 0, 128, 0, 512, 1536, 3968, 8190, 16382, 32767, 65535] 42 178 hU rfl rfl (by kernel_rfl) ?_
  refine go_ ?_
  refine c0_ rfl rfl (r_buildFull sl51 z9 (by decide) rfl rfl rfl rfl ck9 (cs := [.str (⟨#[107, 49]⟩ : ByteArray), .str (⟨#[107, 50]⟩ : ByteArray), .str (⟨#[107, 51]⟩ : ByteArray), .str (⟨#[107, 52]⟩ : ByteArray)]) (.cons .str (.cons .str (.cons .str (.cons .str .nil)))) rfl (l := ([(⟨#[107, 49]⟩ : ByteArray), (⟨#[107, 50]⟩ : ByteArray), (⟨#[107, 51]⟩ : ByteArray), (⟨#[107, 52]⟩ : ByteArray)] : List ByteArray)) (f := eS) rfl) rfl rfl ?_
  refine go_ ?_
  obtain ⟨e, he, hg⟩ := bind_some hg
  refine go_ ?_
  refine ch_s (rd := [58]) rfl rfl (.loadR1 ty9 (enc_cell eS_len (getI_at he) (o := 0) (c := .str e) rfl rfl)) rfl rfl ?_
  refine go_ ?_
  obtain ⟨y_2, hy_2, hg⟩ := bind_some hg
  refine cb_ [0] [0] [] false (w_make_Dice_Next _ _ _ hy_2) ?_
  refine go_ ?_
  obtain ⟨y_3, hy_3, hg⟩ := bind_some hg
  refine cb_ [0] [0] [] false (w_make_Entry _ _ _ _ _ hy_3) ?_
  refine c0_ rfl rfl (r_buildFull sl22 z28 (by decide) rfl rfl rfl rfl ck28 (cs := [.str y_3.1.Alias, .int .i64 y_3.1.Key.Alg, .int .i64 y_3.1.Key.Bits, .int .i64 y_3.1.KeyId, .bool y_3.1.Secret, .sl 15 (encL api_Certificate.enc y_3.1.Chain)]) (.cons .str (.cons .int (.cons .int (.cons .int (.cons .bool (.cons .sl .nil)))))) rfl (l := ([y_3.1] : List api_Entry)) (f := api_Entry.enc) rfl) rfl rfl ?_
  obtain ⟨l, hl, hg⟩ := bind_some hg
  refine ch_s (rd := [1, 154]) rfl rfl (r_append sl22 api_Entry.enc_len .row rfl .row rfl hl rfl) rfl rfl ?_
  refine go_ ?_
  refine ch_n fun hU => ?_
  refine awp_region (sys _ _ []) 178 202 hU rfl rfl ?_
  refine go_ ?_
  refine ch_n fun hU => ?_
  obtain rfl := Option.some.inj hg
  exact ⟨((W (i_1 - 1), y_3.2, l), m1), Nat.lt_succ_self _, hn1, sub_ [(0, 0), (1, 162)]⟩
 ·refine awp_exit ?_
  repeat first | refine st_ ?_ | refine sn_ ?_
  replace hg := leave hg hn1
  refine sr_ 18 34 hU ?_
  refine go_ ?_
  refine ch_n fun hU => ?_
  refine aw_r ?_
  obtain rfl := Option.some.inj hg
  exact fin_ [(0, 0)] ⟨rfl, rfl⟩
theorem w_law05_KeystoreMerges (l : (List Int)) (r : Bool) (hg : g_law05_KeystoreMerges l = some r) : Fn Try.prog 4 0 [.sl 1 (encL eI l)] [] (fun d' b' => d' = .val (.bool r) ∧ b' = []) := by
 unfold g_law05_KeystoreMerges at hg
 refine Fn.of Try.func4 rfl rfl rfl fun w0 I ρ0 => ?_
 show awp _ ⟨w0, I, ρ0, 0, 0, 128⟩ _ _ _
 refine sr_ 0 8 mk_U ?_
 refine go_ ?_
 refine ch_n fun hU => ?_
 refine awp_seq ?_
 refine sr_ 8 32 hU ?_
 refine go_ ?_
 obtain ⟨y, hy, hg⟩ := bind_some hg
 refine ca_ (w_make_Light _ _ hy) ?_
 refine go_ ?_
 refine ch_n fun hU => ?_
 refine cg_ rfl hg (fun h3 hg => ?_) fun h3 hg => ?_
 ·refine awp_seq ?_
  refine awp_region (sys _ _ []) 32 48 hU rfl rfl ?_
  obtain ⟨y_2, hy_2, hg⟩ := bind_some hg
  refine ca_ (w_law05_awake _ hy_2) ?_
  refine go_ ?_
  refine ch_n fun hU => ?_
  refine aw_r ?_
  obtain rfl := Option.some.inj hg
  exact fin_ [] ⟨rfl, rfl⟩
 ·refine awp_skip ?_
  repeat first | refine st_ ?_ | refine sn_ ?_
  refine sr_ 32 56 hU ?_
  refine go_ ?_
  obtain ⟨y_3, hy_3, hg⟩ := bind_some hg
  refine ch_call (rd := []) (ps := []) (gs := []) false rfl (w_make_Roll _ _ hy_3) rfl rfl (.cons .sl .nil) rfl rfl (by intro h; cases h) rfl (by intro h; first | (cases h; done) | exact ⟨_, _, ⟨rfl, rfl⟩, by simp, by simp⟩) ?_
  rintro _ _ ⟨rfl, rfl⟩
  refine go_ ?_
  refine ch_n fun hU => ?_
  refine awp_seq ?_
  refine awp_draw (sys _ _ []) (by kernel_rfl) [0, 1, 0, 7, 15, 0, 47, 111, 255, 511] 56 136 hU rfl rfl (by kernel_rfl) ?_
  refine go_ ?_
  obtain ⟨y_4, hy_4, hg⟩ := bind_some hg
  refine cb_ [40] [40] [] false (w_make_Store _ _ _ hy_4) ?_
  refine go_ ?_
  obtain ⟨y_5, hy_5, hg⟩ := bind_some hg
  refine cb_ [40] [40] [] false (w_make_Store _ _ _ hy_5) ?_
  obtain ⟨l_2, hl_2, hg⟩ := bind_some hg
  refine c0_ rfl rfl (r_sliS_lo sl22 api_Entry.enc_len hl_2) rfl rfl ?_
  refine go_ ?_
  obtain ⟨y_6, hy_6, hg⟩ := bind_some hg
  refine cb_ [40] [40] [] false (w_make_Store _ _ _ hy_6) ?_
  refine go_ ?_
  refine ch_n fun hU => ?_
  refine sr_ 136 200 hU ?_
  refine go_ ?_
  obtain ⟨y_7, hy_7, hg⟩ := bind_some hg
  refine ca_ (w_keystore_Merge _ _ _ hy_7) ?_
  refine go_ ?_
  refine ch_n fun hU => ?_
  refine sr_ 200 264 hU ?_
  refine go_ ?_
  obtain ⟨y_8, hy_8, hg⟩ := bind_some hg
  refine ca_ (w_keystore_Merge _ _ _ hy_8) ?_
  refine go_ ?_
  refine ch_n fun hU => ?_
  refine sr_ 264 328 hU ?_
  refine go_ ?_
  obtain ⟨y_9, hy_9, hg⟩ := bind_some hg
  refine ca_ (w_keystore_Merge _ _ _ hy_9) ?_
  refine go_ ?_
  refine ch_n fun hU => ?_
  refine sr_ 328 392 hU ?_
  refine go_ ?_
  obtain ⟨y_10, hy_10, hg⟩ := bind_some hg
  refine ca_ (w_keystore_Merge _ _ _ hy_10) ?_
  refine go_ ?_
  refine ch_n fun hU => ?_
  refine sr_ 392 456 hU ?_
  refine go_ ?_
  obtain ⟨y_11, hy_11, hg⟩ := bind_some hg
  refine ca_ (w_keystore_Merge _ _ _ hy_11) ?_
  refine go_ ?_
  refine ch_n fun hU => ?_
  refine awp_seq ?_
  refine awp_cut (ι := Bool) (fun (x92_1 : Bool) => mk [(5, .sl 6 (encL api_Entry.enc l_2)), (7, .sl 6 (encL api_Entry.enc y_7.1)), (11, .sl 6 (encL api_Entry.enc y_9.1)), (92, .val (.bool x92_1))] [] 0) (fun (x92_1 : Bool) => g_law05_KeystoreMerges.j1 l_2 y_7 y_9 x92_1 = some r) ?_ ?_
  ·refine awp_region (sys _ _ []) 456 696 hU rfl rfl ?_
   refine go_ ?_
   rcases bc_ hg with ⟨h12, hg⟩ | ⟨h12, hg⟩
   ·refine go_ ?_
    refine ch_n fun hU => ?_
    exact ⟨true, hg, sub_ []⟩
   ·refine go_ ?_
    rcases bc_ hg with ⟨h14, hg⟩ | ⟨h14, hg⟩
    ·refine go_ ?_
     refine ch_n fun hU => ?_
     exact ⟨true, hg, sub_ []⟩
    ·refine go_ ?_
     rcases bc_ hg with ⟨h16, hg⟩ | ⟨h16, hg⟩
     ·refine go_ ?_
      refine ch_n fun hU => ?_
      exact ⟨true, hg, sub_ []⟩
     ·refine go_ ?_
      rcases bc_ hg with ⟨h18, hg⟩ | ⟨h18, hg⟩
      ·refine go_ ?_
       refine ch_n fun hU => ?_
       exact ⟨true, hg, sub_ []⟩
      ·refine go_ ?_
       rcases bc_ hg with ⟨h20, hg⟩ | ⟨h20, hg⟩
       ·refine go_ ?_
        refine ch_n fun hU => ?_
        exact ⟨true, hg, sub_ []⟩
       ·refine go_ ?_
        obtain ⟨y_12, hy_12, hg⟩ := bind_some hg
        refine ca_ (w_ref05_Same _ _ _ hy_12) ?_
        refine go_ ?_
        rcases bc_ hg with ⟨h22, hg⟩ | ⟨h22, hg⟩
        ·refine go_ ?_
         refine ch_n fun hU => ?_
         exact ⟨true, hg, sub_ []⟩
        ·refine go_ ?_
         obtain ⟨y_13, hy_13, hg⟩ := bind_some hg
         refine ca_ (w_ref05_Same _ _ _ hy_13) ?_
         refine go_ ?_
         refine ch_n fun hU => ?_
         exact ⟨!y_13, hg, sub_ []⟩
  ·rintro x92_1 hg
   replace hg : g_law05_KeystoreMerges.j1 l_2 y_7 y_9 x92_1 = some r := hg
   show awp _ _ _ _ (mk _ _ _)
   unfold g_law05_KeystoreMerges.j1 at hg
   refine cg_ rfl hg (fun h25 hg => ?_) fun h25 hg => ?_
   ·refine awp_seq ?_
    refine awp_region (sys _ _ []) 0 8 mk_U rfl rfl ?_
    refine go_ ?_
    refine ch_n fun hU => ?_
    refine aw_r ?_
    obtain rfl := Option.some.inj hg
    exact fin_ [] ⟨rfl, rfl⟩
   ·refine awp_skip ?_
    repeat first | refine st_ ?_ | refine sn_ ?_
    refine awp_seq ?_
    refine sr_ 0 8 mk_U ?_
    refine go_ ?_
    refine ch_n fun hU => ?_
    refine awp_block ?_
    refine lp_ (fun (k_2 : Int) => mk [(5, .sl 6 (encL api_Entry.enc l_2)), (7, .sl 6 (encL api_Entry.enc y_7.1)), (11, .sl 6 (encL api_Entry.enc y_9.1)), (17, .val (.int .i64 k_2))] [] 0) hg (sub_ []) ?_
    rintro k_2 m2 o2 hg hn2
    replace hg : g_law05_KeystoreMerges.l2 l_2 y_7 y_9 k_2 = some o2 := hg
    show awp _ _ _ _ (mk _ _ _)
    unfold g_law05_KeystoreMerges.l2 at hg
    refine awp_seq ?_
    refine sr_ 0 32 mk_U ?_
    refine go_ ?_
    refine ch_n fun hU => ?_
    refine cg_ rfl hg (fun h29 hg => ?_) fun h29 hg => ?_
    ·refine awp_skip ?_
     repeat first | refine st_ ?_ | refine sn_ ?_
     refine awp_seq ?_
     refine awp_block ?_
     refine sr_ 32 136 hU ?_
     refine go_ ?_
     obtain ⟨e, he, hg⟩ := bind_some hg
     refine go_ ?_
     refine c0_ rfl rfl (r_fieldE fd28_0 ty9 (by decide) (enc_lt api_Entry.enc_len (getI_at he) (o := 0) (by decide) rfl)) rfl rfl ?_
     refine c0_ rfl rfl (r_loadE1 ty9 (enc_cell api_Entry.enc_len (getI_at he) (o := 0) (c := .str e.Alias) rfl rfl)) rfl rfl ?_
     obtain ⟨y_14, hy_14, hg⟩ := bind_some hg
     refine ca_ (w_keystore_Find _ _ _ hy_14) ?_
     refine go_ ?_
     refine ch_n fun hU => ?_
     refine awp_cut (ι := Bool) (fun (x121_3 : Bool) => mk [(5, .sl 6 (encL api_Entry.enc l_2)), (7, .sl 6 (encL api_Entry.enc y_7.1)), (11, .sl 6 (encL api_Entry.enc y_9.1)), (17, .val (.int .i64 k_2)), (121, .val (.bool x121_3))] [] 0) (fun (x121_3 : Bool) => g_law05_KeystoreMerges.j3 k_2 x121_3 = some o2) ?_ ?_
     ·refine awp_draw (sys _ _ []) (by kernel_rfl) [0, 1, 3, 7, 15, 7, 7, 7, 135, 487, 1023, 2047, 4095] 136 240 hU rfl rfl (by kernel_rfl) ?_
      refine go_ ?_
      rcases bc_ hg with ⟨h31, hg⟩ | ⟨h31, hg⟩
      ·refine go_ ?_
       refine ch_n fun hU => ?_
       exact ⟨true, hg, sub_ []⟩
      ·refine go_ ?_
       refine c0_ (gdv_t rfl rfl h31) rfl (r_buildFull sl22 z28 (by decide) rfl rfl rfl rfl ck28 (cs := [.str y_14.1.Alias, .int .i64 y_14.1.Key.Alg, .int .i64 y_14.1.Key.Bits, .int .i64 y_14.1.KeyId, .bool y_14.1.Secret, .sl 15 (encL api_Certificate.enc y_14.1.Chain)]) (.cons .str (.cons .int (.cons .int (.cons .int (.cons .bool (.cons .sl .nil)))))) rfl (l := ([y_14.1] : List api_Entry)) (f := api_Entry.enc) rfl) rfl rfl ?_
       refine go_ ?_
       obtain ⟨l_3, hl_3, hg⟩ := bind_some hg
       refine c0_ (gdv_t rfl rfl h31) rfl (r_sliS sl22 api_Entry.enc_len hl_3) rfl rfl ?_
       obtain ⟨y_15, hy_15, hg⟩ := bind_some hg
       refine cb_ [168] [] [] true (w_ref05_Same _ _ _ hy_15) ?_
       refine go_ ?_
       refine ch_n fun hU => ?_
       exact ⟨!y_15, hg, sub_ []⟩
     ·rintro x121_3 hg
      replace hg : g_law05_KeystoreMerges.j3 k_2 x121_3 = some o2 := hg
      show awp _ _ _ _ (mk _ _ _)
      unfold g_law05_KeystoreMerges.j3 at hg
      refine cg_ rfl hg (fun h34 hg => ?_) fun h34 hg => ?_
      ·refine awp_seq ?_
       refine awp_region (sys _ _ []) 0 8 mk_U rfl rfl ?_
       refine go_ ?_
       refine ch_n fun hU => ?_
       refine aw_r ?_
       replace hg := leave hg hn2
       obtain rfl := Option.some.inj hg
       exact fin_ [] ⟨rfl, rfl⟩
      ·refine awp_skip ?_
       repeat first | refine st_ ?_ | refine sn_ ?_
       refine awp_region (sys _ _ []) 0 24 mk_U rfl rfl ?_
       refine go_ ?_
       refine ch_n fun hU => ?_
       obtain rfl := Option.some.inj hg
       exact ⟨(W (k_2 + 1), m2), Nat.lt_succ_self _, hn2, sub_ []⟩
    ·refine awp_exit ?_
     repeat first | refine st_ ?_ | refine sn_ ?_
     replace hg := leave hg hn2
     refine sr_ 32 88 hU ?_
     refine go_ ?_
     obtain ⟨y_16, hy_16, hg⟩ := bind_some hg
     refine ca_ (w_keystore_Check _ _ hy_16) ?_
     refine go_ ?_
     rcases bc_ hg with ⟨h37, hg⟩ | ⟨h37, hg⟩
     ·obtain ⟨y_17, hy_17, hg⟩ := bind_some hg
      refine ca_ (w_law05_awake _ hy_17) ?_
      refine go_ ?_
      refine ch_n fun hU => ?_
      refine aw_r ?_
      obtain rfl := Option.some.inj hg
      exact fin_ [] ⟨rfl, rfl⟩
     ·refine go_ ?_
      refine ch_n fun hU => ?_
      refine aw_r ?_
      obtain rfl := Option.some.inj hg
      exact fin_ [] ⟨rfl, rfl⟩
end Go.Proofs.Ytbeageaekgccgaa
