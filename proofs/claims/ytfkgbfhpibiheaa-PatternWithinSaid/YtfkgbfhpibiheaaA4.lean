/- The program computes the plain functions. -/
import Derived.Test.YtfkgbfhpibiheaaT1
import Derived.Test.YtfkgbfhpibiheaaA1
import Derived.Test.YtfkgbfhpibiheaaA3
set_option linter.unusedVariables false
set_option linter.unusedSimpArgs false
set_option maxRecDepth 100000
set_option maxHeartbeats 1600000
namespace Go.Proofs.Ytfkgbfhpibiheaa
open Go.RowKit
theorem w_ref02_SameInts (a : (List Int)) (b : (List Int)) (r : Bool) (hg : g_ref02_SameInts a b = some r) : Fn Try.prog 20 0 [.sl 1 (encL eI a), .sl 1 (encL eI b)] [] (fun d' b' => d' = .val (.bool r) ∧ b' = []) := by
 unfold g_ref02_SameInts at hg
 refine Fn.of Try.func20 rfl rfl rfl fun w0 I ρ0 => ?_
 show awp _ ⟨w0, I, ρ0, 0, 0, 26⟩ _ _ _
 refine sr_ 0 8 mk_U ?_
 refine go_ ?_
 refine ch_n fun hU => ?_
 refine awp_seq ?_
 refine sr_ 8 48 hU ?_
 refine go_ ?_
 refine ch_n fun hU => ?_
 refine cg_ rfl hg (fun h3 hg => ?_) fun h3 hg => ?_
 ·refine awp_seq ?_
  refine awp_region (sys _ _ []) 48 56 hU rfl rfl ?_
  refine go_ ?_
  refine ch_n fun hU => ?_
  refine aw_r ?_
  obtain rfl := Option.some.inj hg
  exact fin_ [] ⟨rfl, rfl⟩
 ·refine awp_skip ?_
  repeat first | refine st_ ?_ | refine sn_ ?_
  refine awp_seq ?_
  refine sr_ 48 56 hU ?_
  refine go_ ?_
  refine ch_n fun hU => ?_
  refine awp_block ?_
  refine lp_ (fun (i_1 : Int) => mk [(0, .sl 1 (encL eI a)), (1, .sl 1 (encL eI b)), (5, .val (.int .i64 i_1))] [] 0) hg (sub_ []) ?_
  rintro i_1 m1 o1 hg hn1
  replace hg : g_ref02_SameInts.l1 a b i_1 = some o1 := hg
  show awp _ _ _ _ (mk _ _ _)
  unfold g_ref02_SameInts.l1 at hg
  refine awp_seq ?_
  refine sr_ 0 32 mk_U ?_
  refine go_ ?_
  refine ch_n fun hU => ?_
  refine cg_ rfl hg (fun h7 hg => ?_) fun h7 hg => ?_
  ·refine awp_skip ?_
   repeat first | refine st_ ?_ | refine sn_ ?_
   refine awp_seq ?_
   refine awp_block ?_
   refine awp_seq ?_
   refine awp_draw (sys _ _ []) (by kernel_rfl) [0, 0, 3, 7, 0, 0, 48, 112, 255] 32 104 hU rfl rfl (by kernel_rfl) ?_
   refine go_ ?_
   obtain ⟨e, he, hg⟩ := bind_some hg
   refine go_ ?_
   refine c0_ rfl rfl (r_loadE1 ty3 (enc_cell eI_len (getI_at he) (o := 0) (c := .int .i64 e) rfl rfl)) rfl rfl ?_
   refine go_ ?_
   obtain ⟨e_2, he_2, hg⟩ := bind_some hg
   refine go_ ?_
   refine c0_ rfl rfl (r_loadE1 ty3 (enc_cell eI_len (getI_at he_2) (o := 0) (c := .int .i64 e_2) rfl rfl)) rfl rfl ?_
   refine go_ ?_
   refine ch_n fun hU => ?_
   refine cg_ rfl hg (fun h9 hg => ?_) fun h9 hg => ?_
   ·refine awp_seq ?_
    refine awp_region (sys _ _ []) 104 112 hU rfl rfl ?_
    refine go_ ?_
    refine ch_n fun hU => ?_
    refine aw_r ?_
    replace hg := leave hg hn1
    obtain rfl := Option.some.inj hg
    exact fin_ [] ⟨rfl, rfl⟩
   ·refine awp_skip ?_
    repeat first | refine st_ ?_ | refine sn_ ?_
    refine awp_region (sys _ _ []) 104 128 hU rfl rfl ?_
    refine go_ ?_
    refine ch_n fun hU => ?_
    obtain rfl := Option.some.inj hg
    exact ⟨(W (i_1 + 1), m1), Nat.lt_succ_self _, hn1, sub_ []⟩
  ·refine awp_exit ?_
   repeat first | refine st_ ?_ | refine sn_ ?_
   replace hg := leave hg hn1
   refine sr_ 32 40 hU ?_
   refine go_ ?_
   refine ch_n fun hU => ?_
   refine aw_r ?_
   obtain rfl := Option.some.inj hg
   exact fin_ [] ⟨rfl, rfl⟩
theorem w_law11_awake  (r : Bool) (hg : g_law11_awake = some r) : Fn Try.prog 9 0 [] [] (fun d' b' => d' = .val (.bool r) ∧ b' = []) := by
 unfold g_law11_awake at hg
 refine Fn.of Try.func9 rfl rfl rfl fun w0 I ρ0 => ?_
 show awp _ ⟨w0, I, ρ0, 0, 0, 48⟩ _ _ _
 refine sr_ 0 8 mk_U ?_
 refine go_ ?_
 refine ch_n fun hU => ?_
 refine sr_ 8 32 hU ?_
 refine c0_ rfl rfl (.build (r := [.val (.int .i64 1), .val (.int .i64 0)]) und43 pl43 z43 (by kernel_rfl) rfl) rfl rfl ?_
 refine go_ ?_
 refine ch_n fun hU => ?_
 refine awp_seq ?_
 refine awp_region (sys _ _ [96]) 32 168 hU rfl rfl ?_
 refine go_ ?_
 refine c0_ rfl rfl (r_buildFull sl27 z5 (by decide) rfl rfl rfl rfl ck5 (cs := [.int .u8 97, .int .u8 98, .int .u8 97]) (.cons .int (.cons .int (.cons .int .nil))) rfl (l := ([(97 : UInt8), (98 : UInt8), (97 : UInt8)] : List UInt8)) (f := e8) rfl) rfl rfl ?_
 refine ch_x (rd := [40]) rfl rfl (.mark und27 und5 (Nat.le_of_ble_eq_true rfl) (.head _) rfl) rfl rfl (fun _ => ⟨_, rfl⟩) ?_
 rintro _ rfl
 refine c0_ rfl rfl (.build (r := [.val (.int .i64 1), .val (.int .i64 0), .sl 1 (encL e8 ([(97 : UInt8), (98 : UInt8), (97 : UInt8)] : List UInt8))]) und45 pl45 z45 (by kernel_rfl) rfl) rfl rfl ?_
 refine go_ ?_
 refine c0_ rfl rfl (r_buildFull sl27 z5 (by decide) rfl rfl rfl rfl ck5 (cs := [.int .u8 98]) (.cons .int .nil) rfl (l := ([(98 : UInt8)] : List UInt8)) (f := e8) rfl) rfl rfl ?_
 refine ch_x (rd := [72]) rfl rfl (.mark und27 und5 (Nat.le_of_ble_eq_true rfl) (.head _) rfl) rfl rfl (fun _ => ⟨_, rfl⟩) ?_
 rintro _ rfl
 refine c0_ rfl rfl (.build (r := [.val (.int .i64 1), .val (.int .i64 0), .sl 1 (encL e8 ([(98 : UInt8)] : List UInt8))]) und45 pl45 z45 (by kernel_rfl) rfl) rfl rfl ?_
 refine ch_z (rd := []) rfl rfl (r_buildFull sl30 z45 (by decide) rfl rfl rfl rfl ck45 (cs := [.int .i64 1, .int .i64 0, .sl 1 (encL e8 ([(97 : UInt8), (98 : UInt8), (97 : UInt8)] : List UInt8)), .int .i64 1, .int .i64 0, .sl 1 (encL e8 ([(98 : UInt8)] : List UInt8))]) (.cons .int (.cons .int (.cons .sl (.cons .int (.cons .int (.cons .sl .nil)))))) rfl (l := ([(api_Pattern.mk (api_Use.mk 1 0) ([(97 : UInt8), (98 : UInt8), (97 : UInt8)] : List UInt8)), (api_Pattern.mk (api_Use.mk 1 0) ([(98 : UInt8)] : List UInt8))] : List api_Pattern)) (f := api_Pattern.enc) rfl) rfl rfl rfl ?_
 refine c0_ rfl rfl (r_buildFull sl27 z5 (by decide) rfl rfl rfl rfl ck5 (cs := [.int .u8 97, .int .u8 98, .int .u8 97, .int .u8 98, .int .u8 97]) (.cons .int (.cons .int (.cons .int (.cons .int (.cons .int .nil))))) rfl (l := ([(97 : UInt8), (98 : UInt8), (97 : UInt8), (98 : UInt8), (97 : UInt8)] : List UInt8)) (f := e8) rfl) rfl rfl ?_
 refine ch_x (rd := [104]) rfl rfl (.mark und27 und5 (Nat.le_of_ble_eq_true rfl) (.head _) rfl) rfl rfl (fun _ => ⟨_, rfl⟩) ?_
 rintro _ rfl
 obtain ⟨y, hy, hg⟩ := bind_some hg
 refine ca_ (w_pattern_Find _ _ _ hy) ?_
 refine go_ ?_
 refine ch_n fun hU => ?_
 refine sr_ 168 400 hU ?_
 refine go_ ?_
 rcases bc_ hg with ⟨h4, hg⟩ | ⟨h4, hg⟩
 ·refine go_ ?_
  rcases bc_ hg with ⟨h5, hg⟩ | ⟨h5, hg⟩
  ·refine go_ ?_
   obtain ⟨e, he, hg⟩ := bind_some hg
   refine go_ ?_
   refine c0_ (gdv_t rfl rfl h5) rfl (r_loadEA ty47 (enc_cells api_Hit.enc_len (getI_at he) (o := 0) (m := 2) (cs := [.int .i64 e.Pattern, .int .i64 e.At]) rfl (by decide) rfl) (enc_cells_le api_Hit.enc_len (getI_at he) (o := 0) (m := 2) (by decide) rfl)) rfl rfl ?_
   refine c0_ (gdv_t rfl rfl h5) rfl (.build (r := [.val (.int .i64 0), .val (.int .i64 0)]) und47 pl47 z47 (by kernel_rfl) rfl) rfl rfl ?_
   refine c0_ (gdv_t rfl rfl h5) rfl (steq47_eql e (api_Hit.mk 0 0)) rfl rfl ?_
   refine go_ ?_
   rcases bc_ hg with ⟨h6, hg⟩ | ⟨h6, hg⟩
   ·refine go_ ?_
    obtain ⟨e_2, he_2, hg⟩ := bind_some hg
    refine go_ ?_
    refine c0_ (gdv_t rfl rfl h6) rfl (r_loadEA ty47 (enc_cells api_Hit.enc_len (getI_at he_2) (o := 0) (m := 2) (cs := [.int .i64 e_2.Pattern, .int .i64 e_2.At]) rfl (by decide) rfl) (enc_cells_le api_Hit.enc_len (getI_at he_2) (o := 0) (m := 2) (by decide) rfl)) rfl rfl ?_
    refine c0_ (gdv_t rfl rfl h6) rfl (.build (r := [.val (.int .i64 1), .val (.int .i64 1)]) und47 pl47 z47 (by kernel_rfl) rfl) rfl rfl ?_
    refine c0_ (gdv_t rfl rfl h6) rfl (steq47_eql e_2 (api_Hit.mk 1 1)) rfl rfl ?_
    refine go_ ?_
    rcases bc_ hg with ⟨h7, hg⟩ | ⟨h7, hg⟩
    ·refine c0_ (gdv_t rfl rfl h7) rfl (r_buildFull sl27 z5 (by decide) rfl rfl rfl rfl ck5 (cs := [.int .u8 97, .int .u8 98, .int .u8 97, .int .u8 98]) (.cons .int (.cons .int (.cons .int (.cons .int .nil)))) rfl (l := ([(97 : UInt8), (98 : UInt8), (97 : UInt8), (98 : UInt8)] : List UInt8)) (f := e8) rfl) rfl rfl ?_
     refine ch_x (rd := [344]) (gdv_t rfl rfl h7) rfl (.mark und27 und5 (Nat.le_of_ble_eq_true rfl) (.head _) rfl) rfl rfl (fun _ => ⟨_, rfl⟩) ?_
     rintro _ rfl
     obtain ⟨y_2, hy_2, hg⟩ := bind_some hg
     refine ca_ (w_pattern_Prefix _ _ hy_2) ?_
     refine c0_ (gdv_t rfl rfl h7) rfl (r_buildFull sl22 z3 (by decide) rfl rfl rfl rfl ck3 (cs := [.int .i64 0, .int .i64 0, .int .i64 1, .int .i64 2]) (.cons .int (.cons .int (.cons .int (.cons .int .nil)))) rfl (l := ([0, 0, 1, 2] : List Int)) (f := eI) rfl) rfl rfl ?_
     obtain ⟨y_3, hy_3, hg⟩ := bind_some hg
     refine cb_ [368] [] [] true (w_ref02_SameInts _ _ _ hy_3) ?_
     refine go_ ?_
     refine ch_n fun hU => ?_
     refine aw_r ?_
     obtain rfl := Option.some.inj hg
     exact fin_ [] ⟨rfl, rfl⟩
    ·refine go_ ?_
     refine ch_n fun hU => ?_
     refine aw_r ?_
     obtain rfl := Option.some.inj hg
     exact fin_ [] ⟨rfl, rfl⟩
   ·refine go_ ?_
    refine ch_n fun hU => ?_
    refine aw_r ?_
    obtain rfl := Option.some.inj hg
    exact fin_ [] ⟨rfl, rfl⟩
  ·refine go_ ?_
   refine ch_n fun hU => ?_
   refine aw_r ?_
   obtain rfl := Option.some.inj hg
   exact fin_ [] ⟨rfl, rfl⟩
 ·refine go_ ?_
  refine ch_n fun hU => ?_
  refine aw_r ?_
  obtain rfl := Option.some.inj hg
  exact fin_ [] ⟨rfl, rfl⟩
theorem w_make_Roll (l : (List Int)) (r : cipherplanmake_Dice) (hg : g_make_Roll l = some r) : Fn Try.prog 10 0 [.sl 1 (encL eI l)] [] (fun d' b' => d' = .ptr 0 0 ∧ b' = [.box [.sl 1 (encL eI r.L), .val (.int .i64 r.At)] 64]) := by
 unfold g_make_Roll at hg
 refine Fn.of Try.func10 rfl rfl rfl fun w0 I ρ0 => ?_
 show awp _ ⟨w0, I, ρ0, 0, 0, 6⟩ _ _ _
 refine sr_ 0 8 mk_U ?_
 refine go_ ?_
 refine ch_n fun hU => ?_
 refine sr_ 8 40 hU ?_
 refine go_ ?_
 refine c0_ rfl rfl (.build (r := [.sl 1 (encL eI l), .val (.int .i64 0)]) und64 pl64 z64 (by kernel_rfl) rfl) rfl rfl ?_
 refine go_ ?_
 refine ch_n fun hU => ?_
 refine aw_r ?_
 obtain rfl := Option.some.inj hg
 exact fin_ [(0, 24)] ⟨rfl, rfl⟩
theorem w_make_Mod (n : Int) (k : Int) (r : Int) (hg : g_make_Mod n k = some r) : Fn Try.prog 42 0 [.val (.int .i64 n), .val (.int .i64 k)] [] (fun d' b' => d' = .val (.int .i64 r) ∧ b' = []) := by
 unfold g_make_Mod at hg
 refine Fn.of Try.func42 rfl rfl rfl fun w0 I ρ0 => ?_
 show awp _ ⟨w0, I, ρ0, 0, 0, 14⟩ _ _ _
 refine sr_ 0 8 mk_U ?_
 refine go_ ?_
 refine ch_n fun hU => ?_
 refine awp_seq ?_
 refine sr_ 8 24 hU ?_
 refine go_ ?_
 refine ch_n fun hU => ?_
 refine cg_ rfl hg (fun h3 hg => ?_) fun h3 hg => ?_
 ·refine awp_seq ?_
  refine awp_region (sys _ _ []) 24 32 hU rfl rfl ?_
  refine go_ ?_
  refine ch_n fun hU => ?_
  refine aw_r ?_
  obtain rfl := Option.some.inj hg
  exact fin_ [] ⟨rfl, rfl⟩
 ·refine awp_skip ?_
  repeat first | refine st_ ?_ | refine sn_ ?_
  refine sr_ 24 88 hU ?_
  refine go_ ?_
  obtain ⟨q, hq, hg⟩ := bind_some hg
  refine c0_ rfl rfl (r_rem hq) rfl rfl ?_
  refine go_ ?_
  obtain ⟨q_2, hq_2, hg⟩ := bind_some hg
  refine c0_ rfl rfl (r_rem hq_2) rfl rfl ?_
  refine go_ ?_
  refine ch_n fun hU => ?_
  refine aw_r ?_
  obtain rfl := Option.some.inj hg
  exact fin_ [] ⟨rfl, rfl⟩
theorem w_make_Dice_Next (d : cipherplanmake_Dice) (n : Int) (r : Int × cipherplanmake_Dice) (hg : g_make_Dice_Next d n = some r) : Fn Try.prog 24 1 [.ptr 0 0, .val (.int .i64 n)] [.box [.sl 1 (encL eI d.L), .val (.int .i64 d.At)] 64] (fun d' b' => d' = .val (.int .i64 r.1) ∧ b' = [.box [.sl 1 (encL eI r.2.L), .val (.int .i64 r.2.At)] 64]) := by
 unfold g_make_Dice_Next at hg
 refine Fn.of Try.func24 rfl rfl rfl fun w0 I ρ0 => ?_
 show awp _ ⟨w0, I, ρ0, 1, 1, 35⟩ _ _ _
 refine sr_ 1 9 mk_U ?_
 refine go_ ?_
 refine ch_n fun hU => ?_
 refine awp_seq ?_
 refine awp_seq ?_
 refine awp_draw (sys _ _ []) (by kernel_rfl) [0, 1, 3, 7, 0, 16, 48, 112, 240, 511] 9 89 hU rfl rfl (by kernel_rfl) ?_
 refine go_ ?_
 refine ch_n fun hU => ?_
 refine cg_ rfl hg (fun h3 hg => ?_) fun h3 hg => ?_
 ·refine awp_seq ?_
  refine awp_region (sys _ _ []) 89 97 hU rfl rfl ?_
  refine go_ ?_
  refine ch_n fun hU => ?_
  refine aw_r ?_
  obtain rfl := Option.some.inj hg
  exact fin_ [(0, 0)] ⟨rfl, rfl⟩
 ·refine awp_skip ?_
  repeat first | refine st_ ?_ | refine sn_ ?_
  refine sr_ 89 153 hU ?_
  refine go_ ?_
  refine ch_n fun hU => ?_
  refine awp_seq ?_
  refine awp_draw (sys _ _ []) (by kernel_rfl) [0, 1, 3, 7, 0, 16, 48, 112, 240, 511, 1023, 0, 4095, 8191] 153 265 hU rfl rfl (by kernel_rfl) ?_
  refine go_ ?_
  obtain ⟨e, he, hg⟩ := bind_some hg
  refine go_ ?_
  refine c0_ rfl rfl (r_loadE1 ty3 (enc_cell eI_len (getI_at he) (o := 0) (c := .int .i64 e) rfl rfl)) rfl rfl ?_
  refine go_ ?_
  obtain ⟨y, hy, hg⟩ := bind_some hg
  refine ca_ (w_make_Mod _ _ _ hy) ?_
  refine go_ ?_
  refine ch_n fun hU => ?_
  refine aw_r ?_
  obtain rfl := Option.some.inj hg
  exact fin_ [(0, 0)] ⟨rfl, rfl⟩
theorem w_make_Dice_Of (d : cipherplanmake_Dice) (l : (List Int)) (r : Int × cipherplanmake_Dice) (hg : g_make_Dice_Of d l = some r) : Fn Try.prog 26 1 [.ptr 0 0, .sl 1 (encL eI l)] [.box [.sl 1 (encL eI d.L), .val (.int .i64 d.At)] 64] (fun d' b' => d' = .val (.int .i64 r.1) ∧ b' = [.box [.sl 1 (encL eI r.2.L), .val (.int .i64 r.2.At)] 64]) := by
 unfold g_make_Dice_Of at hg
 refine Fn.of Try.func26 rfl rfl rfl fun w0 I ρ0 => ?_
 show awp _ ⟨w0, I, ρ0, 1, 1, 12⟩ _ _ _
 refine sr_ 1 9 mk_U ?_
 refine go_ ?_
 refine ch_n fun hU => ?_
 refine sr_ 9 73 hU ?_
 refine go_ ?_
 obtain ⟨y, hy, hg⟩ := bind_some hg
 refine cb_ [0] [0] [] false (w_make_Dice_Next _ _ _ hy) ?_
 obtain ⟨e, he, hg⟩ := bind_some hg
 refine go_ ?_
 refine c0_ rfl rfl (r_loadE1 ty3 (enc_cell eI_len (getI_at he) (o := 0) (c := .int .i64 e) rfl rfl)) rfl rfl ?_
 refine go_ ?_
 refine ch_n fun hU => ?_
 refine aw_r ?_
 obtain rfl := Option.some.inj hg
 exact fin_ [(0, 0)] ⟨rfl, rfl⟩
theorem w_law11_text_own (d : cipherplanmake_Dice) (most : Int) (r : (List UInt8) × cipherplanmake_Dice) (hg : g_law11_text d most = some r) : Fn Try.prog 11 1 [.ptr 0 0, .val (.int .i64 most)] [.box [.sl 1 (encL eI d.L), .val (.int .i64 d.At)] 64] (fun d' b' => d' = .row 1 ∧ b' = [.box [.sl 1 (encL eI r.2.L), .val (.int .i64 r.2.At)] 64, .row 5 1 (encL e8 r.1)]) := by
 unfold g_law11_text at hg
 refine Fn.of Try.func11 rfl rfl rfl fun w0 I ρ0 => ?_
 show awp _ ⟨w0, I, ρ0, 1, 1, 23⟩ _ _ _
 refine sr_ 1 9 mk_U ?_
 refine go_ ?_
 refine ch_n fun hU => ?_
 refine sr_ 9 17 hU ?_
 refine go_ ?_
 refine ch_n fun hU => ?_
 refine awp_seq ?_
 refine sr_ 17 57 hU ?_
 refine go_ ?_
 obtain ⟨y, hy, hg⟩ := bind_some hg
 refine cb_ [0] [0] [] false (w_make_Dice_Next _ _ _ hy) ?_
 refine go_ ?_
 refine ch_n fun hU => ?_
 refine awp_block ?_
 refine lp_ (fun ((n_1, d_1, b_1) : Int × cipherplanmake_Dice × List UInt8) => mk [(0, .ptr 0 0), (5, .row 1), (6, .val (.int .i64 n_1))] [(0, .box [.sl 1 (encL eI d_1.L), .val (.int .i64 d_1.At)] 64), (1, .row 5 1 (encL e8 b_1))] 2) hg (sub_ [(0, 0)]) ?_
 rintro ⟨n_1, d_1, b_1⟩ m1 o1 hg hn1
 replace hg : g_law11_text.l1 n_1 d_1 b_1 = some o1 := hg
 show awp _ _ _ _ (mk _ _ _)
 unfold g_law11_text.l1 at hg
 refine awp_seq ?_
 refine sr_ 2 18 mk_U ?_
 refine go_ ?_
 refine ch_n fun hU => ?_
 refine cg_ rfl hg (fun h5 hg => ?_) fun h5 hg => ?_
 ·refine awp_skip ?_
  repeat first | refine st_ ?_ | refine sn_ ?_
  refine awp_seq ?_
  refine awp_block ?_
  refine awp_region (sys _ _ [34]) 18 82 hU rfl rfl ?_
  refine go_ ?_
  refine ch_z (rd := []) rfl rfl (r_buildFull sl22 z3 (by decide) rfl rfl rfl rfl ck3 (cs := [.int .i64 0, .int .i64 1, .int .i64 2, .int .i64 103]) (.cons .int (.cons .int (.cons .int (.cons .int .nil)))) rfl (l := ([0, 1, 2, 103] : List Int)) (f := eI) rfl) rfl rfl rfl ?_
  obtain ⟨y_2, hy_2, hg⟩ := bind_some hg
  refine cb_ [0] [0] [] false (w_make_Dice_Of _ _ _ hy_2) ?_
  refine c0_ rfl rfl (r_conv_u8 und3 und5) rfl rfl ?_
  refine c0_ rfl rfl (r_buildFull sl27 z5 (by decide) rfl rfl rfl rfl ck5 (cs := [.int .u8 ((u8 y_2.1).toNat : Int)]) (.cons .int .nil) rfl (l := ([(u8 y_2.1)] : List UInt8)) (f := e8) rfl) rfl rfl ?_
  obtain ⟨l, hl, hg⟩ := bind_some hg
  refine ch_s (rd := [1, 58]) rfl rfl (r_append sl27 e8_len .row rfl .row rfl hl rfl) rfl rfl ?_
  refine go_ ?_
  refine ch_n fun hU => ?_
  refine awp_region (sys _ _ []) 82 106 hU rfl rfl ?_
  refine go_ ?_
  refine ch_n fun hU => ?_
  obtain rfl := Option.some.inj hg
  exact ⟨((W (n_1 - 1), y_2.2, l), m1), Nat.lt_succ_self _, hn1, sub_ [(0, 0), (1, 66)]⟩
 ·refine awp_exit ?_
  repeat first | refine st_ ?_ | refine sn_ ?_
  replace hg := leave hg hn1
  refine sr_ 18 34 hU ?_
  refine go_ ?_
  refine ch_n fun hU => ?_
  refine aw_r ?_
  obtain rfl := Option.some.inj hg
  exact fin_ [(0, 0), (1, 1)] ⟨rfl, rfl⟩
theorem w_law11_PatternPrefix (l : (List Int)) (r : Bool) (hg : g_law11_PatternPrefix l = some r) : Fn Try.prog 3 0 [.sl 1 (encL eI l)] [] (fun d' b' => d' = .val (.bool r) ∧ b' = []) := by
 unfold g_law11_PatternPrefix at hg
 refine Fn.of Try.func3 rfl rfl rfl fun w0 I ρ0 => ?_
 show awp _ ⟨w0, I, ρ0, 0, 0, 76⟩ _ _ _
 refine sr_ 0 8 mk_U ?_
 refine go_ ?_
 refine ch_n fun hU => ?_
 refine awp_seq ?_
 refine sr_ 8 32 hU ?_
 refine go_ ?_
 obtain ⟨y, hy, hg⟩ := bind_some hg
 refine ca_ (w_make_Light _ _ hy) ?_
 refine go_ ?_
 refine ch_n fun hU => ?_
 refine cg_ rfl hg (fun h3 hg => ?_) fun h3 hg => ?_
 ·refine awp_seq ?_
  refine awp_region (sys _ _ []) 32 48 hU rfl rfl ?_
  obtain ⟨y_2, hy_2, hg⟩ := bind_some hg
  refine ca_ (w_law11_awake _ hy_2) ?_
  refine go_ ?_
  refine ch_n fun hU => ?_
  refine aw_r ?_
  obtain rfl := Option.some.inj hg
  exact fin_ [] ⟨rfl, rfl⟩
 ·refine awp_skip ?_
  repeat first | refine st_ ?_ | refine sn_ ?_
  refine sr_ 32 56 hU ?_
  refine go_ ?_
  obtain ⟨y_3, hy_3, hg⟩ := bind_some hg
  refine ch_call (rd := []) (ps := []) (gs := []) false rfl (w_make_Roll _ _ hy_3) rfl rfl (.cons .sl .nil) rfl rfl (by intro h; cases h) rfl (by intro h; first | (cases h; done) | exact ⟨_, _, ⟨rfl, rfl⟩, by simp, by simp⟩) ?_
  rintro _ _ ⟨rfl, rfl⟩
  refine go_ ?_
  refine ch_n fun hU => ?_
  refine sr_ 56 80 hU ?_
  refine go_ ?_
  obtain ⟨y_4, hy_4, hg⟩ := bind_some hg
  refine ch_call (rd := [40]) (ps := [40]) (gs := []) false rfl (w_law11_text_own _ _ _ hy_4) rfl rfl (.cons (.ptr rfl) (.cons .val .nil)) ⟨_, _, _, rfl, .head _, ⟨_, rfl, (by repeat' (first | exact AgL.nil | apply AgL.cons | exact Ag.val | exact Ag.sl | exact Ag.nils | exact Ag.ptr rfl | exact Ag.rowK rfl))⟩, rfl⟩ rfl (by intro h; cases h) rfl (by intro h; first | (cases h; done) | exact ⟨_, _, ⟨rfl, rfl⟩, by simp, by simp⟩) ?_
  rintro _ _ ⟨rfl, rfl⟩
  refine go_ ?_
  refine ch_n fun hU => ?_
  refine awp_seq ?_
  refine awp_sub (σ' := mk [(4, .sl 1 (encL e8 y_4.1))] [] 0) (sub_ []) ?_
  refine awp_region (sys _ _ []) 0 24 mk_U rfl rfl ?_
  refine go_ ?_
  obtain ⟨y_5, hy_5, hg⟩ := bind_some hg
  refine ca_ (w_pattern_Prefix _ _ hy_5) ?_
  refine go_ ?_
  refine ch_n fun hU => ?_
  refine awp_seq ?_
  refine sr_ 24 64 hU ?_
  refine go_ ?_
  refine ch_n fun hU => ?_
  refine cg_ rfl hg (fun h9 hg => ?_) fun h9 hg => ?_
  ·refine awp_seq ?_
   refine awp_region (sys _ _ []) 64 72 hU rfl rfl ?_
   refine go_ ?_
   refine ch_n fun hU => ?_
   refine aw_r ?_
   obtain rfl := Option.some.inj hg
   exact fin_ [] ⟨rfl, rfl⟩
  ·refine awp_skip ?_
   repeat first | refine st_ ?_ | refine sn_ ?_
   refine awp_seq ?_
   refine sr_ 64 72 hU ?_
   refine go_ ?_
   refine ch_n fun hU => ?_
   refine awp_block ?_
   refine lp_ (fun (n_2 : Int) => mk [(4, .sl 1 (encL e8 y_4.1)), (5, .sl 1 (encL eI y_5)), (6, .val (.int .i64 n_2))] [] 0) hg (sub_ []) ?_
   rintro n_2 m2 o2 hg hn2
   replace hg : g_law11_PatternPrefix.l2 y_4 y_5 n_2 = some o2 := hg
   show awp _ _ _ _ (mk _ _ _)
   unfold g_law11_PatternPrefix.l2 at hg
   refine awp_seq ?_
   refine sr_ 0 32 mk_U ?_
   refine go_ ?_
   refine ch_n fun hU => ?_
   refine cg_ rfl hg (fun h13 hg => ?_) fun h13 hg => ?_
   ·refine awp_skip ?_
    repeat first | refine st_ ?_ | refine sn_ ?_
    refine awp_seq ?_
    refine awp_block ?_
    refine sr_ 32 80 hU ?_
    refine go_ ?_
    obtain ⟨e, he, hg⟩ := bind_some hg
    refine go_ ?_
    refine c0_ rfl rfl (r_loadE1 ty3 (enc_cell eI_len (getI_at he) (o := 0) (c := .int .i64 e) rfl rfl)) rfl rfl ?_
    refine go_ ?_
    refine ch_n fun hU => ?_
    refine awp_seq ?_
    refine awp_cut (ι := Bool) (fun (x55_3 : Bool) => mk [(4, .sl 1 (encL e8 y_4.1)), (5, .sl 1 (encL eI y_5)), (6, .val (.int .i64 n_2)), (7, .val (.int .i64 e)), (55, .val (.bool x55_3))] [] 0) (fun (x55_3 : Bool) => g_law11_PatternPrefix.j3 y_4 n_2 e x55_3 = some o2) ?_ ?_
    ·refine awp_draw (sys _ _ []) (by kernel_rfl) [0, 1, 3, 7, 7, 31, 63, 127, 255, 255, 1023, 2047, 255, 255, 255, 24831, 255, 127231, 258303, 524287, 1048575] 80 248 hU rfl rfl (by kernel_rfl) ?_
     refine go_ ?_
     rcases bc_ hg with ⟨h15, hg⟩ | ⟨h15, hg⟩
     ·refine go_ ?_
      refine ch_n fun hU => ?_
      exact ⟨true, hg, sub_ []⟩
     ·refine go_ ?_
      rcases bc_ hg with ⟨h17, hg⟩ | ⟨h17, hg⟩
      ·refine go_ ?_
       refine ch_n fun hU => ?_
       exact ⟨true, hg, sub_ []⟩
      ·refine go_ ?_
       obtain ⟨l_2, hl_2, hg⟩ := bind_some hg
       refine c0_ (gdv_t rfl rfl h17) rfl (r_sliS_hi sl27 e8_len hl_2) rfl rfl ?_
       refine c0_ (gdv_t rfl rfl h17) rfl (r_convS und27 und5 und9 .sl rfl) rfl rfl ?_
       refine go_ ?_
       obtain ⟨l_3, hl_3, hg⟩ := bind_some hg
       refine c0_ (gdv_t rfl rfl h17) rfl (r_sliS sl27 e8_len hl_3) rfl rfl ?_
       refine c0_ (gdv_t rfl rfl h17) rfl (r_convS und27 und5 und9 .sl rfl) rfl rfl ?_
       refine go_ ?_
       refine ch_n fun hU => ?_
       exact ⟨!decide ((ofB l_2) = (ofB l_3)), hg, sub_ []⟩
    ·rintro x55_3 hg
     replace hg : g_law11_PatternPrefix.j3 y_4 n_2 e x55_3 = some o2 := hg
     show awp _ _ _ _ (mk _ _ _)
     unfold g_law11_PatternPrefix.j3 at hg
     refine cg_ rfl hg (fun h20 hg => ?_) fun h20 hg => ?_
     ·refine awp_seq ?_
      refine awp_region (sys _ _ []) 0 8 mk_U rfl rfl ?_
      refine go_ ?_
      refine ch_n fun hU => ?_
      refine aw_r ?_
      replace hg := leave hg hn2
      obtain rfl := Option.some.inj hg
      exact fin_ [] ⟨rfl, rfl⟩
     ·refine awp_skip ?_
      repeat first | refine st_ ?_ | refine sn_ ?_
      refine sr_ 0 24 mk_U ?_
      refine go_ ?_
      refine ch_n fun hU => ?_
      refine awp_block ?_
      refine lp_ (fun (m_4 : Int) => mk [(4, .sl 1 (encL e8 y_4.1)), (5, .sl 1 (encL eI y_5)), (6, .val (.int .i64 n_2)), (8, .val (.int .i64 m_4))] [] 0) hg (sub_ []) ?_
      rintro m_4 m4 o4 hg hn4
      replace hg : g_law11_PatternPrefix.l4 y_4 n_2 m_4 = some o4 := hg
      show awp _ _ _ _ (mk _ _ _)
      unfold g_law11_PatternPrefix.l4 at hg
      refine awp_seq ?_
      refine sr_ 0 24 mk_U ?_
      refine go_ ?_
      refine ch_n fun hU => ?_
      refine cg_ rfl hg (fun h24 hg => ?_) fun h24 hg => ?_
      ·refine awp_skip ?_
       repeat first | refine st_ ?_ | refine sn_ ?_
       refine awp_seq ?_
       refine awp_block ?_
       refine awp_seq ?_
       refine awp_draw (sys _ _ []) (by kernel_rfl) [0, 0, 3, 7, 0, 0, 0, 96, 0, 496, 1008, 2047] 24 120 hU rfl rfl (by kernel_rfl) ?_
       refine go_ ?_
       obtain ⟨l_4, hl_4, hg⟩ := bind_some hg
       refine c0_ rfl rfl (r_sliS_hi sl27 e8_len hl_4) rfl rfl ?_
       refine c0_ rfl rfl (r_convS und27 und5 und9 .sl rfl) rfl rfl ?_
       refine go_ ?_
       obtain ⟨l_5, hl_5, hg⟩ := bind_some hg
       refine c0_ rfl rfl (r_sliS sl27 e8_len hl_5) rfl rfl ?_
       refine c0_ rfl rfl (r_convS und27 und5 und9 .sl rfl) rfl rfl ?_
       refine go_ ?_
       refine ch_n fun hU => ?_
       refine cg_ rfl hg (fun h26 hg => ?_) fun h26 hg => ?_
       ·refine awp_seq ?_
        refine awp_region (sys _ _ []) 120 128 hU rfl rfl ?_
        refine go_ ?_
        refine ch_n fun hU => ?_
        refine aw_r ?_
        replace hg := leave hg hn4
        replace hg := leave hg hn2
        obtain rfl := Option.some.inj hg
        exact fin_ [] ⟨rfl, rfl⟩
       ·refine awp_skip ?_
        repeat first | refine st_ ?_ | refine sn_ ?_
        refine awp_region (sys _ _ []) 120 144 hU rfl rfl ?_
        refine go_ ?_
        refine ch_n fun hU => ?_
        obtain rfl := Option.some.inj hg
        exact ⟨(W (m_4 + 1), m4), Nat.lt_succ_self _, hn4, sub_ []⟩
      ·refine awp_exit ?_
       repeat first | refine st_ ?_ | refine sn_ ?_
       replace hg := leave hg hn4
       refine awp_region (sys _ _ []) 24 48 hU rfl rfl ?_
       refine go_ ?_
       refine ch_n fun hU => ?_
       obtain rfl := Option.some.inj hg
       exact ⟨(W (n_2 + 1), m2), Nat.lt_succ_self _, hn2, sub_ []⟩
   ·refine awp_exit ?_
    repeat first | refine st_ ?_ | refine sn_ ?_
    replace hg := leave hg hn2
    refine sr_ 32 48 hU ?_
    obtain ⟨y_6, hy_6, hg⟩ := bind_some hg
    refine ca_ (w_law11_awake _ hy_6) ?_
    refine go_ ?_
    refine ch_n fun hU => ?_
    refine aw_r ?_
    obtain rfl := Option.some.inj hg
    exact fin_ [] ⟨rfl, rfl⟩
theorem w_ref02_modulus (b : Int) (r : Int) (hg : g_ref02_modulus b = some r) : Fn Try.prog 77 0 [.val (.int .i64 b)] [] (fun d' b' => d' = .val (.int .i64 r) ∧ b' = []) := by
 unfold g_ref02_modulus at hg
 refine Fn.of Try.func77 rfl rfl rfl fun w0 I ρ0 => ?_
 show awp _ ⟨w0, I, ρ0, 0, 0, 25⟩ _ _ _
 refine sr_ 0 8 mk_U ?_
 refine go_ ?_
 refine ch_n fun hU => ?_
 refine awp_seq ?_
 refine awp_block ?_
 refine awp_cut (ι := Bool) (fun (x3_1 : Bool) => mk [(0, .val (.int .i64 b)), (3, .val (.bool x3_1))] [] 0) (fun (x3_1 : Bool) => g_ref02_modulus.j1 b x3_1 = some r) ?_ ?_
 ·refine awp_region (sys _ _ []) 8 64 hU rfl rfl ?_
  refine go_ ?_
  rcases bc_ hg with ⟨h2, hg⟩ | ⟨h2, hg⟩
  ·refine go_ ?_
   refine ch_n fun hU => ?_
   exact ⟨true, hg, sub_ []⟩
  ·refine go_ ?_
   refine ch_n fun hU => ?_
   exact ⟨decide (16384 < b), hg, sub_ []⟩
 ·rintro x3_1 hg
  replace hg : g_ref02_modulus.j1 b x3_1 = some r := hg
  show awp _ _ _ _ (mk _ _ _)
  unfold g_ref02_modulus.j1 at hg
  refine cg_ rfl hg (fun h5 hg => ?_) fun h5 hg => ?_
  ·refine awp_seq ?_
   refine awp_region (sys _ _ []) 0 8 mk_U rfl rfl ?_
   refine go_ ?_
   refine ch_n fun hU => ?_
   refine aw_r ?_
   obtain rfl := Option.some.inj hg
   exact fin_ [] ⟨rfl, rfl⟩
  ·refine awp_seq ?_
   refine awp_region (sys _ _ []) 0 24 mk_U rfl rfl ?_
   refine go_ ?_
   refine ch_n fun hU => ?_
   refine cg_ rfl hg (fun h8 hg => ?_) fun h8 hg => ?_
   ·refine awp_seq ?_
    refine awp_region (sys _ _ []) 24 32 hU rfl rfl ?_
    refine go_ ?_
    refine ch_n fun hU => ?_
    refine aw_r ?_
    obtain rfl := Option.some.inj hg
    exact fin_ [] ⟨rfl, rfl⟩
   ·refine awp_seq ?_
    refine awp_region (sys _ _ []) 24 48 hU rfl rfl ?_
    refine go_ ?_
    refine ch_n fun hU => ?_
    refine cg_ rfl hg (fun h11 hg => ?_) fun h11 hg => ?_
    ·refine awp_seq ?_
     refine awp_region (sys _ _ []) 48 56 hU rfl rfl ?_
     refine go_ ?_
     refine ch_n fun hU => ?_
     refine aw_r ?_
     obtain rfl := Option.some.inj hg
     exact fin_ [] ⟨rfl, rfl⟩
    ·refine awp_seq ?_
     refine awp_region (sys _ _ []) 48 72 hU rfl rfl ?_
     refine go_ ?_
     refine ch_n fun hU => ?_
     refine cg_ rfl hg (fun h14 hg => ?_) fun h14 hg => ?_
     ·refine awp_seq ?_
      refine awp_region (sys _ _ []) 72 80 hU rfl rfl ?_
      refine go_ ?_
      refine ch_n fun hU => ?_
      refine aw_r ?_
      obtain rfl := Option.some.inj hg
      exact fin_ [] ⟨rfl, rfl⟩
     ·refine awp_seq ?_
      refine awp_region (sys _ _ []) 72 96 hU rfl rfl ?_
      refine go_ ?_
      refine ch_n fun hU => ?_
      refine cg_ rfl hg (fun h17 hg => ?_) fun h17 hg => ?_
      ·refine awp_seq ?_
       refine awp_region (sys _ _ []) 96 104 hU rfl rfl ?_
       refine go_ ?_
       refine ch_n fun hU => ?_
       refine aw_r ?_
       obtain rfl := Option.some.inj hg
       exact fin_ [] ⟨rfl, rfl⟩
      ·refine awp_seq ?_
       refine awp_region (sys _ _ []) 96 120 hU rfl rfl ?_
       refine go_ ?_
       refine ch_n fun hU => ?_
       refine cg_ rfl hg (fun h20 hg => ?_) fun h20 hg => ?_
       ·refine awp_seq ?_
        refine awp_region (sys _ _ []) 120 128 hU rfl rfl ?_
        refine go_ ?_
        refine ch_n fun hU => ?_
        refine aw_r ?_
        obtain rfl := Option.some.inj hg
        exact fin_ [] ⟨rfl, rfl⟩
       ·refine awp_skip ?_
        repeat first | refine st_ ?_ | refine sn_ ?_
        refine sr_ 120 128 hU ?_
        refine go_ ?_
        refine ch_n fun hU => ?_
        refine aw_r ?_
        obtain rfl := Option.some.inj hg
        exact fin_ [] ⟨rfl, rfl⟩
theorem w_ref02_among (b : Int) (sizes : (List Int)) (strengths : (List Int)) (r : Int) (hg : g_ref02_among b sizes strengths = some r) : Fn Try.prog 78 0 [.val (.int .i64 b), .sl 1 (encL eI sizes), .sl 1 (encL eI strengths)] [] (fun d' b' => d' = .val (.int .i64 r) ∧ b' = []) := by
 unfold g_ref02_among at hg
 refine Fn.of Try.func78 rfl rfl rfl fun w0 I ρ0 => ?_
 show awp _ ⟨w0, I, ρ0, 0, 0, 24⟩ _ _ _
 refine sr_ 0 8 mk_U ?_
 refine go_ ?_
 refine ch_n fun hU => ?_
 refine awp_seq ?_
 refine sr_ 8 16 hU ?_
 refine go_ ?_
 refine ch_n fun hU => ?_
 refine awp_block ?_
 refine lp_ (fun (i_1 : Int) => mk [(0, .val (.int .i64 b)), (1, .sl 1 (encL eI sizes)), (2, .sl 1 (encL eI strengths)), (7, .val (.int .i64 i_1))] [] 0) hg (sub_ []) ?_
 rintro i_1 m1 o1 hg hn1
 replace hg : g_ref02_among.l1 b sizes strengths i_1 = some o1 := hg
 show awp _ _ _ _ (mk _ _ _)
 unfold g_ref02_among.l1 at hg
 refine awp_seq ?_
 refine sr_ 0 32 mk_U ?_
 refine go_ ?_
 refine ch_n fun hU => ?_
 refine cg_ rfl hg (fun h4 hg => ?_) fun h4 hg => ?_
 ·refine awp_skip ?_
  repeat first | refine st_ ?_ | refine sn_ ?_
  refine awp_seq ?_
  refine awp_block ?_
  refine sr_ 32 80 hU ?_
  refine go_ ?_
  obtain ⟨e, he, hg⟩ := bind_some hg
  refine go_ ?_
  refine c0_ rfl rfl (r_loadE1 ty3 (enc_cell eI_len (getI_at he) (o := 0) (c := .int .i64 e) rfl rfl)) rfl rfl ?_
  refine go_ ?_
  refine ch_n fun hU => ?_
  refine cg_ rfl hg (fun h6 hg => ?_) fun h6 hg => ?_
  ·refine awp_seq ?_
   refine awp_region (sys _ _ []) 80 120 hU rfl rfl ?_
   refine go_ ?_
   obtain ⟨e_2, he_2, hg⟩ := bind_some hg
   refine go_ ?_
   refine c0_ rfl rfl (r_loadE1 ty3 (enc_cell eI_len (getI_at he_2) (o := 0) (c := .int .i64 e_2) rfl rfl)) rfl rfl ?_
   refine go_ ?_
   refine ch_n fun hU => ?_
   refine aw_r ?_
   replace hg := leave hg hn1
   obtain rfl := Option.some.inj hg
   exact fin_ [] ⟨rfl, rfl⟩
  ·refine awp_skip ?_
   repeat first | refine st_ ?_ | refine sn_ ?_
   refine awp_region (sys _ _ []) 80 104 hU rfl rfl ?_
   refine go_ ?_
   refine ch_n fun hU => ?_
   obtain rfl := Option.some.inj hg
   exact ⟨(W (i_1 + 1), m1), Nat.lt_succ_self _, hn1, sub_ []⟩
 ·refine awp_exit ?_
  repeat first | refine st_ ?_ | refine sn_ ?_
  replace hg := leave hg hn1
  refine sr_ 32 40 hU ?_
  refine go_ ?_
  refine ch_n fun hU => ?_
  refine aw_r ?_
  obtain rfl := Option.some.inj hg
  exact fin_ [] ⟨rfl, rfl⟩
theorem w_ref02_single (alg : Int) (r : Int) (hg : g_ref02_single alg = some r) : Fn Try.prog 79 0 [.val (.int .i64 alg)] [] (fun d' b' => d' = .val (.int .i64 r) ∧ b' = []) := by
 unfold g_ref02_single at hg
 refine Fn.of Try.func79 rfl rfl rfl fun w0 I ρ0 => ?_
 show awp _ ⟨w0, I, ρ0, 0, 0, 21⟩ _ _ _
 refine sr_ 0 8 mk_U ?_
 refine go_ ?_
 refine ch_n fun hU => ?_
 refine awp_seq ?_
 refine sr_ 8 16 hU ?_
 refine go_ ?_
 refine ch_n fun hU => ?_
 refine awp_block ?_
 refine sr_ 16 32 hU ?_
 refine go_ ?_
 refine ch_n fun hU => ?_
 refine cg_ rfl hg (fun h4 hg => ?_) fun h4 hg => ?_
 ·refine awp_seq ?_
  refine awp_region (sys _ _ []) 32 40 hU rfl rfl ?_
  refine go_ ?_
  refine ch_n fun hU => ?_
  refine aw_r ?_
  obtain rfl := Option.some.inj hg
  exact fin_ [] ⟨rfl, rfl⟩
 ·refine awp_seq ?_
  refine awp_region (sys _ _ []) 32 48 hU rfl rfl ?_
  refine go_ ?_
  refine ch_n fun hU => ?_
  refine cg_ rfl hg (fun h7 hg => ?_) fun h7 hg => ?_
  ·refine awp_seq ?_
   refine awp_region (sys _ _ []) 48 56 hU rfl rfl ?_
   refine go_ ?_
   refine ch_n fun hU => ?_
   refine aw_r ?_
   obtain rfl := Option.some.inj hg
   exact fin_ [] ⟨rfl, rfl⟩
  ·refine awp_cut (ι := Bool) (fun (x8_1 : Bool) => mk [(3, .val (.int .i64 alg)), (8, .val (.bool x8_1))] [] 0) (fun (x8_1 : Bool) => g_ref02_single.j1 alg x8_1 = some r) ?_ ?_
   ·refine awp_seq ?_
    refine awp_region (sys _ _ []) 48 64 hU rfl rfl ?_
    refine go_ ?_
    refine ch_n fun hU => ?_
    refine cg_ rfl hg (fun h10 hg => ?_) fun h10 hg => ?_
    ·refine awp_skip ?_
     repeat first | refine st_ ?_ | refine sn_ ?_
     exact ⟨decide (alg = 3), hg, sub_ []⟩
    ·refine awp_seq ?_
     refine awp_region (sys _ _ []) 64 80 hU rfl rfl ?_
     refine go_ ?_
     refine ch_n fun hU => ?_
     refine cg_ rfl hg (fun h12 hg => ?_) fun h12 hg => ?_
     ·refine awp_skip ?_
      repeat first | refine st_ ?_ | refine sn_ ?_
      exact ⟨decide (alg = 8), hg, sub_ []⟩
     ·refine awp_region (sys _ _ []) 80 96 hU rfl rfl ?_
      refine go_ ?_
      refine ch_n fun hU => ?_
      exact ⟨decide (alg = 21), hg, sub_ []⟩
   ·rintro x8_1 hg
    replace hg : g_ref02_single.j1 alg x8_1 = some r := hg
    show awp _ _ _ _ (mk _ _ _)
    unfold g_ref02_single.j1 at hg
    refine cg_ rfl hg (fun h14 hg => ?_) fun h14 hg => ?_
    ·refine awp_seq ?_
     refine awp_region (sys _ _ []) 0 8 mk_U rfl rfl ?_
     refine go_ ?_
     refine ch_n fun hU => ?_
     refine aw_r ?_
     obtain rfl := Option.some.inj hg
     exact fin_ [] ⟨rfl, rfl⟩
    ·refine awp_seq ?_
     refine awp_region (sys _ _ []) 0 16 mk_U rfl rfl ?_
     refine go_ ?_
     refine ch_n fun hU => ?_
     refine cg_ rfl hg (fun h17 hg => ?_) fun h17 hg => ?_
     ·refine awp_seq ?_
      refine awp_region (sys _ _ []) 16 24 hU rfl rfl ?_
      refine go_ ?_
      refine ch_n fun hU => ?_
      refine aw_r ?_
      obtain rfl := Option.some.inj hg
      exact fin_ [] ⟨rfl, rfl⟩
     ·refine awp_cut (ι := Bool) (fun (x14_2 : Bool) => mk [(3, .val (.int .i64 alg)), (14, .val (.bool x14_2))] [] 0) (fun (x14_2 : Bool) => g_ref02_single.j2 alg x14_2 = some r) ?_ ?_
      ·refine awp_seq ?_
       refine awp_region (sys _ _ []) 16 32 hU rfl rfl ?_
       refine go_ ?_
       refine ch_n fun hU => ?_
       refine cg_ rfl hg (fun h20 hg => ?_) fun h20 hg => ?_
       ·refine awp_skip ?_
        repeat first | refine st_ ?_ | refine sn_ ?_
        exact ⟨decide (alg = 18), hg, sub_ []⟩
       ·refine awp_region (sys _ _ []) 32 48 hU rfl rfl ?_
        refine go_ ?_
        refine ch_n fun hU => ?_
        exact ⟨decide (alg = 22), hg, sub_ []⟩
      ·rintro x14_2 hg
       replace hg : g_ref02_single.j2 alg x14_2 = some r := hg
       show awp _ _ _ _ (mk _ _ _)
       unfold g_ref02_single.j2 at hg
       refine cg_ rfl hg (fun h22 hg => ?_) fun h22 hg => ?_
       ·refine awp_seq ?_
        refine awp_region (sys _ _ []) 0 8 mk_U rfl rfl ?_
        refine go_ ?_
        refine ch_n fun hU => ?_
        refine aw_r ?_
        obtain rfl := Option.some.inj hg
        exact fin_ [] ⟨rfl, rfl⟩
       ·refine awp_seq ?_
        refine awp_region (sys _ _ []) 0 16 mk_U rfl rfl ?_
        refine go_ ?_
        refine ch_n fun hU => ?_
        refine cg_ rfl hg (fun h25 hg => ?_) fun h25 hg => ?_
        ·refine awp_seq ?_
         refine awp_region (sys _ _ []) 16 24 hU rfl rfl ?_
         refine go_ ?_
         refine ch_n fun hU => ?_
         refine aw_r ?_
         obtain rfl := Option.some.inj hg
         exact fin_ [] ⟨rfl, rfl⟩
        ·refine awp_seq ?_
         refine awp_region (sys _ _ []) 16 32 hU rfl rfl ?_
         refine go_ ?_
         refine ch_n fun hU => ?_
         refine cg_ rfl hg (fun h28 hg => ?_) fun h28 hg => ?_
         ·refine awp_seq ?_
          refine awp_region (sys _ _ []) 32 40 hU rfl rfl ?_
          refine go_ ?_
          refine ch_n fun hU => ?_
          refine aw_r ?_
          obtain rfl := Option.some.inj hg
          exact fin_ [] ⟨rfl, rfl⟩
         ·refine awp_skip ?_
          repeat first | refine st_ ?_ | refine sn_ ?_
          refine sr_ 32 40 hU ?_
          refine go_ ?_
          refine ch_n fun hU => ?_
          refine aw_r ?_
          obtain rfl := Option.some.inj hg
          exact fin_ [] ⟨rfl, rfl⟩
theorem w_ref02_Strength (u : api_Use) (r : Int) (hg : g_ref02_Strength u = some r) : Fn Try.prog 55 0 [.agg [.val (.int .i64 u.Alg), .val (.int .i64 u.Bits)]] [] (fun d' b' => d' = .val (.int .i64 r) ∧ b' = []) := by
 unfold g_ref02_Strength at hg
 refine Fn.of Try.func55 rfl rfl rfl fun w0 I ρ0 => ?_
 show awp _ ⟨w0, I, ρ0, 0, 0, 76⟩ _ _ _
 refine sr_ 0 16 mk_U ?_
 refine go_ ?_
 refine ch_n fun hU => ?_
 refine sr_ 16 40 hU ?_
 refine go_ ?_
 refine ch_n fun hU => ?_
 refine awp_seq ?_
 refine sr_ 40 56 hU ?_
 refine go_ ?_
 refine ch_n fun hU => ?_
 refine awp_block ?_
 refine awp_cut (ι := Bool) (fun (x8_1 : Bool) => mk [(1, .ptr 0 0), (3, .val (.int .i64 u.Bits)), (7, .val (.int .i64 u.Alg)), (8, .val (.bool x8_1))] [(0, .box [.val (.int .i64 u.Alg), .val (.int .i64 u.Bits)] 43)] 1) (fun (x8_1 : Bool) => g_ref02_Strength.j1 u x8_1 = some r) ?_ ?_
 ·refine awp_seq ?_
  refine awp_region (sys _ _ []) 56 72 hU rfl rfl ?_
  refine go_ ?_
  refine ch_n fun hU => ?_
  refine cg_ rfl hg (fun h5 hg => ?_) fun h5 hg => ?_
  ·refine awp_skip ?_
   repeat first | refine st_ ?_ | refine sn_ ?_
   exact ⟨decide (u.Alg = 5), hg, sub_ [(0, 0)]⟩
  ·refine awp_seq ?_
   refine awp_region (sys _ _ []) 72 88 hU rfl rfl ?_
   refine go_ ?_
   refine ch_n fun hU => ?_
   refine cg_ rfl hg (fun h7 hg => ?_) fun h7 hg => ?_
   ·refine awp_skip ?_
    repeat first | refine st_ ?_ | refine sn_ ?_
    exact ⟨decide (u.Alg = 6), hg, sub_ [(0, 0)]⟩
   ·refine awp_seq ?_
    refine awp_region (sys _ _ []) 88 104 hU rfl rfl ?_
    refine go_ ?_
    refine ch_n fun hU => ?_
    refine cg_ rfl hg (fun h9 hg => ?_) fun h9 hg => ?_
    ·refine awp_skip ?_
     repeat first | refine st_ ?_ | refine sn_ ?_
     exact ⟨decide (u.Alg = 10), hg, sub_ [(0, 0)]⟩
    ·refine awp_region (sys _ _ []) 104 120 hU rfl rfl ?_
     refine go_ ?_
     refine ch_n fun hU => ?_
     exact ⟨decide (u.Alg = 11), hg, sub_ [(0, 0)]⟩
 ·rintro x8_1 hg
  replace hg : g_ref02_Strength.j1 u x8_1 = some r := hg
  show awp _ _ _ _ (mk _ _ _)
  unfold g_ref02_Strength.j1 at hg
  refine cg_ rfl hg (fun h11 hg => ?_) fun h11 hg => ?_
  ·refine awp_seq ?_
   refine awp_region (sys _ _ []) 1 25 mk_U rfl rfl ?_
   refine go_ ?_
   obtain ⟨y, hy, hg⟩ := bind_some hg
   refine ca_ (w_ref02_modulus _ _ hy) ?_
   refine go_ ?_
   refine ch_n fun hU => ?_
   refine aw_r ?_
   obtain rfl := Option.some.inj hg
   exact fin_ [] ⟨rfl, rfl⟩
  ·refine awp_cut (ι := Bool) (fun (x15_2 : Bool) => mk [(1, .ptr 0 0), (3, .val (.int .i64 u.Bits)), (7, .val (.int .i64 u.Alg)), (15, .val (.bool x15_2))] [(0, .box [.val (.int .i64 u.Alg), .val (.int .i64 u.Bits)] 43)] 1) (fun (x15_2 : Bool) => g_ref02_Strength.j2 u x15_2 = some r) ?_ ?_
   ·refine awp_seq ?_
    refine awp_region (sys _ _ []) 1 17 mk_U rfl rfl ?_
    refine go_ ?_
    refine ch_n fun hU => ?_
    refine cg_ rfl hg (fun h14 hg => ?_) fun h14 hg => ?_
    ·refine awp_skip ?_
     repeat first | refine st_ ?_ | refine sn_ ?_
     exact ⟨decide (u.Alg = 7), hg, sub_ [(0, 0)]⟩
    ·refine awp_region (sys _ _ []) 17 33 hU rfl rfl ?_
     refine go_ ?_
     refine ch_n fun hU => ?_
     exact ⟨decide (u.Alg = 12), hg, sub_ [(0, 0)]⟩
   ·rintro x15_2 hg
    replace hg : g_ref02_Strength.j2 u x15_2 = some r := hg
    show awp _ _ _ _ (mk _ _ _)
    unfold g_ref02_Strength.j2 at hg
    refine cg_ rfl hg (fun h16 hg => ?_) fun h16 hg => ?_
    ·refine awp_seq ?_
     refine awp_cut (ι := Bool) (fun (x35_3 : Bool) => mk [(3, .val (.int .i64 u.Bits)), (35, .val (.bool x35_3))] [] 0) (fun (x35_3 : Bool) => g_ref02_Strength.j3 u x35_3 = some r) ?_ ?_
     ·refine awp_region (sys _ _ []) 1 145 mk_U rfl rfl ?_
      refine go_ ?_
      rcases bc_ hg with ⟨h17, hg⟩ | ⟨h17, hg⟩
      ·refine go_ ?_
       refine ch_n fun hU => ?_
       exact ⟨true, hg, sub_ []⟩
      ·refine go_ ?_
       rcases bc_ hg with ⟨h19, hg⟩ | ⟨h19, hg⟩
       ·refine go_ ?_
        refine ch_n fun hU => ?_
        exact ⟨true, hg, sub_ []⟩
       ·refine go_ ?_
        rcases bc_ hg with ⟨h21, hg⟩ | ⟨h21, hg⟩
        ·refine go_ ?_
         refine ch_n fun hU => ?_
         exact ⟨true, hg, sub_ []⟩
        ·refine go_ ?_
         rcases bc_ hg with ⟨h23, hg⟩ | ⟨h23, hg⟩
         ·refine go_ ?_
          refine ch_n fun hU => ?_
          exact ⟨true, hg, sub_ []⟩
         ·refine go_ ?_
          refine ch_n fun hU => ?_
          exact ⟨decide (u.Bits = 521), hg, sub_ []⟩
     ·rintro x35_3 hg
      replace hg : g_ref02_Strength.j3 u x35_3 = some r := hg
      show awp _ _ _ _ (mk _ _ _)
      unfold g_ref02_Strength.j3 at hg
      refine cg_ rfl hg (fun h26 hg => ?_) fun h26 hg => ?_
      ·refine awp_seq ?_
       refine awp_region (sys _ _ []) 0 24 mk_U rfl rfl ?_
       refine go_ ?_
       obtain ⟨q, hq, hg⟩ := bind_some hg
       refine c0_ rfl rfl (r_quo hq) rfl rfl ?_
       refine go_ ?_
       refine ch_n fun hU => ?_
       refine aw_r ?_
       obtain rfl := Option.some.inj hg
       exact fin_ [] ⟨rfl, rfl⟩
      ·refine awp_skip ?_
       repeat first | refine st_ ?_ | refine sn_ ?_
       refine sr_ 0 8 mk_U ?_
       refine go_ ?_
       refine ch_n fun hU => ?_
       refine aw_r ?_
       obtain rfl := Option.some.inj hg
       exact fin_ [] ⟨rfl, rfl⟩
    ·refine awp_seq ?_
     refine awp_region (sys _ _ []) 1 17 mk_U rfl rfl ?_
     refine go_ ?_
     refine ch_n fun hU => ?_
     refine cg_ rfl hg (fun h30 hg => ?_) fun h30 hg => ?_
     ·refine awp_seq ?_
      refine awp_region (sys _ _ []) 17 57 hU rfl rfl ?_
      refine go_ ?_
      refine c0_ rfl rfl (r_buildFull sl22 z3 (by decide) rfl rfl rfl rfl ck3 (cs := [.int .i64 44, .int .i64 65, .int .i64 87]) (.cons .int (.cons .int (.cons .int .nil))) rfl (l := ([44, 65, 87] : List Int)) (f := eI) rfl) rfl rfl ?_
      refine c0_ rfl rfl (r_buildFull sl22 z3 (by decide) rfl rfl rfl rfl ck3 (cs := [.int .i64 128, .int .i64 192, .int .i64 256]) (.cons .int (.cons .int (.cons .int .nil))) rfl (l := ([128, 192, 256] : List Int)) (f := eI) rfl) rfl rfl ?_
      obtain ⟨y_2, hy_2, hg⟩ := bind_some hg
      refine cb_ [25, 33] [] [] true (w_ref02_among _ _ _ _ hy_2) ?_
      refine go_ ?_
      refine ch_n fun hU => ?_
      refine aw_r ?_
      obtain rfl := Option.some.inj hg
      exact fin_ [] ⟨rfl, rfl⟩
     ·refine awp_seq ?_
      refine awp_region (sys _ _ []) 17 33 hU rfl rfl ?_
      refine go_ ?_
      refine ch_n fun hU => ?_
      refine cg_ rfl hg (fun h33 hg => ?_) fun h33 hg => ?_
      ·refine awp_seq ?_
       refine awp_region (sys _ _ []) 33 73 hU rfl rfl ?_
       refine go_ ?_
       refine c0_ rfl rfl (r_buildFull sl22 z3 (by decide) rfl rfl rfl rfl ck3 (cs := [.int .i64 512, .int .i64 768, .int .i64 1024]) (.cons .int (.cons .int (.cons .int .nil))) rfl (l := ([512, 768, 1024] : List Int)) (f := eI) rfl) rfl rfl ?_
       refine c0_ rfl rfl (r_buildFull sl22 z3 (by decide) rfl rfl rfl rfl ck3 (cs := [.int .i64 128, .int .i64 192, .int .i64 256]) (.cons .int (.cons .int (.cons .int .nil))) rfl (l := ([128, 192, 256] : List Int)) (f := eI) rfl) rfl rfl ?_
       obtain ⟨y_3, hy_3, hg⟩ := bind_some hg
       refine cb_ [41, 49] [] [] true (w_ref02_among _ _ _ _ hy_3) ?_
       refine go_ ?_
       refine ch_n fun hU => ?_
       refine aw_r ?_
       obtain rfl := Option.some.inj hg
       exact fin_ [] ⟨rfl, rfl⟩
      ·refine awp_seq ?_
       refine awp_region (sys _ _ []) 33 49 hU rfl rfl ?_
       refine go_ ?_
       refine ch_n fun hU => ?_
       refine cg_ rfl hg (fun h36 hg => ?_) fun h36 hg => ?_
       ·refine awp_seq ?_
        refine awp_region (sys _ _ []) 49 89 hU rfl rfl ?_
        refine go_ ?_
        refine c0_ rfl rfl (r_buildFull sl22 z3 (by decide) rfl rfl rfl rfl ck3 (cs := [.int .i64 40, .int .i64 128]) (.cons .int (.cons .int .nil)) rfl (l := ([40, 128] : List Int)) (f := eI) rfl) rfl rfl ?_
        refine c0_ rfl rfl (r_buildFull sl22 z3 (by decide) rfl rfl rfl rfl ck3 (cs := [.int .i64 40, .int .i64 60]) (.cons .int (.cons .int .nil)) rfl (l := ([40, 60] : List Int)) (f := eI) rfl) rfl rfl ?_
        obtain ⟨y_4, hy_4, hg⟩ := bind_some hg
        refine cb_ [57, 65] [] [] true (w_ref02_among _ _ _ _ hy_4) ?_
        refine go_ ?_
        refine ch_n fun hU => ?_
        refine aw_r ?_
        obtain rfl := Option.some.inj hg
        exact fin_ [] ⟨rfl, rfl⟩
       ·refine awp_seq ?_
        refine awp_region (sys _ _ []) 49 65 hU rfl rfl ?_
        refine go_ ?_
        refine ch_n fun hU => ?_
        refine cg_ rfl hg (fun h39 hg => ?_) fun h39 hg => ?_
        ·refine awp_seq ?_
         refine awp_region (sys _ _ []) 65 105 hU rfl rfl ?_
         refine go_ ?_
         refine c0_ rfl rfl (r_buildFull sl22 z3 (by decide) rfl rfl rfl rfl ck3 (cs := [.int .i64 112, .int .i64 168]) (.cons .int (.cons .int .nil)) rfl (l := ([112, 168] : List Int)) (f := eI) rfl) rfl rfl ?_
         refine c0_ rfl rfl (r_buildFull sl22 z3 (by decide) rfl rfl rfl rfl ck3 (cs := [.int .i64 80, .int .i64 112]) (.cons .int (.cons .int .nil)) rfl (l := ([80, 112] : List Int)) (f := eI) rfl) rfl rfl ?_
         obtain ⟨y_5, hy_5, hg⟩ := bind_some hg
         refine cb_ [73, 81] [] [] true (w_ref02_among _ _ _ _ hy_5) ?_
         refine go_ ?_
         refine ch_n fun hU => ?_
         refine aw_r ?_
         obtain rfl := Option.some.inj hg
         exact fin_ [] ⟨rfl, rfl⟩
        ·refine awp_cut (ι := Bool) (fun (x62_4 : Bool) => mk [(1, .ptr 0 0), (3, .val (.int .i64 u.Bits)), (62, .val (.bool x62_4))] [(0, .box [.val (.int .i64 u.Alg), .val (.int .i64 u.Bits)] 43)] 1) (fun (x62_4 : Bool) => g_ref02_Strength.j4 u x62_4 = some r) ?_ ?_
         ·refine awp_seq ?_
          refine awp_region (sys _ _ []) 65 81 hU rfl rfl ?_
          refine go_ ?_
          refine ch_n fun hU => ?_
          refine cg_ rfl hg (fun h42 hg => ?_) fun h42 hg => ?_
          ·refine awp_skip ?_
           repeat first | refine st_ ?_ | refine sn_ ?_
           exact ⟨decide (u.Alg = 16), hg, sub_ [(0, 0)]⟩
          ·refine awp_region (sys _ _ []) 81 97 hU rfl rfl ?_
           refine go_ ?_
           refine ch_n fun hU => ?_
           exact ⟨decide (u.Alg = 17), hg, sub_ [(0, 0)]⟩
         ·rintro x62_4 hg
          replace hg : g_ref02_Strength.j4 u x62_4 = some r := hg
          show awp _ _ _ _ (mk _ _ _)
          unfold g_ref02_Strength.j4 at hg
          refine cg_ rfl hg (fun h44 hg => ?_) fun h44 hg => ?_
          ·refine awp_seq ?_
           refine awp_region (sys _ _ []) 1 41 mk_U rfl rfl ?_
           refine go_ ?_
           refine c0_ rfl rfl (r_buildFull sl22 z3 (by decide) rfl rfl rfl rfl ck3 (cs := [.int .i64 128, .int .i64 256]) (.cons .int (.cons .int .nil)) rfl (l := ([128, 256] : List Int)) (f := eI) rfl) rfl rfl ?_
           refine c0_ rfl rfl (r_buildFull sl22 z3 (by decide) rfl rfl rfl rfl ck3 (cs := [.int .i64 128, .int .i64 256]) (.cons .int (.cons .int .nil)) rfl (l := ([128, 256] : List Int)) (f := eI) rfl) rfl rfl ?_
           obtain ⟨y_6, hy_6, hg⟩ := bind_some hg
           refine cb_ [9, 17] [] [] true (w_ref02_among _ _ _ _ hy_6) ?_
           refine go_ ?_
           refine ch_n fun hU => ?_
           refine aw_r ?_
           obtain rfl := Option.some.inj hg
           exact fin_ [] ⟨rfl, rfl⟩
          ·refine awp_skip ?_
           repeat first | refine st_ ?_ | refine sn_ ?_
           refine sr_ 1 65 mk_U ?_
           refine go_ ?_
           refine c0_ rfl rfl (r_buildFull sl22 z3 (by decide) rfl rfl rfl rfl ck3 (cs := [.int .i64 0]) (.cons .int .nil) rfl (l := ([0] : List Int)) (f := eI) rfl) rfl rfl ?_
           refine go_ ?_
           obtain ⟨y_7, hy_7, hg⟩ := bind_some hg
           refine ca_ (w_ref02_single _ _ hy_7) ?_
           refine c0_ rfl rfl (r_buildFull sl22 z3 (by decide) rfl rfl rfl rfl ck3 (cs := [.int .i64 y_7]) (.cons .int .nil) rfl (l := ([y_7] : List Int)) (f := eI) rfl) rfl rfl ?_
           obtain ⟨y_8, hy_8, hg⟩ := bind_some hg
           refine cb_ [9, 41] [] [] true (w_ref02_among _ _ _ _ hy_8) ?_
           refine go_ ?_
           refine ch_n fun hU => ?_
           refine aw_r ?_
           obtain rfl := Option.some.inj hg
           exact fin_ [] ⟨rfl, rfl⟩
theorem w_ref02_Valid (u : api_Use) (r : Bool) (hg : g_ref02_Valid u = some r) : Fn Try.prog 40 0 [.agg [.val (.int .i64 u.Alg), .val (.int .i64 u.Bits)]] [] (fun d' b' => d' = .val (.bool r) ∧ b' = []) := by
 unfold g_ref02_Valid at hg
 refine Fn.of Try.func40 rfl rfl rfl fun w0 I ρ0 => ?_
 show awp _ ⟨w0, I, ρ0, 0, 0, 6⟩ _ _ _
 refine sr_ 0 16 mk_U ?_
 refine go_ ?_
 refine ch_n fun hU => ?_
 refine sr_ 16 48 hU ?_
 refine go_ ?_
 obtain ⟨y, hy, hg⟩ := bind_some hg
 refine ca_ (w_ref02_Strength _ _ hy) ?_
 refine go_ ?_
 refine ch_n fun hU => ?_
 refine aw_r ?_
 obtain rfl := Option.some.inj hg
 exact fin_ [] ⟨rfl, rfl⟩
theorem w_ref11_Check (p : (List api_Pattern)) (r : Int) (hg : g_ref11_Check p = some r) : Fn Try.prog 18 0 [.sl 3 (encL api_Pattern.enc p)] [] (fun d' b' => d' = .val (.int .i64 r) ∧ b' = []) := by
 unfold g_ref11_Check at hg
 refine Fn.of Try.func18 rfl rfl rfl fun w0 I ρ0 => ?_
 show awp _ ⟨w0, I, ρ0, 0, 0, 38⟩ _ _ _
 refine sr_ 0 8 mk_U ?_
 refine go_ ?_
 refine ch_n fun hU => ?_
 refine awp_seq ?_
 refine sr_ 8 32 hU ?_
 refine go_ ?_
 refine ch_n fun hU => ?_
 refine cg_ rfl hg (fun h3 hg => ?_) fun h3 hg => ?_
 ·refine awp_seq ?_
  refine awp_region (sys _ _ []) 32 40 hU rfl rfl ?_
  refine go_ ?_
  refine ch_n fun hU => ?_
  refine aw_r ?_
  obtain rfl := Option.some.inj hg
  exact fin_ [] ⟨rfl, rfl⟩
 ·refine awp_skip ?_
  repeat first | refine st_ ?_ | refine sn_ ?_
  refine awp_seq ?_
  refine sr_ 32 40 hU ?_
  refine go_ ?_
  refine ch_n fun hU => ?_
  refine awp_block ?_
  refine lp_ (fun (i_1 : Int) => mk [(0, .sl 3 (encL api_Pattern.enc p)), (3, .val (.int .i64 i_1))] [] 0) hg (sub_ []) ?_
  rintro i_1 m1 o1 hg hn1
  replace hg : g_ref11_Check.l1 p i_1 = some o1 := hg
  show awp _ _ _ _ (mk _ _ _)
  unfold g_ref11_Check.l1 at hg
  refine awp_seq ?_
  refine sr_ 0 32 mk_U ?_
  refine go_ ?_
  refine ch_n fun hU => ?_
  refine cg_ rfl hg (fun h7 hg => ?_) fun h7 hg => ?_
  ·refine awp_skip ?_
   repeat first | refine st_ ?_ | refine sn_ ?_
   refine awp_seq ?_
   refine awp_block ?_
   refine awp_cut (ι := Bool) (fun (x37_2 : Bool) => mk [(0, .sl 3 (encL api_Pattern.enc p)), (3, .val (.int .i64 i_1)), (37, .val (.bool x37_2))] [] 0) (fun (x37_2 : Bool) => g_ref11_Check.j2 i_1 x37_2 = some o1) ?_ ?_
   ·refine awp_region (sys _ _ []) 32 232 hU rfl rfl ?_
    refine go_ ?_
    obtain ⟨e, he, hg⟩ := bind_some hg
    refine go_ ?_
    refine c0_ rfl rfl (r_fieldE fd45_1 ty27 (by decide) (enc_lt api_Pattern.enc_len (getI_at he) (o := 2) (by decide) rfl)) rfl rfl ?_
    refine c0_ rfl rfl (r_loadE1 ty27 (enc_cell api_Pattern.enc_len (getI_at he) (o := 2) (c := .sl 1 (encL e8 e.Bytes)) rfl rfl)) rfl rfl ?_
    refine go_ ?_
    rcases bc_ hg with ⟨h8, hg⟩ | ⟨h8, hg⟩
    ·refine go_ ?_
     refine ch_n fun hU => ?_
     exact ⟨true, hg, sub_ []⟩
    ·refine go_ ?_
     refine c0_ (gdv_t rfl rfl h8) rfl (r_fieldE fd45_1 ty27 (by decide) (enc_lt api_Pattern.enc_len (getI_at he) (o := 2) (by decide) rfl)) rfl rfl ?_
     refine c0_ (gdv_t rfl rfl h8) rfl (r_loadE1 ty27 (enc_cell api_Pattern.enc_len (getI_at he) (o := 2) (c := .sl 1 (encL e8 e.Bytes)) rfl rfl)) rfl rfl ?_
     refine go_ ?_
     rcases bc_ hg with ⟨h10, hg⟩ | ⟨h10, hg⟩
     ·refine go_ ?_
      refine ch_n fun hU => ?_
      exact ⟨true, hg, sub_ []⟩
     ·refine go_ ?_
      refine c0_ (gdv_t rfl rfl h10) rfl (r_fieldE fd45_0 ty43 (by decide) (enc_lt api_Pattern.enc_len (getI_at he) (o := 0) (by decide) rfl)) rfl rfl ?_
      refine c0_ (gdv_t rfl rfl h10) rfl (r_loadEA ty43 (enc_cells api_Pattern.enc_len (getI_at he) (o := 0) (m := 2) (cs := [.int .i64 e.Use.Alg, .int .i64 e.Use.Bits]) rfl (by decide) rfl) (enc_cells_le api_Pattern.enc_len (getI_at he) (o := 0) (m := 2) (by decide) rfl)) rfl rfl ?_
      obtain ⟨y, hy, hg⟩ := bind_some hg
      refine ca_ (w_ref02_Valid _ _ hy) ?_
      refine go_ ?_
      refine ch_n fun hU => ?_
      exact ⟨!y, hg, sub_ []⟩
   ·rintro x37_2 hg
    replace hg : g_ref11_Check.j2 i_1 x37_2 = some o1 := hg
    show awp _ _ _ _ (mk _ _ _)
    unfold g_ref11_Check.j2 at hg
    refine cg_ rfl hg (fun h13 hg => ?_) fun h13 hg => ?_
    ·refine awp_seq ?_
     refine awp_region (sys _ _ []) 0 8 mk_U rfl rfl ?_
     refine go_ ?_
     refine ch_n fun hU => ?_
     refine aw_r ?_
     replace hg := leave hg hn1
     obtain rfl := Option.some.inj hg
     exact fin_ [] ⟨rfl, rfl⟩
    ·refine awp_skip ?_
     repeat first | refine st_ ?_ | refine sn_ ?_
     refine awp_region (sys _ _ []) 0 24 mk_U rfl rfl ?_
     refine go_ ?_
     refine ch_n fun hU => ?_
     obtain rfl := Option.some.inj hg
     exact ⟨(W (i_1 + 1), m1), Nat.lt_succ_self _, hn1, sub_ []⟩
  ·refine awp_exit ?_
   repeat first | refine st_ ?_ | refine sn_ ?_
   replace hg := leave hg hn1
   refine sr_ 32 40 hU ?_
   refine go_ ?_
   refine ch_n fun hU => ?_
   refine aw_r ?_
   obtain rfl := Option.some.inj hg
   exact fin_ [] ⟨rfl, rfl⟩
theorem w_ref11_at (p : (List UInt8)) (b : (List UInt8)) (i : Int) (r : Bool) (hg : g_ref11_at p b i = some r) : Fn Try.prog 37 0 [.sl 1 (encL e8 p), .sl 1 (encL e8 b), .val (.int .i64 i)] [] (fun d' b' => d' = .val (.bool r) ∧ b' = []) := by
 unfold g_ref11_at at hg
 refine Fn.of Try.func37 rfl rfl rfl fun w0 I ρ0 => ?_
 show awp _ ⟨w0, I, ρ0, 0, 0, 27⟩ _ _ _
 refine sr_ 0 8 mk_U ?_
 refine go_ ?_
 refine ch_n fun hU => ?_
 refine awp_seq ?_
 refine awp_draw (sys _ _ []) (by kernel_rfl) [0, 1, 0, 4, 0, 28, 63, 127, 255, 255, 255, 255, 2303, 7423, 16383, 32767, 255, 65791, 262143, 524287, 1048575] 8 176 hU rfl rfl (by kernel_rfl) ?_
 refine go_ ?_
 rcases bc_ hg with ⟨h2, hg⟩ | ⟨h2, hg⟩
 ·refine go_ ?_
  obtain ⟨l, hl, hg⟩ := bind_some hg
  refine c0_ (gdv_t rfl rfl h2) rfl (r_sliS sl27 e8_len hl) rfl rfl ?_
  refine c0_ (gdv_t rfl rfl h2) rfl (r_convS und27 und5 und9 .sl rfl) rfl rfl ?_
  refine go_ ?_
  refine c0_ (gdv_t rfl rfl h2) rfl (r_convS und27 und5 und9 .sl rfl) rfl rfl ?_
  refine go_ ?_
  refine ch_n fun hU => ?_
  refine aw_r ?_
  obtain rfl := Option.some.inj hg
  exact fin_ [] ⟨rfl, rfl⟩
 ·refine go_ ?_
  refine ch_n fun hU => ?_
  refine aw_r ?_
  obtain rfl := Option.some.inj hg
  exact fin_ [] ⟨rfl, rfl⟩
theorem w_ref11_Find (p : (List api_Pattern)) (b : (List UInt8)) (r : (List api_Hit) × Int) (hg : g_ref11_Find p b = some r) : Fn Try.prog 14 0 [.sl 3 (encL api_Pattern.enc p), .sl 1 (encL e8 b)] [] (fun d' b' => d' = .tup [.sl 2 (encL api_Hit.enc r.1), .val (.int .i64 r.2)] ∧ b' = []) := by
 unfold g_ref11_Find at hg
 refine Fn.of Try.func14 rfl rfl rfl fun w0 I ρ0 => ?_
 show awp _ ⟨w0, I, ρ0, 0, 0, 48⟩ _ _ _
 refine sr_ 0 16 mk_U ?_
 refine go_ ?_
 refine ch_n fun hU => ?_
 refine awp_seq ?_
 refine sr_ 16 40 hU ?_
 refine go_ ?_
 obtain ⟨y, hy, hg⟩ := bind_some hg
 refine ca_ (w_ref11_Check _ _ hy) ?_
 refine go_ ?_
 refine ch_n fun hU => ?_
 refine sr_ 40 56 hU ?_
 refine go_ ?_
 refine ch_n fun hU => ?_
 refine cg_ rfl hg (fun h4 hg => ?_) fun h4 hg => ?_
 ·refine awp_seq ?_
  refine awp_region (sys _ _ []) 56 80 hU rfl rfl ?_
  refine go_ ?_
  refine ch_n fun hU => ?_
  refine aw_r ?_
  obtain rfl := Option.some.inj hg
  exact fin_ [] ⟨rfl, rfl⟩
 ·refine awp_skip ?_
  repeat first | refine st_ ?_ | refine sn_ ?_
  refine awp_seq ?_
  refine sr_ 56 80 hU ?_
  refine go_ ?_
  refine ch_n fun hU => ?_
  refine cg_ rfl hg (fun h7 hg => ?_) fun h7 hg => ?_
  ·refine awp_seq ?_
   refine awp_region (sys _ _ []) 80 96 hU rfl rfl ?_
   refine go_ ?_
   refine ch_n fun hU => ?_
   refine aw_r ?_
   obtain rfl := Option.some.inj hg
   exact fin_ [] ⟨rfl, rfl⟩
  ·refine awp_skip ?_
   repeat first | refine st_ ?_ | refine sn_ ?_
   refine sr_ 80 88 hU ?_
   refine go_ ?_
   refine ch_n fun hU => ?_
   refine awp_seq ?_
   refine sr_ 88 96 hU ?_
   refine go_ ?_
   refine ch_n fun hU => ?_
   refine awp_block ?_
   refine lp_ (fun ((i_1, out_1) : Int × List api_Hit) => mk [(0, .sl 3 (encL api_Pattern.enc p)), (1, .sl 1 (encL e8 b)), (7, .row 0), (8, .val (.int .i64 i_1))] [(0, .row 47 2 (encL api_Hit.enc out_1))] 1) hg (sub_ []) ?_
   rintro ⟨i_1, out_1⟩ m1 o1 hg hn1
   replace hg : g_ref11_Find.l1 p b i_1 out_1 = some o1 := hg
   show awp _ _ _ _ (mk _ _ _)
   unfold g_ref11_Find.l1 at hg
   refine awp_seq ?_
   refine sr_ 1 33 mk_U ?_
   refine go_ ?_
   refine ch_n fun hU => ?_
   refine cg_ rfl hg (fun h12 hg => ?_) fun h12 hg => ?_
   ·refine awp_skip ?_
    repeat first | refine st_ ?_ | refine sn_ ?_
    refine awp_seq ?_
    refine awp_block ?_
    refine awp_seq ?_
    refine sr_ 33 41 hU ?_
    refine go_ ?_
    refine ch_n fun hU => ?_
    refine awp_block ?_
    refine lp_ (fun ((k_2, out_2) : Int × List api_Hit) => mk [(0, .sl 3 (encL api_Pattern.enc p)), (1, .sl 1 (encL e8 b)), (7, .row 0), (8, .val (.int .i64 i_1)), (9, .val (.int .i64 k_2))] [(0, .row 47 2 (encL api_Hit.enc out_2))] 1) hg (sub_ [(0, 0)]) ?_
    rintro ⟨k_2, out_2⟩ m2 o2 hg hn2
    replace hg : g_ref11_Find.l2 p b i_1 k_2 out_2 = some o2 := hg
    show awp _ _ _ _ (mk _ _ _)
    unfold g_ref11_Find.l2 at hg
    refine awp_seq ?_
    refine sr_ 1 33 mk_U ?_
    refine go_ ?_
    refine ch_n fun hU => ?_
    refine cg_ rfl hg (fun h15 hg => ?_) fun h15 hg => ?_
    ·refine awp_skip ?_
     repeat first | refine st_ ?_ | refine sn_ ?_
     refine awp_cut (ι := List api_Hit) (fun (out_3 : List api_Hit) => mk [(0, .sl 3 (encL api_Pattern.enc p)), (1, .sl 1 (encL e8 b)), (7, .row 0), (8, .val (.int .i64 i_1)), (9, .val (.int .i64 k_2))] [(0, .row 47 2 (encL api_Hit.enc out_3))] 1) (fun (out_3 : List api_Hit) => g_ref11_Find.j3 k_2 out_3 = some o2) ?_ ?_
     ·refine awp_block ?_
      refine sr_ 33 97 hU ?_
      refine go_ ?_
      obtain ⟨e, he, hg⟩ := bind_some hg
      refine go_ ?_
      refine c0_ rfl rfl (r_fieldE fd45_1 ty27 (by decide) (enc_lt api_Pattern.enc_len (getI_at he) (o := 2) (by decide) rfl)) rfl rfl ?_
      refine c0_ rfl rfl (r_loadE1 ty27 (enc_cell api_Pattern.enc_len (getI_at he) (o := 2) (c := .sl 1 (encL e8 e.Bytes)) rfl rfl)) rfl rfl ?_
      refine go_ ?_
      obtain ⟨y_2, hy_2, hg⟩ := bind_some hg
      refine ca_ (w_ref11_at _ _ _ _ hy_2) ?_
      refine ch_n fun hU => ?_
      refine cg_ rfl hg (fun h17 hg => ?_) fun h17 hg => ?_
      ·refine awp_region (sys _ _ []) 97 153 hU rfl rfl ?_
       refine go_ ?_
       refine c0_ rfl rfl (.build (r := [.val (.int .i64 k_2), .val (.int .i64 i_1)]) und47 pl47 z47 (by kernel_rfl) rfl) rfl rfl ?_
       refine c0_ rfl rfl (r_buildFull sl31 z47 (by decide) rfl rfl rfl rfl ck47 (cs := [.int .i64 k_2, .int .i64 i_1]) (.cons .int (.cons .int .nil)) rfl (l := ([(api_Hit.mk k_2 i_1)] : List api_Hit)) (f := api_Hit.enc) rfl) rfl rfl ?_
       obtain ⟨l, hl, hg⟩ := bind_some hg
       refine ch_s (rd := [0, 129]) rfl rfl (r_append sl31 api_Hit.enc_len .row rfl .row rfl hl rfl) rfl rfl ?_
       refine go_ ?_
       refine ch_n fun hU => ?_
       exact ⟨l, hg, sub_ [(0, 137)]⟩
      ·refine awp_skip ?_
       repeat first | refine st_ ?_ | refine sn_ ?_
       exact ⟨out_2, hg, sub_ [(0, 0)]⟩
     ·rintro out_3 hg
      replace hg : g_ref11_Find.j3 k_2 out_3 = some o2 := hg
      show awp _ _ _ _ (mk _ _ _)
      unfold g_ref11_Find.j3 at hg
      refine awp_region (sys _ _ []) 1 25 mk_U rfl rfl ?_
      refine go_ ?_
      refine ch_n fun hU => ?_
      obtain rfl := Option.some.inj hg
      exact ⟨((W (k_2 + 1), out_3), m2), Nat.lt_succ_self _, hn2, sub_ [(0, 0)]⟩
    ·refine awp_exit ?_
     repeat first | refine st_ ?_ | refine sn_ ?_
     replace hg := leave hg hn2
     refine sr_ 33 57 hU ?_
     refine go_ ?_
     refine ch_n fun hU => ?_
     refine cg_ rfl hg (fun h21 hg => ?_) fun h21 hg => ?_
     ·refine awp_seq ?_
      refine awp_region (sys _ _ []) 57 73 hU rfl rfl ?_
      refine go_ ?_
      refine ch_n fun hU => ?_
      refine aw_r ?_
      replace hg := leave hg hn1
      obtain rfl := Option.some.inj hg
      exact fin_ [] ⟨rfl, rfl⟩
     ·refine awp_skip ?_
      repeat first | refine st_ ?_ | refine sn_ ?_
      refine awp_region (sys _ _ []) 57 81 hU rfl rfl ?_
      refine go_ ?_
      refine ch_n fun hU => ?_
      obtain rfl := Option.some.inj hg
      exact ⟨((W (i_1 + 1), out_2), m1), Nat.lt_succ_self _, hn1, sub_ [(0, 0)]⟩
   ·refine awp_exit ?_
    repeat first | refine st_ ?_ | refine sn_ ?_
    replace hg := leave hg hn1
    refine sr_ 33 57 hU ?_
    refine go_ ?_
    refine ch_n fun hU => ?_
    refine aw_r ?_
    obtain rfl := Option.some.inj hg
    exact fin_ [] ⟨rfl, rfl⟩
end Go.Proofs.Ytfkgbfhpibiheaa
