/- The program computes the plain functions. -/
import Derived.Test.YtggimglopfdhiaaT1
import Derived.Test.YtggimglopfdhiaaA2
import Derived.Test.YtggimglopfdhiaaA3
import Derived.Test.YtggimglopfdhiaaA4
set_option linter.unusedVariables false
set_option linter.unusedSimpArgs false
set_option maxRecDepth 100000
set_option maxHeartbeats 1600000
namespace Go.Proofs.Ytggimglopfdhiaa
open Go.RowKit
theorem w_chain_Until (l : (List api_Certificate)) (r : Int) (hg : g_chain_Until l = some r) : Fn Try.prog 15 0 [.sl 15 (encL api_Certificate.enc l)] [] (fun d b => d = .val (.int .i64 r) ∧ b = []) := by
 unfold g_chain_Until at hg
 refine Fn.of Try.func15 rfl rfl rfl fun w0 I ρ0 => ?_
 show awp _ ⟨w0, I, ρ0, 0, 0, 25⟩ _ _ _
 refine sr_ 0 8 mk_U ?_
 refine go_ ?_
 refine ch_n fun hU => ?_
 refine awp_seq ?_
 refine sr_ 8 32 hU ?_
 refine go_ ?_
 refine ch_n fun hU => ?_
 refine cg_ rfl hg (fun h3 hg => ?_) fun h3 hg => ?_
 ·refine awp_seq ?_
  refine awp_region (sys _ _ []) 32 40 hU rfl rfl ?_
  refine go_ ?_
  refine ch_n fun hU => ?_
  refine aw_r ?_
  obtain rfl := Option.some.inj hg
  exact fin_ [] ⟨rfl, rfl⟩
 ·refine awp_skip ?_
  repeat first | refine st_ ?_ | refine sn_ ?_
  refine sr_ 32 72 hU ?_
  refine go_ ?_
  obtain ⟨e, he, hg⟩ := bind_some hg
  refine go_ ?_
  refine c0_ rfl rfl (r_fieldE fd40_7 ty3 (by decide) (enc_lt api_Certificate.enc_len (getI_at he) (o := 9) (by decide) rfl)) rfl rfl ?_
  refine c0_ rfl rfl (r_loadE1 ty3 (enc_cell api_Certificate.enc_len (getI_at he) (o := 9) (c := .int .i64 e.To) rfl rfl)) rfl rfl ?_
  refine go_ ?_
  refine ch_n fun hU => ?_
  refine awp_seq ?_
  refine sr_ 72 96 hU ?_
  refine go_ ?_
  refine ch_n fun hU => ?_
  refine awp_block ?_
  refine lp_ (fun ((least_1, x15_1) : Int × Int) => mk [(3, .val (.int .i64 least_1)), (13, .sl 15 (encL api_Certificate.enc l)), (14, .val (.int .i64 (l.length : Int))), (15, .val (.int .i64 x15_1))] [] 0) hg (sub_ []) ?_
  rintro ⟨least_1, x15_1⟩ m1 o1 hg hn1
  replace hg : g_chain_Until.l1 l least_1 x15_1 = some o1 := hg
  show awp _ _ _ _ (mk _ _ _)
  unfold g_chain_Until.l1 at hg
  refine sr_ 0 8 mk_U ?_
  refine go_ ?_
  refine ch_n fun hU => ?_
  refine awp_seq ?_
  refine cg_ rfl hg (fun h8 hg => ?_) fun h8 hg => ?_
  ·refine awp_skip ?_
   repeat first | refine st_ ?_ | refine sn_ ?_
   refine awp_seq ?_
   refine awp_block ?_
   refine sr_ 8 40 hU ?_
   obtain ⟨e_2, he_2, hg⟩ := bind_some hg
   refine go_ ?_
   refine c0_ rfl rfl (r_loadEA ty40 (enc_cells api_Certificate.enc_len (getI_at he_2) (o := 0) (m := 15) (cs := [.int .i64 e_2.Serial, .str e_2.Issuer, .str e_2.Subject, .int .i64 e_2.Key.Alg, .int .i64 e_2.Key.Bits, .int .i64 e_2.KeyId, .int .i64 e_2.Hash.Alg, .int .i64 e_2.Hash.Bits, .int .i64 e_2.From, .int .i64 e_2.To, .bool e_2.Authority, .int .i64 e_2.Path, .sl 1 (encL eS e_2.Names), .int .i64 e_2.Seal.Key, .int .i64 e_2.Seal.Sum]) rfl (by decide) rfl) (enc_cells_le api_Certificate.enc_len (getI_at he_2) (o := 0) (m := 15) (by decide) rfl)) rfl rfl ?_
   refine go_ ?_
   refine ch_n fun hU => ?_
   refine awp_region (sys _ _ []) 40 80 hU rfl rfl ?_
   refine go_ ?_
   refine c0_ rfl rfl r_min rfl rfl ?_
   refine go_ ?_
   refine ch_n fun hU => ?_
   refine awp_region (sys _ _ []) 80 96 hU rfl rfl ?_
   refine go_ ?_
   refine ch_n fun hU => ?_
   obtain rfl := Option.some.inj hg
   exact ⟨((min least_1 e_2.To, W (x15_1 + 1)), m1), Nat.lt_succ_self _, hn1, sub_ []⟩
  ·refine awp_exit ?_
   repeat first | refine st_ ?_ | refine sn_ ?_
   replace hg := leave hg hn1
   refine sr_ 8 24 hU ?_
   refine go_ ?_
   refine ch_n fun hU => ?_
   refine aw_r ?_
   obtain rfl := Option.some.inj hg
   exact fin_ [] ⟨rfl, rfl⟩
theorem w_law04_awake  (r : Bool) (hg : g_law04_awake = some r) : Fn Try.prog 5 0 [] [] (fun d b => d = .val (.bool r) ∧ b = []) := by
 unfold g_law04_awake at hg
 refine Fn.of Try.func5 rfl rfl rfl fun w0 I ρ0 => ?_
 show awp _ ⟨w0, I, ρ0, 0, 0, 35⟩ _ _ _
 refine sr_ 0 8 mk_U ?_
 refine go_ ?_
 refine ch_n fun hU => ?_
 refine sr_ 8 56 hU ?_
 refine c0_ rfl rfl (.build (r := [.val (.int .i64 5), .val (.int .i64 2048)]) und30 pl30 z30 (by kernel_rfl) rfl) rfl rfl ?_
 refine c0_ rfl rfl (.build (r := [.val (.int .i64 3), .val (.int .i64 0)]) und30 pl30 z30 (by kernel_rfl) rfl) rfl rfl ?_
 refine c0_ rfl rfl (r_buildFull sl36 z9 (by decide) rfl rfl rfl rfl ck9 (cs := [.str (⟨#[119, 101, 98]⟩ : ByteArray)]) (.cons .str .nil) rfl (l := ([(⟨#[119, 101, 98]⟩ : ByteArray)] : List ByteArray)) (f := eS) rfl) rfl rfl ?_
 refine c0_ rfl rfl (.build (r := [.val (.int .i64 0), .val (.string (⟨#[99, 97]⟩ : ByteArray)), .val (.string (⟨#[119, 101, 98]⟩ : ByteArray)), .val (.int .i64 5), .val (.int .i64 2048), .val (.int .i64 7), .val (.int .i64 3), .val (.int .i64 0), .val (.int .i64 0), .val (.int .i64 9), .val (.bool false), .val (.int .i64 0), .row 24, .val (.int .i64 0), .val (.int .i64 0)]) und40 pl40 z40 (by kernel_rfl) rfl) rfl rfl ?_
 refine go_ ?_
 refine ch_n fun hU => ?_
 refine awp_seq ?_
 refine awp_sub (σ' := mk [(1, .ptr 0 0)] [(0, .box [.val (.int .i64 0), .val (.string (⟨#[99, 97]⟩ : ByteArray)), .val (.string (⟨#[119, 101, 98]⟩ : ByteArray)), .val (.int .i64 5), .val (.int .i64 2048), .val (.int .i64 7), .val (.int .i64 3), .val (.int .i64 0), .val (.int .i64 0), .val (.int .i64 9), .val (.bool false), .val (.int .i64 0), .sl 1 (encL eS ([(⟨#[119, 101, 98]⟩ : ByteArray)] : List ByteArray)), .val (.int .i64 0), .val (.int .i64 0)] 40)] 1) (sub_ [(0, 40)]) ?_
 refine awp_region (sys _ _ []) 1 49 mk_U rfl rfl ?_
 refine go_ ?_
 obtain ⟨y, hy, hg⟩ := bind_some hg
 refine ca_ (w_ref03_Sign _ _ _ hy) ?_
 refine go_ ?_
 refine ch_n fun hU => ?_
 refine sr_ 49 73 hU ?_
 refine go_ ?_
 refine c0_ rfl rfl (r_buildFull sl27 z40 (by decide) rfl rfl rfl rfl ck40 (cs := [.int .i64 y.1.Serial, .str y.1.Issuer, .str y.1.Subject, .int .i64 y.1.Key.Alg, .int .i64 y.1.Key.Bits, .int .i64 y.1.KeyId, .int .i64 y.1.Hash.Alg, .int .i64 y.1.Hash.Bits, .int .i64 y.1.From, .int .i64 y.1.To, .bool y.1.Authority, .int .i64 y.1.Path, .sl 1 (encL eS y.1.Names), .int .i64 y.1.Seal.Key, .int .i64 y.1.Seal.Sum]) (.cons .int (.cons .str (.cons .str (.cons .int (.cons .int (.cons .int (.cons .int (.cons .int (.cons .int (.cons .int (.cons .bool (.cons .int (.cons .sl (.cons .int (.cons .int .nil))))))))))))))) rfl (l := ([y.1] : List api_Certificate)) (f := api_Certificate.enc) rfl) rfl rfl ?_
 refine go_ ?_
 refine ch_n fun hU => ?_
 refine sr_ 73 249 hU ?_
 refine go_ ?_
 refine c0_ rfl rfl (r_buildFull sl22 z3 (by decide) rfl rfl rfl rfl ck3 (cs := [.int .i64 3]) (.cons .int .nil) rfl (l := ([3] : List Int)) (f := eI) rfl) rfl rfl ?_
 refine c0_ rfl rfl (r_buildFull sl22 z3 (by decide) rfl rfl rfl rfl ck3 (cs := [.int .i64 3]) (.cons .int .nil) rfl (l := ([3] : List Int)) (f := eI) rfl) rfl rfl ?_
 obtain ⟨y_2, hy_2, hg⟩ := bind_some hg
 refine cb_ [57, 81, 89] [] [] true (w_chain_Check _ _ _ _ _ _ hy_2) ?_
 refine go_ ?_
 rcases bc_ hg with ⟨h5, hg⟩ | ⟨h5, hg⟩
 ·refine go_ ?_
  refine c0_ (gdv_t rfl rfl h5) rfl (r_buildFull sl22 z3 (by decide) rfl rfl rfl rfl ck3 (cs := [.int .i64 4]) (.cons .int .nil) rfl (l := ([4] : List Int)) (f := eI) rfl) rfl rfl ?_
  refine c0_ (gdv_t rfl rfl h5) rfl (r_buildFull sl22 z3 (by decide) rfl rfl rfl rfl ck3 (cs := [.int .i64 3]) (.cons .int .nil) rfl (l := ([3] : List Int)) (f := eI) rfl) rfl rfl ?_
  obtain ⟨y_3, hy_3, hg⟩ := bind_some hg
  refine cb_ [57, 129, 137] [] [] true (w_chain_Check _ _ _ _ _ _ hy_3) ?_
  refine go_ ?_
  rcases bc_ hg with ⟨h6, hg⟩ | ⟨h6, hg⟩
  ·refine go_ ?_
   obtain ⟨y_4, hy_4, hg⟩ := bind_some hg
   refine cb_ [57] [] [] true (w_chain_Until _ _ hy_4) ?_
   refine go_ ?_
   rcases bc_ hg with ⟨h7, hg⟩ | ⟨h7, hg⟩
   ·refine go_ ?_
    obtain ⟨y_5, hy_5, hg⟩ := bind_some hg
    refine cb_ [57] [] [] true (w_chain_Path _ _ _ hy_5) ?_
    refine go_ ?_
    refine ch_n fun hU => ?_
    refine aw_r ?_
    obtain rfl := Option.some.inj hg
    exact fin_ [] ⟨rfl, rfl⟩
   ·refine go_ ?_
    refine ch_n fun hU => ?_
    refine aw_r ?_
    obtain rfl := Option.some.inj hg
    exact fin_ [] ⟨rfl, rfl⟩
  ·refine go_ ?_
   refine ch_n fun hU => ?_
   refine aw_r ?_
   obtain rfl := Option.some.inj hg
   exact fin_ [] ⟨rfl, rfl⟩
 ·refine go_ ?_
  refine ch_n fun hU => ?_
  refine aw_r ?_
  obtain rfl := Option.some.inj hg
  exact fin_ [] ⟨rfl, rfl⟩
theorem w_make_Roll (l : (List Int)) (r : cipherplanmake_Dice) (hg : g_make_Roll l = some r) : Fn Try.prog 6 0 [.sl 1 (encL eI l)] [] (fun d b => d = .ptr 0 0 ∧ b = [.box [.sl 1 (encL eI r.L), .val (.int .i64 r.At)] 49]) := by
 unfold g_make_Roll at hg
 refine Fn.of Try.func6 rfl rfl rfl fun w0 I ρ0 => ?_
 show awp _ ⟨w0, I, ρ0, 0, 0, 6⟩ _ _ _
 refine sr_ 0 8 mk_U ?_
 refine go_ ?_
 refine ch_n fun hU => ?_
 refine sr_ 8 40 hU ?_
 refine go_ ?_
 refine c0_ rfl rfl (.build (r := [.sl 1 (encL eI l), .val (.int .i64 0)]) und49 pl49 z49 (by kernel_rfl) rfl) rfl rfl ?_
 refine go_ ?_
 refine ch_n fun hU => ?_
 refine aw_r ?_
 obtain rfl := Option.some.inj hg
 exact fin_ [(0, 24)] ⟨rfl, rfl⟩
theorem w_make_Mod (n : Int) (k : Int) (r : Int) (hg : g_make_Mod n k = some r) : Fn Try.prog 35 0 [.val (.int .i64 n), .val (.int .i64 k)] [] (fun d b => d = .val (.int .i64 r) ∧ b = []) := by
 unfold g_make_Mod at hg
 refine Fn.of Try.func35 rfl rfl rfl fun w0 I ρ0 => ?_
 show awp _ ⟨w0, I, ρ0, 0, 0, 14⟩ _ _ _
 refine sr_ 0 8 mk_U ?_
 refine go_ ?_
 refine ch_n fun hU => ?_
 refine awp_seq ?_
 refine sr_ 8 24 hU ?_
 refine go_ ?_
 refine ch_n fun hU => ?_
 refine cg_ rfl hg (fun h3 hg => ?_) fun h3 hg => ?_
 ·refine awp_seq ?_
  refine awp_region (sys _ _ []) 24 32 hU rfl rfl ?_
  refine go_ ?_
  refine ch_n fun hU => ?_
  refine aw_r ?_
  obtain rfl := Option.some.inj hg
  exact fin_ [] ⟨rfl, rfl⟩
 ·refine awp_skip ?_
  repeat first | refine st_ ?_ | refine sn_ ?_
  refine sr_ 24 88 hU ?_
  refine go_ ?_
  obtain ⟨q, hq, hg⟩ := bind_some hg
  refine c0_ rfl rfl (r_rem hq) rfl rfl ?_
  refine go_ ?_
  obtain ⟨q_2, hq_2, hg⟩ := bind_some hg
  refine c0_ rfl rfl (r_rem hq_2) rfl rfl ?_
  refine go_ ?_
  refine ch_n fun hU => ?_
  refine aw_r ?_
  obtain rfl := Option.some.inj hg
  exact fin_ [] ⟨rfl, rfl⟩
theorem w_make_Dice_Next (d : cipherplanmake_Dice) (n : Int) (r : Int × cipherplanmake_Dice) (hg : g_make_Dice_Next d n = some r) : Fn Try.prog 17 1 [.ptr 0 0, .val (.int .i64 n)] [.box [.sl 1 (encL eI d.L), .val (.int .i64 d.At)] 49] (fun d b => d = .val (.int .i64 r.1) ∧ b = [.box [.sl 1 (encL eI r.2.L), .val (.int .i64 r.2.At)] 49]) := by
 unfold g_make_Dice_Next at hg
 refine Fn.of Try.func17 rfl rfl rfl fun w0 I ρ0 => ?_
 show awp _ ⟨w0, I, ρ0, 1, 1, 35⟩ _ _ _
 refine sr_ 1 9 mk_U ?_
 refine go_ ?_
 refine ch_n fun hU => ?_
 refine awp_seq ?_
 refine awp_seq ?_
 refine awp_draw (sys _ _ []) (by kernel_rfl) [0, 1, 3, 7, 0, 16, 48, 112, 240, 511] 9 89 hU rfl rfl (by kernel_rfl) ?_
 refine go_ ?_
 refine ch_n fun hU => ?_
 refine cg_ rfl hg (fun h3 hg => ?_) fun h3 hg => ?_
 ·refine awp_seq ?_
  refine awp_region (sys _ _ []) 89 97 hU rfl rfl ?_
  refine go_ ?_
  refine ch_n fun hU => ?_
  refine aw_r ?_
  obtain rfl := Option.some.inj hg
  exact fin_ [(0, 0)] ⟨rfl, rfl⟩
 ·refine awp_skip ?_
  repeat first | refine st_ ?_ | refine sn_ ?_
  refine sr_ 89 153 hU ?_
  refine go_ ?_
  refine ch_n fun hU => ?_
  refine awp_seq ?_
  refine awp_draw (sys _ _ []) (by kernel_rfl) [0, 1, 3, 7, 0, 16, 48, 112, 240, 511, 1023, 0, 4095, 8191] 153 265 hU rfl rfl (by kernel_rfl) ?_
  refine go_ ?_
  obtain ⟨e, he, hg⟩ := bind_some hg
  refine go_ ?_
  refine c0_ rfl rfl (r_loadE1 ty3 (enc_cell eI_len (getI_at he) (o := 0) (c := .int .i64 e) rfl rfl)) rfl rfl ?_
  refine go_ ?_
  obtain ⟨y, hy, hg⟩ := bind_some hg
  refine ca_ (w_make_Mod _ _ _ hy) ?_
  refine go_ ?_
  refine ch_n fun hU => ?_
  refine aw_r ?_
  obtain rfl := Option.some.inj hg
  exact fin_ [(0, 0)] ⟨rfl, rfl⟩
theorem w_make_Dice_Of (d : cipherplanmake_Dice) (l : (List Int)) (r : Int × cipherplanmake_Dice) (hg : g_make_Dice_Of d l = some r) : Fn Try.prog 9 1 [.ptr 0 0, .sl 1 (encL eI l)] [.box [.sl 1 (encL eI d.L), .val (.int .i64 d.At)] 49] (fun d b => d = .val (.int .i64 r.1) ∧ b = [.box [.sl 1 (encL eI r.2.L), .val (.int .i64 r.2.At)] 49]) := by
 unfold g_make_Dice_Of at hg
 refine Fn.of Try.func9 rfl rfl rfl fun w0 I ρ0 => ?_
 show awp _ ⟨w0, I, ρ0, 1, 1, 12⟩ _ _ _
 refine sr_ 1 9 mk_U ?_
 refine go_ ?_
 refine ch_n fun hU => ?_
 refine sr_ 9 73 hU ?_
 refine go_ ?_
 obtain ⟨y, hy, hg⟩ := bind_some hg
 refine cb_ [0] [0] [] false (w_make_Dice_Next _ _ _ hy) ?_
 obtain ⟨e, he, hg⟩ := bind_some hg
 refine go_ ?_
 refine c0_ rfl rfl (r_loadE1 ty3 (enc_cell eI_len (getI_at he) (o := 0) (c := .int .i64 e) rfl rfl)) rfl rfl ?_
 refine go_ ?_
 refine ch_n fun hU => ?_
 refine aw_r ?_
 obtain rfl := Option.some.inj hg
 exact fin_ [(0, 0)] ⟨rfl, rfl⟩
theorem w_make_size (d : cipherplanmake_Dice) (a : Int) (r : Int × cipherplanmake_Dice) (hg : g_make_size d a = some r) : Fn Try.prog 19 1 [.ptr 0 0, .val (.int .i64 a)] [.box [.sl 1 (encL eI d.L), .val (.int .i64 d.At)] 49] (fun d b => d = .val (.int .i64 r.1) ∧ b = [.box [.sl 1 (encL eI r.2.L), .val (.int .i64 r.2.At)] 49]) := by
 unfold g_make_size at hg
 refine Fn.of Try.func19 rfl rfl rfl fun w0 I ρ0 => ?_
 show awp _ ⟨w0, I, ρ0, 1, 1, 46⟩ _ _ _
 refine sr_ 1 9 mk_U ?_
 refine go_ ?_
 refine ch_n fun hU => ?_
 refine awp_seq ?_
 refine sr_ 9 17 hU ?_
 refine go_ ?_
 refine ch_n fun hU => ?_
 refine awp_block ?_
 refine awp_cut (ι := Bool) (fun (x6_1 : Bool) => mk [(0, .ptr 0 0), (5, .val (.int .i64 a)), (6, .val (.bool x6_1))] [(0, .box [.sl 1 (encL eI d.L), .val (.int .i64 d.At)] 49)] 1) (fun (x6_1 : Bool) => g_make_size.j1 d a x6_1 = some r) ?_ ?_
 ·refine awp_seq ?_
  refine awp_region (sys _ _ []) 17 33 hU rfl rfl ?_
  refine go_ ?_
  refine ch_n fun hU => ?_
  refine cg_ rfl hg (fun h4 hg => ?_) fun h4 hg => ?_
  ·refine awp_skip ?_
   repeat first | refine st_ ?_ | refine sn_ ?_
   exact ⟨decide (a = 5), hg, sub_ [(0, 0)]⟩
  ·refine awp_seq ?_
   refine awp_region (sys _ _ []) 33 49 hU rfl rfl ?_
   refine go_ ?_
   refine ch_n fun hU => ?_
   refine cg_ rfl hg (fun h6 hg => ?_) fun h6 hg => ?_
   ·refine awp_skip ?_
    repeat first | refine st_ ?_ | refine sn_ ?_
    exact ⟨decide (a = 6), hg, sub_ [(0, 0)]⟩
   ·refine awp_seq ?_
    refine awp_region (sys _ _ []) 49 65 hU rfl rfl ?_
    refine go_ ?_
    refine ch_n fun hU => ?_
    refine cg_ rfl hg (fun h8 hg => ?_) fun h8 hg => ?_
    ·refine awp_skip ?_
     repeat first | refine st_ ?_ | refine sn_ ?_
     exact ⟨decide (a = 10), hg, sub_ [(0, 0)]⟩
    ·refine awp_region (sys _ _ []) 65 81 hU rfl rfl ?_
     refine go_ ?_
     refine ch_n fun hU => ?_
     exact ⟨decide (a = 11), hg, sub_ [(0, 0)]⟩
 ·rintro x6_1 hg
  replace hg : g_make_size.j1 d a x6_1 = some r := hg
  show awp _ _ _ _ (mk _ _ _)
  unfold g_make_size.j1 at hg
  refine cg_ rfl hg (fun h10 hg => ?_) fun h10 hg => ?_
  ·refine awp_seq ?_
   refine awp_region (sys _ _ [9]) 1 33 mk_U rfl rfl ?_
   refine go_ ?_
   refine ch_z (rd := []) rfl rfl (r_buildFull sl22 z3 (by decide) rfl rfl rfl rfl ck3 (cs := [.int .i64 2048, .int .i64 1024, .int .i64 512, .int .i64 3072, .int .i64 1023, .int .i64 4096, .int .i64 16384]) (.cons .int (.cons .int (.cons .int (.cons .int (.cons .int (.cons .int (.cons .int .nil))))))) rfl (l := ([2048, 1024, 512, 3072, 1023, 4096, 16384] : List Int)) (f := eI) rfl) rfl rfl rfl ?_
   obtain ⟨y, hy, hg⟩ := bind_some hg
   refine cb_ [0] [0] [] false (w_make_Dice_Of _ _ _ hy) ?_
   refine go_ ?_
   refine ch_n fun hU => ?_
   refine aw_r ?_
   obtain rfl := Option.some.inj hg
   exact fin_ [(0, 0)] ⟨rfl, rfl⟩
  ·refine awp_cut (ι := Bool) (fun (x14_2 : Bool) => mk [(0, .ptr 0 0), (5, .val (.int .i64 a)), (14, .val (.bool x14_2))] [(0, .box [.sl 1 (encL eI d.L), .val (.int .i64 d.At)] 49)] 1) (fun (x14_2 : Bool) => g_make_size.j2 d a x14_2 = some r) ?_ ?_
   ·refine awp_seq ?_
    refine awp_region (sys _ _ []) 1 17 mk_U rfl rfl ?_
    refine go_ ?_
    refine ch_n fun hU => ?_
    refine cg_ rfl hg (fun h13 hg => ?_) fun h13 hg => ?_
    ·refine awp_skip ?_
     repeat first | refine st_ ?_ | refine sn_ ?_
     exact ⟨decide (a = 7), hg, sub_ [(0, 0)]⟩
    ·refine awp_region (sys _ _ []) 17 33 hU rfl rfl ?_
     refine go_ ?_
     refine ch_n fun hU => ?_
     exact ⟨decide (a = 12), hg, sub_ [(0, 0)]⟩
   ·rintro x14_2 hg
    replace hg : g_make_size.j2 d a x14_2 = some r := hg
    show awp _ _ _ _ (mk _ _ _)
    unfold g_make_size.j2 at hg
    refine cg_ rfl hg (fun h15 hg => ?_) fun h15 hg => ?_
    ·refine awp_seq ?_
     refine awp_region (sys _ _ [9]) 1 33 mk_U rfl rfl ?_
     refine go_ ?_
     refine ch_z (rd := []) rfl rfl (r_buildFull sl22 z3 (by decide) rfl rfl rfl rfl ck3 (cs := [.int .i64 256, .int .i64 160, .int .i64 224, .int .i64 384, .int .i64 521]) (.cons .int (.cons .int (.cons .int (.cons .int (.cons .int .nil))))) rfl (l := ([256, 160, 224, 384, 521] : List Int)) (f := eI) rfl) rfl rfl rfl ?_
     obtain ⟨y_2, hy_2, hg⟩ := bind_some hg
     refine cb_ [0] [0] [] false (w_make_Dice_Of _ _ _ hy_2) ?_
     refine go_ ?_
     refine ch_n fun hU => ?_
     refine aw_r ?_
     obtain rfl := Option.some.inj hg
     exact fin_ [(0, 0)] ⟨rfl, rfl⟩
    ·refine awp_seq ?_
     refine awp_region (sys _ _ []) 1 17 mk_U rfl rfl ?_
     refine go_ ?_
     refine ch_n fun hU => ?_
     refine cg_ rfl hg (fun h18 hg => ?_) fun h18 hg => ?_
     ·refine awp_seq ?_
      refine awp_region (sys _ _ [25]) 17 49 hU rfl rfl ?_
      refine go_ ?_
      refine ch_z (rd := []) rfl rfl (r_buildFull sl22 z3 (by decide) rfl rfl rfl rfl ck3 (cs := [.int .i64 65, .int .i64 44, .int .i64 87]) (.cons .int (.cons .int (.cons .int .nil))) rfl (l := ([65, 44, 87] : List Int)) (f := eI) rfl) rfl rfl rfl ?_
      obtain ⟨y_3, hy_3, hg⟩ := bind_some hg
      refine cb_ [0] [0] [] false (w_make_Dice_Of _ _ _ hy_3) ?_
      refine go_ ?_
      refine ch_n fun hU => ?_
      refine aw_r ?_
      obtain rfl := Option.some.inj hg
      exact fin_ [(0, 0)] ⟨rfl, rfl⟩
     ·refine awp_seq ?_
      refine awp_region (sys _ _ []) 17 33 hU rfl rfl ?_
      refine go_ ?_
      refine ch_n fun hU => ?_
      refine cg_ rfl hg (fun h21 hg => ?_) fun h21 hg => ?_
      ·refine awp_seq ?_
       refine awp_region (sys _ _ [41]) 33 65 hU rfl rfl ?_
       refine go_ ?_
       refine ch_z (rd := []) rfl rfl (r_buildFull sl22 z3 (by decide) rfl rfl rfl rfl ck3 (cs := [.int .i64 768, .int .i64 512, .int .i64 1024]) (.cons .int (.cons .int (.cons .int .nil))) rfl (l := ([768, 512, 1024] : List Int)) (f := eI) rfl) rfl rfl rfl ?_
       obtain ⟨y_4, hy_4, hg⟩ := bind_some hg
       refine cb_ [0] [0] [] false (w_make_Dice_Of _ _ _ hy_4) ?_
       refine go_ ?_
       refine ch_n fun hU => ?_
       refine aw_r ?_
       obtain rfl := Option.some.inj hg
       exact fin_ [(0, 0)] ⟨rfl, rfl⟩
      ·refine awp_seq ?_
       refine awp_region (sys _ _ []) 33 49 hU rfl rfl ?_
       refine go_ ?_
       refine ch_n fun hU => ?_
       refine cg_ rfl hg (fun h24 hg => ?_) fun h24 hg => ?_
       ·refine awp_seq ?_
        refine awp_region (sys _ _ [57]) 49 81 hU rfl rfl ?_
        refine go_ ?_
        refine ch_z (rd := []) rfl rfl (r_buildFull sl22 z3 (by decide) rfl rfl rfl rfl ck3 (cs := [.int .i64 128, .int .i64 40]) (.cons .int (.cons .int .nil)) rfl (l := ([128, 40] : List Int)) (f := eI) rfl) rfl rfl rfl ?_
        obtain ⟨y_5, hy_5, hg⟩ := bind_some hg
        refine cb_ [0] [0] [] false (w_make_Dice_Of _ _ _ hy_5) ?_
        refine go_ ?_
        refine ch_n fun hU => ?_
        refine aw_r ?_
        obtain rfl := Option.some.inj hg
        exact fin_ [(0, 0)] ⟨rfl, rfl⟩
       ·refine awp_seq ?_
        refine awp_region (sys _ _ []) 49 65 hU rfl rfl ?_
        refine go_ ?_
        refine ch_n fun hU => ?_
        refine cg_ rfl hg (fun h27 hg => ?_) fun h27 hg => ?_
        ·refine awp_seq ?_
         refine awp_region (sys _ _ [73]) 65 97 hU rfl rfl ?_
         refine go_ ?_
         refine ch_z (rd := []) rfl rfl (r_buildFull sl22 z3 (by decide) rfl rfl rfl rfl ck3 (cs := [.int .i64 168, .int .i64 112]) (.cons .int (.cons .int .nil)) rfl (l := ([168, 112] : List Int)) (f := eI) rfl) rfl rfl rfl ?_
         obtain ⟨y_6, hy_6, hg⟩ := bind_some hg
         refine cb_ [0] [0] [] false (w_make_Dice_Of _ _ _ hy_6) ?_
         refine go_ ?_
         refine ch_n fun hU => ?_
         refine aw_r ?_
         obtain rfl := Option.some.inj hg
         exact fin_ [(0, 0)] ⟨rfl, rfl⟩
        ·refine awp_cut (ι := Bool) (fun (x40_3 : Bool) => mk [(0, .ptr 0 0), (40, .val (.bool x40_3))] [(0, .box [.sl 1 (encL eI d.L), .val (.int .i64 d.At)] 49)] 1) (fun (x40_3 : Bool) => g_make_size.j3 d x40_3 = some r) ?_ ?_
         ·refine awp_seq ?_
          refine awp_region (sys _ _ []) 65 81 hU rfl rfl ?_
          refine go_ ?_
          refine ch_n fun hU => ?_
          refine cg_ rfl hg (fun h30 hg => ?_) fun h30 hg => ?_
          ·refine awp_skip ?_
           repeat first | refine st_ ?_ | refine sn_ ?_
           exact ⟨decide (a = 16), hg, sub_ [(0, 0)]⟩
          ·refine awp_region (sys _ _ []) 81 97 hU rfl rfl ?_
           refine go_ ?_
           refine ch_n fun hU => ?_
           exact ⟨decide (a = 17), hg, sub_ [(0, 0)]⟩
         ·rintro x40_3 hg
          replace hg : g_make_size.j3 d x40_3 = some r := hg
          show awp _ _ _ _ (mk _ _ _)
          unfold g_make_size.j3 at hg
          refine cg_ rfl hg (fun h32 hg => ?_) fun h32 hg => ?_
          ·refine awp_seq ?_
           refine awp_region (sys _ _ [9]) 1 33 mk_U rfl rfl ?_
           refine go_ ?_
           refine ch_z (rd := []) rfl rfl (r_buildFull sl22 z3 (by decide) rfl rfl rfl rfl ck3 (cs := [.int .i64 128, .int .i64 256]) (.cons .int (.cons .int .nil)) rfl (l := ([128, 256] : List Int)) (f := eI) rfl) rfl rfl rfl ?_
           obtain ⟨y_7, hy_7, hg⟩ := bind_some hg
           refine cb_ [0] [0] [] false (w_make_Dice_Of _ _ _ hy_7) ?_
           refine go_ ?_
           refine ch_n fun hU => ?_
           refine aw_r ?_
           obtain rfl := Option.some.inj hg
           exact fin_ [(0, 0)] ⟨rfl, rfl⟩
          ·refine awp_skip ?_
           repeat first | refine st_ ?_ | refine sn_ ?_
           refine sr_ 1 9 mk_U ?_
           refine go_ ?_
           refine ch_n fun hU => ?_
           refine aw_r ?_
           obtain rfl := Option.some.inj hg
           exact fin_ [(0, 0)] ⟨rfl, rfl⟩
theorem w_make_Key (d : cipherplanmake_Dice) (r : api_Use × cipherplanmake_Dice) (hg : g_make_Key d = some r) : Fn Try.prog 8 1 [.ptr 0 0] [.box [.sl 1 (encL eI d.L), .val (.int .i64 d.At)] 49] (fun d b => d = .agg [.val (.int .i64 r.1.Alg), .val (.int .i64 r.1.Bits)] ∧ b = [.box [.sl 1 (encL eI r.2.L), .val (.int .i64 r.2.At)] 49]) := by
 unfold g_make_Key at hg
 refine Fn.of Try.func8 rfl rfl rfl fun w0 I ρ0 => ?_
 show awp _ ⟨w0, I, ρ0, 1, 1, 12⟩ _ _ _
 refine sr_ 1 9 mk_U ?_
 refine go_ ?_
 refine ch_n fun hU => ?_
 refine awp_seq ?_
 refine awp_region (sys _ _ [17]) 9 41 hU rfl rfl ?_
 refine go_ ?_
 refine ch_z (rd := []) rfl rfl (r_buildFull sl22 z3 (by decide) rfl rfl rfl rfl ck3 (cs := [.int .i64 5, .int .i64 7, .int .i64 5, .int .i64 6, .int .i64 8, .int .i64 9]) (.cons .int (.cons .int (.cons .int (.cons .int (.cons .int (.cons .int .nil)))))) rfl (l := ([5, 7, 5, 6, 8, 9] : List Int)) (f := eI) rfl) rfl rfl rfl ?_
 obtain ⟨y, hy, hg⟩ := bind_some hg
 refine cb_ [0] [0] [] false (w_make_Dice_Of _ _ _ hy) ?_
 refine go_ ?_
 refine ch_n fun hU => ?_
 refine sr_ 41 89 hU ?_
 refine go_ ?_
 obtain ⟨y_2, hy_2, hg⟩ := bind_some hg
 refine cb_ [0] [0] [] false (w_make_size _ _ _ hy_2) ?_
 refine c0_ rfl rfl (.build (r := [.val (.int .i64 y.1), .val (.int .i64 y_2.1)]) und30 pl30 z30 (by kernel_rfl) rfl) rfl rfl ?_
 refine go_ ?_
 refine ch_n fun hU => ?_
 refine aw_r ?_
 obtain rfl := Option.some.inj hg
 exact fin_ [(0, 0)] ⟨rfl, rfl⟩
theorem w_make_Dice_One (d : cipherplanmake_Dice) (n : Int) (r : Bool × cipherplanmake_Dice) (hg : g_make_Dice_One d n = some r) : Fn Try.prog 36 1 [.ptr 0 0, .val (.int .i64 n)] [.box [.sl 1 (encL eI d.L), .val (.int .i64 d.At)] 49] (fun d b => d = .val (.bool r.1) ∧ b = [.box [.sl 1 (encL eI r.2.L), .val (.int .i64 r.2.At)] 49]) := by
 unfold g_make_Dice_One at hg
 refine Fn.of Try.func36 rfl rfl rfl fun w0 I ρ0 => ?_
 show awp _ ⟨w0, I, ρ0, 1, 1, 11⟩ _ _ _
 refine sr_ 1 9 mk_U ?_
 refine go_ ?_
 refine ch_n fun hU => ?_
 refine sr_ 9 65 hU ?_
 refine go_ ?_
 obtain ⟨y, hy, hg⟩ := bind_some hg
 refine cb_ [0] [0] [] false (w_make_Dice_Next _ _ _ hy) ?_
 refine go_ ?_
 refine ch_n fun hU => ?_
 refine aw_r ?_
 obtain rfl := Option.some.inj hg
 exact fin_ [(0, 0)] ⟨rfl, rfl⟩
theorem w_make_Certificate (d : cipherplanmake_Dice) (issuer : ByteArray) (subject : ByteArray) (key : api_Use) (id : Int) (signer : Int) (authority : Bool) (r : api_Certificate × cipherplanmake_Dice) (hg : g_make_Certificate d issuer subject key id signer authority = some r) : Fn Try.prog 18 1 [.ptr 0 0, .val (.string issuer), .val (.string subject), .agg [.val (.int .i64 key.Alg), .val (.int .i64 key.Bits)], .val (.int .i64 id), .val (.int .i64 signer), .val (.bool authority)] [.box [.sl 1 (encL eI d.L), .val (.int .i64 d.At)] 49] (fun d b => d = .agg (api_Certificate.dv r.1) ∧ b = [.box [.sl 1 (encL eI r.2.L), .val (.int .i64 r.2.At)] 49]) := by
 unfold g_make_Certificate at hg
 refine Fn.of Try.func18 rfl rfl rfl fun w0 I ρ0 => ?_
 show awp _ ⟨w0, I, ρ0, 1, 1, 58⟩ _ _ _
 refine sr_ 1 17 mk_U ?_
 refine go_ ?_
 refine ch_n fun hU => ?_
 refine awp_seq ?_
 refine awp_draw (sys _ _ [73, 105, 129]) (by kernel_rfl) [0, 1, 0, 0, 0, 0, 0, 0, 195, 451, 0, 0, 3523, 0, 0, 32195, 0, 131071, 0, 524287] 17 177 hU rfl rfl (by kernel_rfl) ?_
 refine go_ ?_
 obtain ⟨y, hy, hg⟩ := bind_some hg
 refine cb_ [0] [0] [] false (w_make_Dice_Next _ _ _ hy) ?_
 refine go_ ?_
 refine ch_z (rd := []) rfl rfl (r_buildFull sl22 z3 (by decide) rfl rfl rfl rfl ck3 (cs := [.int .i64 3, .int .i64 2, .int .i64 4, .int .i64 1]) (.cons .int (.cons .int (.cons .int (.cons .int .nil)))) rfl (l := ([3, 2, 4, 1] : List Int)) (f := eI) rfl) rfl rfl rfl ?_
 obtain ⟨y_2, hy_2, hg⟩ := bind_some hg
 refine cb_ [0] [0] [] false (w_make_Dice_Of _ _ _ hy_2) ?_
 refine c0_ rfl rfl (.build (r := [.val (.int .i64 y_2.1), .val (.int .i64 0)]) und30 pl30 z30 (by kernel_rfl) rfl) rfl rfl ?_
 refine go_ ?_
 refine ch_z (rd := []) rfl rfl (r_buildFull sl22 z3 (by decide) rfl rfl rfl rfl ck3 (cs := [.int .i64 0, .int .i64 5, .int .i64 10]) (.cons .int (.cons .int (.cons .int .nil))) rfl (l := ([0, 5, 10] : List Int)) (f := eI) rfl) rfl rfl rfl ?_
 obtain ⟨y_3, hy_3, hg⟩ := bind_some hg
 refine cb_ [0] [0] [] false (w_make_Dice_Of _ _ _ hy_3) ?_
 refine go_ ?_
 refine ch_z (rd := []) rfl rfl (r_buildFull sl22 z3 (by decide) rfl rfl rfl rfl ck3 (cs := [.int .i64 1000, .int .i64 100, .int .i64 50, .int .i64 20]) (.cons .int (.cons .int (.cons .int (.cons .int .nil)))) rfl (l := ([1000, 100, 50, 20] : List Int)) (f := eI) rfl) rfl rfl rfl ?_
 obtain ⟨y_4, hy_4, hg⟩ := bind_some hg
 refine cb_ [0] [0] [] false (w_make_Dice_Of _ _ _ hy_4) ?_
 refine go_ ?_
 refine c0_ rfl rfl (.build (r := [.val (.int .i64 y.1), .val (.string issuer), .val (.string subject), .val (.int .i64 key.Alg), .val (.int .i64 key.Bits), .val (.int .i64 id), .val (.int .i64 y_2.1), .val (.int .i64 0), .val (.int .i64 y_3.1), .val (.int .i64 y_4.1), .val (.bool authority), .val (.int .i64 0), .val (.slice none 0 0), .val (.int .i64 0), .val (.int .i64 0)]) und40 pl40 z40 (by kernel_rfl) rfl) rfl rfl ?_
 refine go_ ?_
 refine ch_n fun hU => ?_
 refine awp_cut (ι := cipherplanmake_Dice × Int) (fun ((d_1, c_1) : cipherplanmake_Dice × Int) => mk [(0, .ptr 0 0), (2, .val (.string subject)), (5, .val (.int .i64 signer)), (14, .ptr 1 0), (15, .ptr 2 0)] [(0, .box [.sl 1 (encL eI d_1.L), .val (.int .i64 d_1.At)] 49), (1, .box [.val (.int .i64 0), .val (.string (⟨#[]⟩ : ByteArray)), .val (.string (⟨#[]⟩ : ByteArray)), .val (.int .i64 0), .val (.int .i64 0), .val (.int .i64 0), .val (.int .i64 0), .val (.int .i64 0), .val (.int .i64 0), .val (.int .i64 0), .val (.bool false), .val (.int .i64 0), .val (.slice none 0 0), .val (.int .i64 0), .val (.int .i64 0)] 40), (2, .box [.val (.int .i64 y.1), .val (.string issuer), .val (.string subject), .val (.int .i64 key.Alg), .val (.int .i64 key.Bits), .val (.int .i64 id), .val (.int .i64 y_2.1), .val (.int .i64 0), .val (.int .i64 y_3.1), .val (.int .i64 y_4.1), .val (.bool authority), .val (.int .i64 c_1), .val (.slice none 0 0), .val (.int .i64 0), .val (.int .i64 0)] 40)] 3) (fun ((d_1, c_1) : cipherplanmake_Dice × Int) => g_make_Certificate.j1 issuer subject key id signer authority y y_2 y_3 y_4 d_1 c_1 = some r) ?_ ?_
 ·refine awp_seq ?_
  refine awp_region (sys _ _ []) 177 185 hU rfl rfl ?_
  refine go_ ?_
  refine ch_n fun hU => ?_
  refine cg_ rfl hg (fun h4 hg => ?_) fun h4 hg => ?_
  ·refine awp_region (sys _ _ [193]) 185 225 hU rfl rfl ?_
   refine go_ ?_
   refine ch_z (rd := []) rfl rfl (r_buildFull sl22 z3 (by decide) rfl rfl rfl rfl ck3 (cs := [.int .i64 3, .int .i64 0, .int .i64 1]) (.cons .int (.cons .int (.cons .int .nil))) rfl (l := ([3, 0, 1] : List Int)) (f := eI) rfl) rfl rfl rfl ?_
   obtain ⟨y_5, hy_5, hg⟩ := bind_some hg
   refine cb_ [0] [0] [] false (w_make_Dice_Of _ _ _ hy_5) ?_
   refine go_ ?_
   refine ch_n fun hU => ?_
   exact ⟨(y_5.2, y_5.1), hg, sub_ [(0, 0), (1, 9), (2, 161)]⟩
  ·refine awp_skip ?_
   repeat first | refine st_ ?_ | refine sn_ ?_
   exact ⟨(y_4.2, 0), hg, sub_ [(0, 0), (1, 9), (2, 161)]⟩
 ·rintro ⟨d_1, c_1⟩ hg
  replace hg : g_make_Certificate.j1 issuer subject key id signer authority y y_2 y_3 y_4 d_1 c_1 = some r := hg
  show awp _ _ _ _ (mk _ _ _)
  unfold g_make_Certificate.j1 at hg
  refine sr_ 3 35 mk_U ?_
  refine go_ ?_
  refine c0_ rfl rfl (r_buildFull sl36 z9 (by decide) rfl rfl rfl rfl ck9 (cs := [.str subject]) (.cons .str .nil) rfl (l := ([subject] : List ByteArray)) (f := eS) rfl) rfl rfl ?_
  refine go_ ?_
  refine ch_n fun hU => ?_
  refine awp_cut (ι := cipherplanmake_Dice × List ByteArray) (fun ((b_2, l_2) : cipherplanmake_Dice × List ByteArray) => mk [(5, .val (.int .i64 signer)), (14, .ptr 1 0), (15, .ptr 2 0)] [(0, .box [.sl 1 (encL eI b_2.L), .val (.int .i64 b_2.At)] 49), (1, .box [.val (.int .i64 0), .val (.string (⟨#[]⟩ : ByteArray)), .val (.string (⟨#[]⟩ : ByteArray)), .val (.int .i64 0), .val (.int .i64 0), .val (.int .i64 0), .val (.int .i64 0), .val (.int .i64 0), .val (.int .i64 0), .val (.int .i64 0), .val (.bool false), .val (.int .i64 0), .val (.slice none 0 0), .val (.int .i64 0), .val (.int .i64 0)] 40), (2, .box [.val (.int .i64 y.1), .val (.string issuer), .val (.string subject), .val (.int .i64 key.Alg), .val (.int .i64 key.Bits), .val (.int .i64 id), .val (.int .i64 y_2.1), .val (.int .i64 0), .val (.int .i64 y_3.1), .val (.int .i64 y_4.1), .val (.bool authority), .val (.int .i64 c_1), .row 3, .val (.int .i64 0), .val (.int .i64 0)] 40), (3, .row 9 1 (encL eS l_2))] 4) (fun ((b_2, l_2) : cipherplanmake_Dice × List ByteArray) => g_make_Certificate.j2 issuer subject key id signer authority y y_2 y_3 y_4 c_1 b_2 l_2 = some r) ?_ ?_
  ·refine awp_seq ?_
   refine awp_region (sys _ _ []) 35 51 hU rfl rfl ?_
   refine go_ ?_
   obtain ⟨y_6, hy_6, hg⟩ := bind_some hg
   refine cb_ [0] [0] [] false (w_make_Dice_One _ _ _ hy_6) ?_
   refine ch_n fun hU => ?_
   refine cg_ rfl hg (fun h8 hg => ?_) fun h8 hg => ?_
   ·refine awp_region (sys _ _ []) 51 115 hU rfl rfl ?_
    refine go_ ?_
    obtain ⟨s, hs, hg⟩ := bind_some hg
    refine c0_ rfl rfl (r_cat hs) rfl rfl ?_
    refine c0_ rfl rfl (r_buildFull sl36 z9 (by decide) rfl rfl rfl rfl ck9 (cs := [.str s]) (.cons .str .nil) rfl (l := ([s] : List ByteArray)) (f := eS) rfl) rfl rfl ?_
    obtain ⟨l, hl, hg⟩ := bind_some hg
    refine ch_s (rd := [11, 83]) rfl rfl (r_append sl36 eS_len .row rfl .row rfl hl rfl) rfl rfl ?_
    refine go_ ?_
    refine ch_n fun hU => ?_
    exact ⟨(y_6.2, l), hg, sub_ [(0, 0), (1, 1), (2, 2), (3, 91)]⟩
   ·refine awp_skip ?_
    repeat first | refine st_ ?_ | refine sn_ ?_
    exact ⟨(y_6.2, ([subject] : List ByteArray)), hg, sub_ [(0, 0), (1, 1), (2, 2), (3, 11)]⟩
  ·rintro ⟨b_2, l_2⟩ hg
   replace hg : g_make_Certificate.j2 issuer subject key id signer authority y y_2 y_3 y_4 c_1 b_2 l_2 = some r := hg
   show awp _ _ _ _ (mk _ _ _)
   unfold g_make_Certificate.j2 at hg
   refine awp_seq ?_
   refine awp_sub (σ' := mk [(5, .val (.int .i64 signer)), (14, .ptr 1 0), (15, .ptr 2 0)] [(0, .box [.sl 1 (encL eI b_2.L), .val (.int .i64 b_2.At)] 49), (1, .box [.val (.int .i64 0), .val (.string (⟨#[]⟩ : ByteArray)), .val (.string (⟨#[]⟩ : ByteArray)), .val (.int .i64 0), .val (.int .i64 0), .val (.int .i64 0), .val (.int .i64 0), .val (.int .i64 0), .val (.int .i64 0), .val (.int .i64 0), .val (.bool false), .val (.int .i64 0), .val (.slice none 0 0), .val (.int .i64 0), .val (.int .i64 0)] 40), (2, .box [.val (.int .i64 y.1), .val (.string issuer), .val (.string subject), .val (.int .i64 key.Alg), .val (.int .i64 key.Bits), .val (.int .i64 id), .val (.int .i64 y_2.1), .val (.int .i64 0), .val (.int .i64 y_3.1), .val (.int .i64 y_4.1), .val (.bool authority), .val (.int .i64 c_1), .sl 1 (encL eS l_2), .val (.int .i64 0), .val (.int .i64 0)] 40)] 3) (sub_ [(0, 0), (1, 1), (2, 2)]) ?_
   refine awp_region (sys _ _ []) 3 59 mk_U rfl rfl ?_
   refine go_ ?_
   obtain ⟨y_7, hy_7, hg⟩ := bind_some hg
   refine ca_ (w_ref03_Sign _ _ _ hy_7) ?_
   refine go_ ?_
   refine ch_n fun hU => ?_
   refine sr_ 59 75 hU ?_
   refine go_ ?_
   refine ch_n fun hU => ?_
   refine aw_r ?_
   obtain rfl := Option.some.inj hg
   exact fin_ [(0, 0)] ⟨rfl, rfl⟩
theorem w_make_Chain_own (d : cipherplanmake_Dice) (name : ByteArray) (key : api_Use) (id : Int) (r : (List api_Certificate) × cipherplanmake_Dice) (hg : g_make_Chain d name key id = some r) : Fn Try.prog 7 1 [.ptr 0 0, .val (.string name), .agg [.val (.int .i64 key.Alg), .val (.int .i64 key.Bits)], .val (.int .i64 id)] [.box [.sl 1 (encL eI d.L), .val (.int .i64 d.At)] 49] (fun d b => d = .row 1 ∧ b = [.box [.sl 1 (encL eI r.2.L), .val (.int .i64 r.2.At)] 49, .row 40 15 (encL api_Certificate.enc r.1)]) := by
 unfold g_make_Chain at hg
 refine Fn.of Try.func7 rfl rfl rfl fun w0 I ρ0 => ?_
 show awp _ ⟨w0, I, ρ0, 1, 1, 56⟩ _ _ _
 refine sr_ 1 17 mk_U ?_
 refine go_ ?_
 refine ch_n fun hU => ?_
 refine awp_seq ?_
 refine awp_region (sys _ _ [25]) 17 49 hU rfl rfl ?_
 refine go_ ?_
 refine ch_z (rd := []) rfl rfl (r_buildFull sl22 z3 (by decide) rfl rfl rfl rfl ck3 (cs := [.int .i64 1, .int .i64 0, .int .i64 2]) (.cons .int (.cons .int (.cons .int .nil))) rfl (l := ([1, 0, 2] : List Int)) (f := eI) rfl) rfl rfl rfl ?_
 obtain ⟨y, hy, hg⟩ := bind_some hg
 refine cb_ [0] [0] [] false (w_make_Dice_Of _ _ _ hy) ?_
 refine go_ ?_
 refine ch_n fun hU => ?_
 refine sr_ 49 89 hU ?_
 refine go_ ?_
 obtain ⟨y_2, hy_2, hg⟩ := bind_some hg
 refine cb_ [0] [0] [] false (w_make_Dice_Next _ _ _ hy_2) ?_
 refine go_ ?_
 refine ch_n fun hU => ?_
 refine sr_ 89 97 hU ?_
 refine go_ ?_
 refine ch_n fun hU => ?_
 refine awp_seq ?_
 refine sr_ 97 105 hU ?_
 refine go_ ?_
 refine ch_n fun hU => ?_
 refine awp_block ?_
 refine lp_ (fun ((signer_1, issuer_1, i_1, d_1, above_1) : Int × ByteArray × Int × cipherplanmake_Dice × List api_Certificate) => mk [(0, .ptr 0 0), (1, .val (.string name)), (3, .val (.int .i64 id)), (6, .ptr 1 0), (9, .val (.int .i64 y.1)), (10, .val (.int .i64 signer_1)), (11, .val (.string issuer_1)), (12, .row 2), (13, .val (.int .i64 i_1))] [(0, .box [.sl 1 (encL eI d_1.L), .val (.int .i64 d_1.At)] 49), (1, .box [.val (.int .i64 key.Alg), .val (.int .i64 key.Bits)] 30), (2, .row 40 15 (encL api_Certificate.enc above_1))] 3) hg (sub_ [(0, 0), (1, 1)]) ?_
 rintro ⟨signer_1, issuer_1, i_1, d_1, above_1⟩ m1 o1 hg hn1
 replace hg : g_make_Chain.l1 name key id y signer_1 issuer_1 i_1 d_1 above_1 = some o1 := hg
 show awp _ _ _ _ (mk _ _ _)
 unfold g_make_Chain.l1 at hg
 refine awp_seq ?_
 refine sr_ 3 27 mk_U ?_
 refine go_ ?_
 refine ch_n fun hU => ?_
 refine cg_ rfl hg (fun h7 hg => ?_) fun h7 hg => ?_
 ·refine awp_skip ?_
  repeat first | refine st_ ?_ | refine sn_ ?_
  refine awp_seq ?_
  refine awp_block ?_
  refine sr_ 27 67 hU ?_
  refine c0_ rfl rfl (r_buildFull sl36 z9 (by decide) rfl rfl rfl rfl ck9 (cs := [.str (⟨#[99, 97]⟩ : ByteArray), .str (⟨#[99, 98]⟩ : ByteArray), .str (⟨#[99, 99]⟩ : ByteArray)]) (.cons .str (.cons .str (.cons .str .nil))) rfl (l := ([(⟨#[99, 97]⟩ : ByteArray), (⟨#[99, 98]⟩ : ByteArray), (⟨#[99, 99]⟩ : ByteArray)] : List ByteArray)) (f := eS) rfl) rfl rfl ?_
  refine go_ ?_
  obtain ⟨e, he, hg⟩ := bind_some hg
  refine go_ ?_
  refine ch_s (rd := [27]) rfl rfl (.loadR1 ty9 (enc_cell eS_len (getI_at he) (o := 0) (c := .str e) rfl rfl)) rfl rfl ?_
  refine go_ ?_
  refine ch_n fun hU => ?_
  refine sr_ 67 147 hU ?_
  refine go_ ?_
  refine c0_ rfl rfl (.build (r := [.val (.int .i64 5), .val (.int .i64 2048)]) und30 pl30 z30 (by kernel_rfl) rfl) rfl rfl ?_
  refine go_ ?_
  obtain ⟨y_3, hy_3, hg⟩ := bind_some hg
  refine cb_ [0] [0] [] false (w_make_Certificate _ _ _ _ _ _ _ _ hy_3) ?_
  refine go_ ?_
  refine ch_n fun hU => ?_
  refine sr_ 147 187 hU ?_
  refine go_ ?_
  refine c0_ rfl rfl (r_buildFull sl27 z40 (by decide) rfl rfl rfl rfl ck40 (cs := [.int .i64 y_3.1.Serial, .str y_3.1.Issuer, .str y_3.1.Subject, .int .i64 y_3.1.Key.Alg, .int .i64 y_3.1.Key.Bits, .int .i64 y_3.1.KeyId, .int .i64 y_3.1.Hash.Alg, .int .i64 y_3.1.Hash.Bits, .int .i64 y_3.1.From, .int .i64 y_3.1.To, .bool y_3.1.Authority, .int .i64 y_3.1.Path, .sl 1 (encL eS y_3.1.Names), .int .i64 y_3.1.Seal.Key, .int .i64 y_3.1.Seal.Sum]) (.cons .int (.cons .str (.cons .str (.cons .int (.cons .int (.cons .int (.cons .int (.cons .int (.cons .int (.cons .int (.cons .bool (.cons .int (.cons .sl (.cons .int (.cons .int .nil))))))))))))))) rfl (l := ([y_3.1] : List api_Certificate)) (f := api_Certificate.enc) rfl) rfl rfl ?_
  refine go_ ?_
  obtain ⟨l, hl, hg⟩ := bind_some hg
  refine ch_s (rd := [155, 2]) rfl rfl (r_append sl27 api_Certificate.enc_len .row rfl .row rfl hl rfl) rfl rfl ?_
  refine go_ ?_
  refine ch_n fun hU => ?_
  refine awp_region (sys _ _ []) 187 227 hU rfl rfl ?_
  refine go_ ?_
  refine ch_n fun hU => ?_
  refine awp_region (sys _ _ []) 227 251 hU rfl rfl ?_
  refine go_ ?_
  refine ch_n fun hU => ?_
  obtain rfl := Option.some.inj hg
  exact ⟨((W (11 + i_1), e, W (i_1 + 1), y_3.2, l), m1), Nat.lt_succ_self _, hn1, sub_ [(0, 0), (1, 1), (2, 171)]⟩
 ·refine awp_exit ?_
  repeat first | refine st_ ?_ | refine sn_ ?_
  replace hg := leave hg hn1
  refine sr_ 27 115 hU ?_
  refine go_ ?_
  obtain ⟨y_4, hy_4, hg⟩ := bind_some hg
  refine cb_ [0] [0] [] false (w_make_Certificate _ _ _ _ _ _ _ _ hy_4) ?_
  refine c0_ rfl rfl (r_buildFull sl27 z40 (by decide) rfl rfl rfl rfl ck40 (cs := [.int .i64 y_4.1.Serial, .str y_4.1.Issuer, .str y_4.1.Subject, .int .i64 y_4.1.Key.Alg, .int .i64 y_4.1.Key.Bits, .int .i64 y_4.1.KeyId, .int .i64 y_4.1.Hash.Alg, .int .i64 y_4.1.Hash.Bits, .int .i64 y_4.1.From, .int .i64 y_4.1.To, .bool y_4.1.Authority, .int .i64 y_4.1.Path, .sl 1 (encL eS y_4.1.Names), .int .i64 y_4.1.Seal.Key, .int .i64 y_4.1.Seal.Sum]) (.cons .int (.cons .str (.cons .str (.cons .int (.cons .int (.cons .int (.cons .int (.cons .int (.cons .int (.cons .int (.cons .bool (.cons .int (.cons .sl (.cons .int (.cons .int .nil))))))))))))))) rfl (l := ([y_4.1] : List api_Certificate)) (f := api_Certificate.enc) rfl) rfl rfl ?_
  refine go_ ?_
  obtain ⟨l_2, hl_2, hg⟩ := bind_some hg
  refine ch_s (rd := [83, 2]) rfl rfl (r_append sl27 api_Certificate.enc_len .row rfl .row rfl hl_2 rfl) rfl rfl ?_
  refine go_ ?_
  refine ch_n fun hU => ?_
  refine aw_r ?_
  obtain rfl := Option.some.inj hg
  exact fin_ [(0, 0), (1, 99)] ⟨rfl, rfl⟩
theorem w_law04_hashes  (r : (List Int)) (hg : g_law04_hashes = some r) : Fn Try.prog 11 0 [] [] (fun d b => d = .sl 1 (encL eI r) ∧ b = []) := by
 unfold g_law04_hashes at hg
 refine Fn.of Try.func11 rfl rfl rfl fun w0 I ρ0 => ?_
 show awp _ ⟨w0, I, ρ0, 0, 0, 2⟩ _ _ _
 refine sr_ 0 8 mk_U ?_
 refine go_ ?_
 refine ch_n fun hU => ?_
 refine sr_ 8 24 hU ?_
 refine c0_ rfl rfl (r_buildFull sl22 z3 (by decide) rfl rfl rfl rfl ck3 (cs := [.int .i64 1, .int .i64 2, .int .i64 3, .int .i64 4]) (.cons .int (.cons .int (.cons .int (.cons .int .nil)))) rfl (l := ([1, 2, 3, 4] : List Int)) (f := eI) rfl) rfl rfl ?_
 refine go_ ?_
 refine ch_n fun hU => ?_
 refine aw_r ?_
 obtain rfl := Option.some.inj hg
 exact fin_ [] ⟨rfl, rfl⟩
theorem w_chain_search_find.F (rec : chain_search → (List api_Certificate) → (List Bool) → Int → Option ((List api_Certificate) × Bool × (List Bool))) (hrec : ∀ (s : chain_search) (l : (List api_Certificate)) (used : List Bool) (length : Int) (r : (List api_Certificate) × Bool × (List Bool)), rec s l used length = some r → Fn Try.prog 20 1 [.agg (chain_search.dv s), .sl 15 (encL api_Certificate.enc l), .row 0, .val (.int .i64 length)] [.row 4 1 (encL eB used)] (fun d b => d = .tup [.sl 15 (encL api_Certificate.enc r.1), .val (.bool r.2.1)] ∧ b = [.row 4 1 (encL eB r.2.2)])) (s : chain_search) (l : (List api_Certificate)) (used : List Bool) (length : Int) (r : (List api_Certificate) × Bool × (List Bool)) (hg : g_chain_search_find.F rec s l used length = some r) : Fn Try.prog 20 1 [.agg (chain_search.dv s), .sl 15 (encL api_Certificate.enc l), .row 0, .val (.int .i64 length)] [.row 4 1 (encL eB used)] (fun d b => d = .tup [.sl 15 (encL api_Certificate.enc r.1), .val (.bool r.2.1)] ∧ b = [.row 4 1 (encL eB r.2.2)]) := by
 unfold g_chain_search_find.F at hg
 refine Fn.of Try.func20 rfl rfl rfl fun w0 I ρ0 => ?_
 show awp _ ⟨w0, I, ρ0, 1, 1, 89⟩ _ _ _
 refine sr_ 1 25 mk_U ?_
 refine go_ ?_
 refine ch_n fun hU => ?_
 refine awp_scope ?_
 refine awp_seq ?_
 refine sr_ 25 57 hU ?_
 refine go_ ?_
 refine ch_n fun hU => ?_
 refine cg_ rfl hg (fun h3 hg => ?_) fun h3 hg => ?_
 ·refine awp_seq ?_
  refine awp_region (sys _ _ []) 57 169 hU rfl rfl ?_
  refine go_ ?_
  obtain ⟨y, hy, hg⟩ := bind_some hg
  refine ca_ (w_chain_Check _ _ _ _ _ _ hy) ?_
  refine go_ ?_
  refine ch_n fun hU => ?_
  refine aw_r ?_
  obtain rfl := Option.some.inj hg
  exact fin_ [(0, 0)] ⟨rfl, rfl⟩
 ·refine awp_skip ?_
  repeat first | refine st_ ?_ | refine sn_ ?_
  refine awp_seq ?_
  refine awp_label ?_
  repeat first | refine st_ ?_ | refine sn_ ?_
  refine awp_seq ?_
  refine sr_ 57 89 hU ?_
  refine go_ ?_
  refine ch_n fun hU => ?_
  refine awp_block ?_
  refine lp_ (fun ((x36_1, used_1) : Int × List Bool) => mk [(1, .sl 15 (encL api_Certificate.enc l)), (2, .row 0), (3, .val (.int .i64 length)), (4, .ptr 1 0), (34, .sl 15 (encL api_Certificate.enc s.pool)), (35, .val (.int .i64 (s.pool.length : Int))), (36, .val (.int .i64 x36_1))] [(0, .row 4 1 (encL eB used_1)), (1, .box (chain_search.dv s) 54)] 2) hg (sub_ [(0, 0), (1, 1)]) ?_
  rintro ⟨x36_1, used_1⟩ m1 o1 hg hn1
  replace hg : g_chain_search_find.l1 rec s l length x36_1 used_1 = some o1 := hg
  show awp _ _ _ _ (mk _ _ _)
  unfold g_chain_search_find.l1 at hg
  refine sr_ 2 10 mk_U ?_
  refine go_ ?_
  refine ch_n fun hU => ?_
  refine awp_seq ?_
  refine cg_ rfl hg (fun h7 hg => ?_) fun h7 hg => ?_
  ·refine awp_skip ?_
   repeat first | refine st_ ?_ | refine sn_ ?_
   refine awp_cut (ι := List Bool) (fun (used_4 : List Bool) => mk [(1, .sl 15 (encL api_Certificate.enc l)), (2, .row 0), (3, .val (.int .i64 length)), (4, .ptr 1 0), (34, .sl 15 (encL api_Certificate.enc s.pool)), (35, .val (.int .i64 (s.pool.length : Int))), (36, .val (.int .i64 x36_1))] [(0, .row 4 1 (encL eB used_4)), (1, .box (chain_search.dv s) 54)] 2) (fun (used_4 : List Bool) => g_chain_search_find.j4 x36_1 used_4 = some o1) ?_ ?_
   ·refine awp_block ?_
    refine sr_ 10 58 hU ?_
    refine go_ ?_
    obtain ⟨e, he, hg⟩ := bind_some hg
    refine go_ ?_
    refine c0_ rfl rfl (r_loadEA ty40 (enc_cells api_Certificate.enc_len (getI_at he) (o := 0) (m := 15) (cs := [.int .i64 e.Serial, .str e.Issuer, .str e.Subject, .int .i64 e.Key.Alg, .int .i64 e.Key.Bits, .int .i64 e.KeyId, .int .i64 e.Hash.Alg, .int .i64 e.Hash.Bits, .int .i64 e.From, .int .i64 e.To, .bool e.Authority, .int .i64 e.Path, .sl 1 (encL eS e.Names), .int .i64 e.Seal.Key, .int .i64 e.Seal.Sum]) rfl (by decide) rfl) (enc_cells_le api_Certificate.enc_len (getI_at he) (o := 0) (m := 15) (by decide) rfl)) rfl rfl ?_
    refine go_ ?_
    refine ch_n fun hU => ?_
    refine awp_seq ?_
    refine sr_ 58 90 hU ?_
    refine go_ ?_
    obtain ⟨e_2, he_2, hg⟩ := bind_some hg
    refine go_ ?_
    refine ch_s (rd := [0]) rfl rfl (.loadR1 ty4 (enc_cell eB_len (getI_at he_2) (o := 0) (c := .bool e_2) rfl rfl)) rfl rfl ?_
    refine ch_n fun hU => ?_
    refine cg_ rfl hg (fun h10 hg => ?_) fun h10 hg => ?_
    ·refine awp_exit ?_
     repeat first | refine st_ ?_ | refine sn_ ?_
     exact ⟨used_1, hg, sub_ [(0, 0), (1, 1)]⟩
    ·refine awp_skip ?_
     repeat first | refine st_ ?_ | refine sn_ ?_
     refine awp_seq ?_
     refine awp_draw (sys _ _ []) (by kernel_rfl) [0, 0, 2, 0, 8, 31, 0, 64, 255, 511] 90 170 hU rfl rfl (by kernel_rfl) ?_
     refine go_ ?_
     refine c0_ rfl rfl (r_sliC sl27 api_Certificate.enc_len) rfl rfl ?_
     refine go_ ?_
     refine c0_ rfl rfl (r_buildFull sl27 z40 (by decide) rfl rfl rfl rfl ck40 (cs := [.int .i64 e.Serial, .str e.Issuer, .str e.Subject, .int .i64 e.Key.Alg, .int .i64 e.Key.Bits, .int .i64 e.KeyId, .int .i64 e.Hash.Alg, .int .i64 e.Hash.Bits, .int .i64 e.From, .int .i64 e.To, .bool e.Authority, .int .i64 e.Path, .sl 1 (encL eS e.Names), .int .i64 e.Seal.Key, .int .i64 e.Seal.Sum]) (.cons .int (.cons .str (.cons .str (.cons .int (.cons .int (.cons .int (.cons .int (.cons .int (.cons .int (.cons .int (.cons .bool (.cons .int (.cons .sl (.cons .int (.cons .int .nil))))))))))))))) rfl (l := ([e] : List api_Certificate)) (f := api_Certificate.enc) rfl) rfl rfl ?_
     obtain ⟨l_2, hl_2, hg⟩ := bind_some hg
     refine ch_s (rd := [146]) rfl rfl (r_appC sl27 api_Certificate.enc_len .row rfl (Nat.succ_pos _) hl_2 rfl) rfl rfl ?_
     refine go_ ?_
     refine ch_n fun hU => ?_
     refine awp_seq ?_
     refine sr_ 170 186 hU ?_
     refine c0_ rfl rfl (.buildArr (sz := 1) (r := [.val (.int .i64 11), .val (.int .i64 15)]) und63 (by kernel_rfl) z63 (by kernel_rfl) rfl) rfl rfl ?_
     refine go_ ?_
     refine ch_n fun hU => ?_
     refine awp_block ?_
     refine lp_ (fun (x55_2 : Int) => mk [(1, .sl 15 (encL api_Certificate.enc l)), (2, .row 0), (3, .val (.int .i64 length)), (4, .ptr 1 0), (10, .val (.int .i64 x36_1)), (11, .ptr 2 0), (12, .row 3), (34, .sl 15 (encL api_Certificate.enc s.pool)), (35, .val (.int .i64 (s.pool.length : Int))), (36, .val (.int .i64 x36_1)), (54, .agg [.val (.int .i64 11), .val (.int .i64 15)]), (55, .val (.int .i64 x55_2))] [(0, .row 4 1 (encL eB used_1)), (1, .box (chain_search.dv s) 54), (2, .box (api_Certificate.dv e) 40), (3, .row 40 15 (encL api_Certificate.enc l_2))] 4) hg (sub_ [(0, 0), (1, 1), (2, 34), (3, 154)]) ?_
     rintro x55_2 m2 o2 hg hn2
     replace hg : g_chain_search_find.l2 rec s l length x36_1 used_1 e l_2 x55_2 = some o2 := hg
     show awp _ _ _ _ (mk _ _ _)
     unfold g_chain_search_find.l2 at hg
     refine sr_ 4 12 mk_U ?_
     refine go_ ?_
     refine ch_n fun hU => ?_
     refine awp_seq ?_
     refine cg_ rfl hg (fun h14 hg => ?_) fun h14 hg => ?_
     ·refine awp_skip ?_
      repeat first | refine st_ ?_ | refine sn_ ?_
      refine awp_seq ?_
      refine awp_block ?_
      refine sr_ 12 28 hU ?_
      obtain ⟨e_3, he_3, hg⟩ := bind_some hg
      refine c0_ rfl rfl (.indexA und63 ty33 (getI_ix he_3) rfl (arr_int (getI_at he_3))) rfl rfl ?_
      refine go_ ?_
      refine ch_n fun hU => ?_
      refine sr_ 28 52 hU ?_
      refine go_ ?_
      obtain ⟨y_2, hy_2, hg⟩ := bind_some hg
      refine cb_ [3] [] [] true (w_chain_fails _ _ _ hy_2) ?_
      refine ch_n fun hU => ?_
      refine cg_ rfl hg (fun h17 hg => ?_) fun h17 hg => ?_
      ·refine awp_exit ?_
       repeat first | refine st_ ?_ | refine sn_ ?_
       replace hg := leave hg hn2
       exact ⟨used_1, hg, sub_ [(0, 0), (1, 1)]⟩
      ·refine awp_skip ?_
       repeat first | refine st_ ?_ | refine sn_ ?_
       refine awp_region (sys _ _ []) 52 68 hU rfl rfl ?_
       refine go_ ?_
       refine ch_n fun hU => ?_
       obtain rfl := Option.some.inj hg
       exact ⟨(W (x55_2 + 1), m2), Nat.lt_succ_self _, hn2, sub_ [(0, 0), (1, 1), (2, 2), (3, 3)]⟩
     ·refine awp_exit ?_
      repeat first | refine st_ ?_ | refine sn_ ?_
      replace hg := leave hg hn2
      refine awp_seq ?_
      refine awp_seq ?_
      refine awp_draw (sys _ _ []) (by kernel_rfl) [0, 0, 2, 6, 15, 31, 0, 64, 255, 511] 12 92 hU rfl rfl (by kernel_rfl) ?_
      refine go_ ?_
      obtain ⟨e_4, he_4, hg⟩ := bind_some hg
      refine go_ ?_
      refine c0_ rfl rfl (r_loadEA ty40 (enc_cells api_Certificate.enc_len (getI_at he_4) (o := 0) (m := 15) (cs := [.int .i64 e_4.Serial, .str e_4.Issuer, .str e_4.Subject, .int .i64 e_4.Key.Alg, .int .i64 e_4.Key.Bits, .int .i64 e_4.KeyId, .int .i64 e_4.Hash.Alg, .int .i64 e_4.Hash.Bits, .int .i64 e_4.From, .int .i64 e_4.To, .bool e_4.Authority, .int .i64 e_4.Path, .sl 1 (encL eS e_4.Names), .int .i64 e_4.Seal.Key, .int .i64 e_4.Seal.Sum]) rfl (by decide) rfl) (enc_cells_le api_Certificate.enc_len (getI_at he_4) (o := 0) (m := 15) (by decide) rfl)) rfl rfl ?_
      refine go_ ?_
      obtain ⟨y_3, hy_3, hg⟩ := bind_some hg
      refine ca_ (w_certificate_Sealed _ _ _ hy_3) ?_
      refine go_ ?_
      refine ch_n fun hU => ?_
      refine cg_ rfl hg (fun h20 hg => ?_) fun h20 hg => ?_
      ·refine awp_exit ?_
       repeat first | refine st_ ?_ | refine sn_ ?_
       exact ⟨used_1, hg, sub_ [(0, 0), (1, 1)]⟩
      ·refine awp_skip ?_
       repeat first | refine st_ ?_ | refine sn_ ?_
       refine sr_ 92 124 hU ?_
       refine go_ ?_
       refine ch_s (rd := [0]) rfl rfl (r_storeR ty4 rfl (enc_cells_le eB_len (getI_at he_2) (o := 0) (m := 1) (by decide) rfl) ck4 (cs' := [.bool true]) (.cons .bool .nil) (enc_splice eB_len (getI_at he_2) (o := 0) (x' := true) (Nat.le_of_ble_eq_true rfl) rfl rfl)) rfl rfl ?_
       refine ch_n fun hU => ?_
       refine awp_seq ?_
       refine awp_sub (σ' := mk [(1, .sl 15 (encL api_Certificate.enc l)), (2, .row 0), (3, .val (.int .i64 length)), (4, .ptr 1 0), (10, .val (.int .i64 x36_1)), (12, .sl 15 (encL api_Certificate.enc l_2)), (34, .sl 15 (encL api_Certificate.enc s.pool)), (35, .val (.int .i64 (s.pool.length : Int))), (36, .val (.int .i64 x36_1))] [(0, .row 4 1 (encL eB (setI used_1 ((x36_1).toNat) true))), (1, .box (chain_search.dv s) 54)] 2) (sub_ [(0, 0), (1, 1)]) ?_
       refine awp_region (sys _ _ []) 2 82 mk_U rfl rfl ?_
       refine go_ ?_
       obtain ⟨y_4, hy_4, hg⟩ := bind_some hg
       refine cb_ [0] [0] [] false (hrec _ _ _ _ _ hy_4) ?_
       refine go_ ?_
       refine ch_n fun hU => ?_
       refine sr_ 82 114 hU ?_
       refine go_ ?_
       obtain ⟨e_5, he_5, hg⟩ := bind_some hg
       refine go_ ?_
       refine ch_s (rd := [0]) rfl rfl (r_storeR ty4 rfl (enc_cells_le eB_len (getI_at he_5) (o := 0) (m := 1) (by decide) rfl) ck4 (cs' := [.bool false]) (.cons .bool .nil) (enc_splice eB_len (getI_at he_5) (o := 0) (x' := false) (Nat.le_of_ble_eq_true rfl) rfl rfl)) rfl rfl ?_
       refine ch_n fun hU => ?_
       refine sr_ 114 122 hU ?_
       refine go_ ?_
       refine ch_n fun hU => ?_
       refine cg_ rfl hg (fun h25 hg => ?_) fun h25 hg => ?_
       ·refine awp_seq ?_
        refine awp_region (sys _ _ []) 122 146 hU rfl rfl ?_
        refine go_ ?_
        refine ch_n fun hU => ?_
        refine aw_r ?_
        replace hg := leave hg hn1
        obtain rfl := Option.some.inj hg
        exact fin_ [(0, 0)] ⟨rfl, rfl⟩
       ·refine awp_skip ?_
        repeat first | refine st_ ?_ | refine sn_ ?_
        exact ⟨setI y_4.2.2 ((x36_1).toNat) false, hg, sub_ [(0, 0), (1, 1)]⟩
   ·rintro used_4 hg
    replace hg : g_chain_search_find.j4 x36_1 used_4 = some o1 := hg
    show awp _ _ _ _ (mk _ _ _)
    unfold g_chain_search_find.j4 at hg
    refine awp_region (sys _ _ []) 2 18 mk_U rfl rfl ?_
    refine go_ ?_
    refine ch_n fun hU => ?_
    obtain rfl := Option.some.inj hg
    exact ⟨((W (x36_1 + 1), used_4), m1), Nat.lt_succ_self _, hn1, sub_ [(0, 0), (1, 1)]⟩
  ·refine awp_exit ?_
   repeat first | refine st_ ?_ | refine sn_ ?_
   replace hg := leave hg hn1
   refine sr_ 10 26 hU ?_
   refine go_ ?_
   refine ch_n fun hU => ?_
   refine aw_r ?_
   obtain rfl := Option.some.inj hg
   exact fin_ [(0, 0)] ⟨rfl, rfl⟩
theorem w_chain_search_find (s : chain_search) (l : (List api_Certificate)) (used : List Bool) (length : Int) (r : (List api_Certificate) × Bool × (List Bool)) (hg : g_chain_search_find s l used length = some r) : Fn Try.prog 20 1 [.agg (chain_search.dv s), .sl 15 (encL api_Certificate.enc l), .row 0, .val (.int .i64 length)] [.row 4 1 (encL eB used)] (fun d b => d = .tup [.sl 15 (encL api_Certificate.enc r.1), .val (.bool r.2.1)] ∧ b = [.row 4 1 (encL eB r.2.2)]) :=
 fixT_ind (motive := fun (x : chain_search × (List api_Certificate) × List Bool × Int) (r : (List api_Certificate) × Bool × (List Bool)) => Fn Try.prog 20 1 [.agg (chain_search.dv x.1), .sl 15 (encL api_Certificate.enc x.2.1), .row 0, .val (.int .i64 x.2.2.2)] [.row 4 1 (encL eB x.2.2.1)] (fun d b => d = .tup [.sl 15 (encL api_Certificate.enc r.1), .val (.bool r.2.1)] ∧ b = [.row 4 1 (encL eB r.2.2)])) (fun rec hrec x r h => w_chain_search_find.F _ (fun s l used length r h => hrec (s, l, used, length) r h) x.1 x.2.1 x.2.2.1 x.2.2.2 r h) (s, l, used, length) r hg
theorem w_slices_Clone_string (s : (List ByteArray)) (r : (List ByteArray)) (hg : g_slices_Clone_string s = some r) : Fn Try.prog 38 0 [.sl 1 (encL eS s)] [] (fun d b => d = .sl 1 (encL eS r) ∧ b = []) := by
 unfold g_slices_Clone_string at hg
 refine Fn.of Try.func38 rfl rfl rfl fun w0 I ρ0 => ?_
 show awp _ ⟨w0, I, ρ0, 0, 0, 8⟩ _ _ _
 refine sr_ 0 8 mk_U ?_
 refine go_ ?_
 refine ch_n fun hU => ?_
 refine awp_seq ?_
 refine awp_cut (ι := Bool) (fun (x4_1 : Bool) => mk [(0, .sl 1 (encL eS s)), (4, .val (.bool x4_1))] [] 0) (fun (x4_1 : Bool) => g_slices_Clone_string.j1 s x4_1 = some r) ?_ ?_
 ·refine awp_region (sys _ _ []) 8 24 hU rfl rfl ?_
  refine go_ ?_
  refine ch_nilE rfl rfl ⟨_, und36⟩ rfl ?_
  intro bz hz2
  rcases bz with _ | _
  ·replace hg := nilC_f hg
   refine ch_n fun hU => ?_
   exact ⟨false, hg, sub_ []⟩
  ·replace hg := nilC_t ((nil_of_enc eS_len (by decide) (hz2 rfl))) hg
   refine ch_n fun hU => ?_
   exact ⟨true, hg, sub_ []⟩
 ·rintro x4_1 hg
  replace hg : g_slices_Clone_string.j1 s x4_1 = some r := hg
  show awp _ _ _ _ (mk _ _ _)
  unfold g_slices_Clone_string.j1 at hg
  refine cg_ rfl hg (fun h5 hg => ?_) fun h5 hg => ?_
  ·refine awp_seq ?_
   refine awp_region (sys _ _ []) 0 8 mk_U rfl rfl ?_
   refine go_ ?_
   refine ch_n fun hU => ?_
   refine aw_r ?_
   obtain rfl := Option.some.inj hg
   exact fin_ [] ⟨rfl, rfl⟩
  ·refine awp_skip ?_
   repeat first | refine st_ ?_ | refine sn_ ?_
   refine sr_ 0 32 mk_U ?_
   refine c0_ rfl rfl (r_buildFull sl36 z9 (by decide) rfl rfl rfl rfl ck9 (cs := []) .nil rfl (l := ([] : List ByteArray)) (f := eS) rfl) rfl rfl ?_
   refine go_ ?_
   obtain ⟨l, hl, hg⟩ := bind_some hg
   refine ch_s (rd := [0]) rfl rfl (r_append sl36 eS_len .row rfl .sl rfl hl rfl) rfl rfl ?_
   refine go_ ?_
   refine ch_n fun hU => ?_
   refine aw_r ?_
   obtain rfl := Option.some.inj hg
   exact fin_ [] ⟨rfl, rfl⟩
theorem w_certificate_Copy (l : (List api_Certificate)) (r : (List api_Certificate)) (hg : g_certificate_Copy l = some r) : Fn Try.prog 21 0 [.sl 15 (encL api_Certificate.enc l)] [] (fun d b => d = .sl 15 (encL api_Certificate.enc r) ∧ b = []) := by
 unfold g_certificate_Copy at hg
 refine Fn.of Try.func21 rfl rfl rfl fun w0 I ρ0 => ?_
 show awp _ ⟨w0, I, ρ0, 0, 0, 22⟩ _ _ _
 refine sr_ 0 8 mk_U ?_
 refine go_ ?_
 refine ch_n fun hU => ?_
 refine sr_ 8 16 hU ?_
 refine go_ ?_
 refine ch_n fun hU => ?_
 refine awp_seq ?_
 refine sr_ 16 40 hU ?_
 refine go_ ?_
 refine ch_n fun hU => ?_
 refine awp_block ?_
 refine lp_ (fun ((x8_1, out_1) : Int × List api_Certificate) => mk [(3, .row 0), (6, .sl 15 (encL api_Certificate.enc l)), (7, .val (.int .i64 (l.length : Int))), (8, .val (.int .i64 x8_1))] [(0, .row 40 15 (encL api_Certificate.enc out_1))] 1) hg (sub_ []) ?_
 rintro ⟨x8_1, out_1⟩ m1 o1 hg hn1
 replace hg : g_certificate_Copy.l1 l x8_1 out_1 = some o1 := hg
 show awp _ _ _ _ (mk _ _ _)
 unfold g_certificate_Copy.l1 at hg
 refine sr_ 1 9 mk_U ?_
 refine go_ ?_
 refine ch_n fun hU => ?_
 refine awp_seq ?_
 refine cg_ rfl hg (fun h5 hg => ?_) fun h5 hg => ?_
 ·refine awp_skip ?_
  repeat first | refine st_ ?_ | refine sn_ ?_
  refine awp_seq ?_
  refine awp_block ?_
  refine sr_ 9 41 hU ?_
  obtain ⟨e, he, hg⟩ := bind_some hg
  refine go_ ?_
  refine c0_ rfl rfl (r_loadEA ty40 (enc_cells api_Certificate.enc_len (getI_at he) (o := 0) (m := 15) (cs := [.int .i64 e.Serial, .str e.Issuer, .str e.Subject, .int .i64 e.Key.Alg, .int .i64 e.Key.Bits, .int .i64 e.KeyId, .int .i64 e.Hash.Alg, .int .i64 e.Hash.Bits, .int .i64 e.From, .int .i64 e.To, .bool e.Authority, .int .i64 e.Path, .sl 1 (encL eS e.Names), .int .i64 e.Seal.Key, .int .i64 e.Seal.Sum]) rfl (by decide) rfl) (enc_cells_le api_Certificate.enc_len (getI_at he) (o := 0) (m := 15) (by decide) rfl)) rfl rfl ?_
  refine go_ ?_
  refine ch_n fun hU => ?_
  refine sr_ 41 81 hU ?_
  refine go_ ?_
  obtain ⟨y, hy, hg⟩ := bind_some hg
  refine ca_ (w_slices_Clone_string _ _ hy) ?_
  refine go_ ?_
  refine ch_n fun hU => ?_
  refine awp_region (sys _ _ []) 81 121 hU rfl rfl ?_
  refine go_ ?_
  refine c0_ rfl rfl (r_buildFull sl27 z40 (by decide) rfl rfl rfl rfl ck40 (cs := [.int .i64 e.Serial, .str e.Issuer, .str e.Subject, .int .i64 e.Key.Alg, .int .i64 e.Key.Bits, .int .i64 e.KeyId, .int .i64 e.Hash.Alg, .int .i64 e.Hash.Bits, .int .i64 e.From, .int .i64 e.To, .bool e.Authority, .int .i64 e.Path, .sl 1 (encL eS y), .int .i64 e.Seal.Key, .int .i64 e.Seal.Sum]) (.cons .int (.cons .str (.cons .str (.cons .int (.cons .int (.cons .int (.cons .int (.cons .int (.cons .int (.cons .int (.cons .bool (.cons .int (.cons .sl (.cons .int (.cons .int .nil))))))))))))))) rfl (l := ([(api_Certificate.mk e.Serial e.Issuer e.Subject e.Key e.KeyId e.Hash e.From e.To e.Authority e.Path y e.Seal)] : List api_Certificate)) (f := api_Certificate.enc) rfl) rfl rfl ?_
  obtain ⟨l_2, hl_2, hg⟩ := bind_some hg
  refine ch_s (rd := [0, 97]) rfl rfl (r_append sl27 api_Certificate.enc_len .row rfl .row rfl hl_2 rfl) rfl rfl ?_
  refine go_ ?_
  refine ch_n fun hU => ?_
  refine awp_region (sys _ _ []) 121 137 hU rfl rfl ?_
  refine go_ ?_
  refine ch_n fun hU => ?_
  obtain rfl := Option.some.inj hg
  exact ⟨((W (x8_1 + 1), l_2), m1), Nat.lt_succ_self _, hn1, sub_ [(0, 105)]⟩
 ·refine awp_exit ?_
  repeat first | refine st_ ?_ | refine sn_ ?_
  replace hg := leave hg hn1
  refine sr_ 9 25 hU ?_
  refine go_ ?_
  refine ch_n fun hU => ?_
  refine aw_r ?_
  obtain rfl := Option.some.inj hg
  exact fin_ [] ⟨rfl, rfl⟩
theorem w_chain_Build (leaf : api_Certificate) (pool : (List api_Certificate)) (anchors : (List Int)) (hashes : (List Int)) (day : Int) (name : ByteArray) (r : (List api_Certificate) × Int) (hg : g_chain_Build leaf pool anchors hashes day name = some r) : Fn Try.prog 10 0 [.agg (api_Certificate.dv leaf), .sl 15 (encL api_Certificate.enc pool), .sl 1 (encL eI anchors), .sl 1 (encL eI hashes), .val (.int .i64 day), .val (.string name)] [] (fun d b => d = .tup [.sl 15 (encL api_Certificate.enc r.1), .val (.int .i64 r.2)] ∧ b = []) := by
 unfold g_chain_Build at hg
 refine Fn.of Try.func10 rfl rfl rfl fun w0 I ρ0 => ?_
 show awp _ ⟨w0, I, ρ0, 0, 0, 49⟩ _ _ _
 refine sr_ 0 24 mk_U ?_
 refine go_ ?_
 refine ch_n fun hU => ?_
 refine awp_seq ?_
 refine sr_ 24 48 hU ?_
 refine go_ ?_
 refine ch_n fun hU => ?_
 refine cg_ rfl hg (fun h3 hg => ?_) fun h3 hg => ?_
 ·refine awp_seq ?_
  refine awp_region (sys _ _ []) 48 64 hU rfl rfl ?_
  refine go_ ?_
  refine ch_n fun hU => ?_
  refine aw_r ?_
  obtain rfl := Option.some.inj hg
  exact fin_ [] ⟨rfl, rfl⟩
 ·refine awp_skip ?_
  repeat first | refine st_ ?_ | refine sn_ ?_
  refine sr_ 48 112 hU ?_
  refine go_ ?_
  refine c0_ rfl rfl (.build (r := [.sl 15 (encL api_Certificate.enc pool), .sl 1 (encL eI anchors), .sl 1 (encL eI hashes), .val (.int .i64 day), .val (.string name)]) und54 pl54 z54 (by kernel_rfl) rfl) rfl rfl ?_
  refine go_ ?_
  refine ch_n fun hU => ?_
  refine awp_seq ?_
  refine sr_ 112 120 hU ?_
  refine go_ ?_
  refine ch_n fun hU => ?_
  refine awp_block ?_
  refine lp_ (fun (length_1 : Int) => mk [(1, .sl 15 (encL api_Certificate.enc pool)), (6, .ptr 0 0), (14, .ptr 1 0), (15, .val (.int .i64 length_1))] [(0, .box (api_Certificate.dv leaf) 40), (1, .box [.sl 15 (encL api_Certificate.enc pool), .sl 1 (encL eI anchors), .sl 1 (encL eI hashes), .val (.int .i64 day), .val (.string name)] 54)] 2) hg (sub_ [(0, 0), (1, 96)]) ?_
  rintro length_1 m1 o1 hg hn1
  replace hg : g_chain_Build.l1 leaf pool anchors hashes day name length_1 = some o1 := hg
  show awp _ _ _ _ (mk _ _ _)
  unfold g_chain_Build.l1 at hg
  refine awp_seq ?_
  refine sr_ 2 50 mk_U ?_
  refine go_ ?_
  refine c0_ rfl rfl r_min rfl rfl ?_
  refine go_ ?_
  refine ch_n fun hU => ?_
  refine cg_ rfl hg (fun h8 hg => ?_) fun h8 hg => ?_
  ·refine awp_skip ?_
   repeat first | refine st_ ?_ | refine sn_ ?_
   refine awp_seq ?_
   refine awp_block ?_
   refine awp_seq ?_
   refine awp_draw (sys _ _ [66]) (by kernel_rfl) [0, 0, 2, 0, 8, 24, 0, 127, 255, 511, 511, 1023, 4095] 50 154 hU rfl rfl (by kernel_rfl) ?_
   refine go_ ?_
   refine ch_z (rd := []) rfl rfl (r_buildFull sl27 z40 (by decide) rfl rfl rfl rfl ck40 (cs := [.int .i64 leaf.Serial, .str leaf.Issuer, .str leaf.Subject, .int .i64 leaf.Key.Alg, .int .i64 leaf.Key.Bits, .int .i64 leaf.KeyId, .int .i64 leaf.Hash.Alg, .int .i64 leaf.Hash.Bits, .int .i64 leaf.From, .int .i64 leaf.To, .bool leaf.Authority, .int .i64 leaf.Path, .sl 1 (encL eS leaf.Names), .int .i64 leaf.Seal.Key, .int .i64 leaf.Seal.Sum]) (.cons .int (.cons .str (.cons .str (.cons .int (.cons .int (.cons .int (.cons .int (.cons .int (.cons .int (.cons .int (.cons .bool (.cons .int (.cons .sl (.cons .int (.cons .int .nil))))))))))))))) rfl (l := ([leaf] : List api_Certificate)) (f := api_Certificate.enc) rfl) rfl rfl rfl ?_
   refine go_ ?_
   obtain ⟨m, hm, hg⟩ := bind_some hg
   refine c0_ rfl rfl (r_makeSl (f := eB) sl57 z4 ck4 (.cons .bool .nil) rfl hm rfl) rfl rfl ?_
   refine go_ ?_
   obtain ⟨y, hy, hg⟩ := bind_some hg
   refine cb_ [90] [90] [] false (w_chain_search_find _ _ _ _ _ hy) ?_
   refine go_ ?_
   refine ch_n fun hU => ?_
   refine sr_ 154 162 hU ?_
   refine go_ ?_
   refine ch_n fun hU => ?_
   refine cg_ rfl hg (fun h11 hg => ?_) fun h11 hg => ?_
   ·refine awp_seq ?_
    refine awp_region (sys _ _ []) 162 194 hU rfl rfl ?_
    refine go_ ?_
    obtain ⟨y_2, hy_2, hg⟩ := bind_some hg
    refine ca_ (w_certificate_Copy _ _ hy_2) ?_
    refine go_ ?_
    refine ch_n fun hU => ?_
    refine aw_r ?_
    replace hg := leave hg hn1
    obtain rfl := Option.some.inj hg
    exact fin_ [] ⟨rfl, rfl⟩
   ·refine awp_skip ?_
    repeat first | refine st_ ?_ | refine sn_ ?_
    refine awp_region (sys _ _ []) 162 186 hU rfl rfl ?_
    refine go_ ?_
    refine ch_n fun hU => ?_
    obtain rfl := Option.some.inj hg
    exact ⟨(W (length_1 + 1), m1), Nat.lt_succ_self _, hn1, sub_ [(0, 0), (1, 1)]⟩
  ·refine awp_exit ?_
   repeat first | refine st_ ?_ | refine sn_ ?_
   replace hg := leave hg hn1
   refine sr_ 50 66 hU ?_
   refine go_ ?_
   refine ch_n fun hU => ?_
   refine aw_r ?_
   obtain rfl := Option.some.inj hg
   exact fin_ [] ⟨rfl, rfl⟩
end Go.Proofs.Ytggimglopfdhiaa
