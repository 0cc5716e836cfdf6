/- The program computes the plain functions. -/
import Derived.Test.YtadjcdhcdmiifaaGreatT1
import Derived.Test.YtadjcdhcdmiifaaGreatA2
import Derived.Test.YtadjcdhcdmiifaaGreatA3
import Derived.Test.YtadjcdhcdmiifaaGreatA4
set_option linter.unusedVariables false
set_option linter.unusedSimpArgs false
set_option maxRecDepth 100000
set_option maxHeartbeats 1600000
namespace Go.Proofs.YtadjcdhcdmiifaaGreat
open Go.RowKit

theorem w_chain_Until (l : (List api_Certificate)) (r : Int) (hg : g_chain_Until l = some r) : Fn Tryz.prog 24 0 [.sl 15 (encL api_Certificate.enc l)] [] (fun d b => d = .val (.int .i64 r) ∧ b = []) := by
 unfold g_chain_Until at hg
 refine Fn.of Tryz.func24 rfl rfl rfl fun w0 I ρ0 => ?_
 show awp _ ⟨w0, I, ρ0, 0, 0, 25⟩ _ _ _
 refine sr_ 0 8 mk_U ?_
 refine go_ ?_
 refine ch_n fun hU => ?_
 refine awp_seq ?_
 refine sr_ 8 32 hU ?_
 refine go_ ?_
 refine ch_n fun hU => ?_
 refine cg_ rfl hg (fun h3 hg => ?_) fun h3 hg => ?_
 ·refine awp_seq ?_
  refine awp_region (sys _ _ []) 32 40 hU rfl rfl ?_
  refine go_ ?_
  refine ch_n fun hU => ?_
  refine aw_r ?_
  obtain rfl := Option.some.inj hg
  exact fin_ [] ⟨rfl, rfl⟩
 ·refine awp_skip ?_
  repeat first | refine st_ ?_ | refine sn_ ?_
  refine sr_ 32 72 hU ?_
  refine go_ ?_
  obtain ⟨e, he, hg⟩ := bind_some hg
  refine go_ ?_
  refine c0_ rfl rfl (r_fieldE fd35_7 ty3 (by decide) (enc_lt api_Certificate.enc_len (getI_at he) (o := 9) (by decide) rfl)) rfl rfl ?_
  refine c0_ rfl rfl (r_loadE1 ty3 (enc_cell api_Certificate.enc_len (getI_at he) (o := 9) (c := .int .i64 e.To) rfl rfl)) rfl rfl ?_
  refine go_ ?_
  refine ch_n fun hU => ?_
  refine awp_seq ?_
  refine sr_ 72 96 hU ?_
  refine go_ ?_
  refine ch_n fun hU => ?_
  refine awp_block ?_
  refine lp_ (fun ((least_1, x15_1) : Int × Int) => mk [(3, .val (.int .i64 least_1)), (13, .sl 15 (encL api_Certificate.enc l)), (14, .val (.int .i64 (l.length : Int))), (15, .val (.int .i64 x15_1))] [] 0) hg (sub_ []) ?_
  rintro ⟨least_1, x15_1⟩ m1 o1 hg hn1
  replace hg : g_chain_Until.l1 l least_1 x15_1 = some o1 := hg
  show awp _ _ _ _ (mk _ _ _)
  unfold g_chain_Until.l1 at hg
  refine sr_ 0 8 mk_U ?_
  refine go_ ?_
  refine ch_n fun hU => ?_
  refine awp_seq ?_
  refine cg_ rfl hg (fun h8 hg => ?_) fun h8 hg => ?_
  ·refine awp_skip ?_
   repeat first | refine st_ ?_ | refine sn_ ?_
   refine awp_seq ?_
   refine awp_block ?_
   refine sr_ 8 40 hU ?_
   obtain ⟨e_2, he_2, hg⟩ := bind_some hg
   refine go_ ?_
   refine c0_ rfl rfl (r_loadEA ty35 (enc_cells api_Certificate.enc_len (getI_at he_2) (o := 0) (m := 15) (cs := [.int .i64 e_2.Serial, .str e_2.Issuer, .str e_2.Subject, .int .i64 e_2.Key.Alg, .int .i64 e_2.Key.Bits, .int .i64 e_2.KeyId, .int .i64 e_2.Hash.Alg, .int .i64 e_2.Hash.Bits, .int .i64 e_2.From, .int .i64 e_2.To, .bool e_2.Authority, .int .i64 e_2.Path, .sl 1 (encL eS e_2.Names), .int .i64 e_2.Seal.Key, .int .i64 e_2.Seal.Sum]) rfl (by decide) rfl) (enc_cells_le api_Certificate.enc_len (getI_at he_2) (o := 0) (m := 15) (by decide) rfl)) rfl rfl ?_
   refine go_ ?_
   refine ch_n fun hU => ?_
   refine awp_region (sys _ _ []) 40 80 hU rfl rfl ?_
   refine go_ ?_
   refine c0_ rfl rfl r_min rfl rfl ?_
   refine go_ ?_
   refine ch_n fun hU => ?_
   refine awp_region (sys _ _ []) 80 96 hU rfl rfl ?_
   refine go_ ?_
   refine ch_n fun hU => ?_
   obtain rfl := Option.some.inj hg
   exact ⟨((min least_1 e_2.To, W (x15_1 + 1)), m1), Nat.lt_succ_self _, hn1, sub_ []⟩
  ·refine awp_exit ?_
   repeat first | refine st_ ?_ | refine sn_ ?_
   replace hg := leave hg hn1
   refine sr_ 8 24 hU ?_
   refine go_ ?_
   refine ch_n fun hU => ?_
   refine aw_r ?_
   obtain rfl := Option.some.inj hg
   exact fin_ [] ⟨rfl, rfl⟩
theorem w_law04_awake  (r : Bool) (hg : g_law04_awake = some r) : Fn Tryz.prog 6 0 [] [] (fun d b => d = .val (.bool r) ∧ b = []) := by
 unfold g_law04_awake at hg
 refine Fn.of Tryz.func6 rfl rfl rfl fun w0 I ρ0 => ?_
 show awp _ ⟨w0, I, ρ0, 0, 0, 35⟩ _ _ _
 refine sr_ 0 8 mk_U ?_
 refine go_ ?_
 refine ch_n fun hU => ?_
 refine sr_ 8 56 hU ?_
 refine c0_ rfl rfl (.build (r := [.val (.int .i64 5), .val (.int .i64 2048)]) und30 pl30 z30 (by kernel_rfl) rfl) rfl rfl ?_
 refine c0_ rfl rfl (.build (r := [.val (.int .i64 3), .val (.int .i64 0)]) und30 pl30 z30 (by kernel_rfl) rfl) rfl rfl ?_
 refine c0_ rfl rfl (r_buildFull sl31 z9 (by decide) rfl rfl rfl rfl ck9 (cs := [.str (⟨#[119, 101, 98]⟩ : ByteArray)]) (.cons .str .nil) rfl (l := ([(⟨#[119, 101, 98]⟩ : ByteArray)] : List ByteArray)) (f := eS) rfl) rfl rfl ?_
 refine c0_ rfl rfl (.build (r := [.val (.int .i64 0), .val (.string (⟨#[99, 97]⟩ : ByteArray)), .val (.string (⟨#[119, 101, 98]⟩ : ByteArray)), .val (.int .i64 5), .val (.int .i64 2048), .val (.int .i64 7), .val (.int .i64 3), .val (.int .i64 0), .val (.int .i64 0), .val (.int .i64 9), .val (.bool false), .val (.int .i64 0), .row 24, .val (.int .i64 0), .val (.int .i64 0)]) und35 pl35 z35 (by kernel_rfl) rfl) rfl rfl ?_
 refine go_ ?_
 refine ch_n fun hU => ?_
 refine awp_seq ?_
 refine awp_sub (σ' := mk [(1, .ptr 0 0)] [(0, .box [.val (.int .i64 0), .val (.string (⟨#[99, 97]⟩ : ByteArray)), .val (.string (⟨#[119, 101, 98]⟩ : ByteArray)), .val (.int .i64 5), .val (.int .i64 2048), .val (.int .i64 7), .val (.int .i64 3), .val (.int .i64 0), .val (.int .i64 0), .val (.int .i64 9), .val (.bool false), .val (.int .i64 0), .sl 1 (encL eS ([(⟨#[119, 101, 98]⟩ : ByteArray)] : List ByteArray)), .val (.int .i64 0), .val (.int .i64 0)] 35)] 1) (sub_ [(0, 40)]) ?_
 refine awp_region (sys _ _ []) 1 49 mk_U rfl rfl ?_
 refine go_ ?_
 obtain ⟨y, hy, hg⟩ := bind_some hg
 refine ca_ (w_ref03_Sign _ _ _ hy) ?_
 refine go_ ?_
 refine ch_n fun hU => ?_
 refine sr_ 49 73 hU ?_
 refine go_ ?_
 refine c0_ rfl rfl (r_buildFull sl27 z35 (by decide) rfl rfl rfl rfl ck35 (cs := [.int .i64 y.1.Serial, .str y.1.Issuer, .str y.1.Subject, .int .i64 y.1.Key.Alg, .int .i64 y.1.Key.Bits, .int .i64 y.1.KeyId, .int .i64 y.1.Hash.Alg, .int .i64 y.1.Hash.Bits, .int .i64 y.1.From, .int .i64 y.1.To, .bool y.1.Authority, .int .i64 y.1.Path, .sl 1 (encL eS y.1.Names), .int .i64 y.1.Seal.Key, .int .i64 y.1.Seal.Sum]) (.cons .int (.cons .str (.cons .str (.cons .int (.cons .int (.cons .int (.cons .int (.cons .int (.cons .int (.cons .int (.cons .bool (.cons .int (.cons .sl (.cons .int (.cons .int .nil))))))))))))))) rfl (l := ([y.1] : List api_Certificate)) (f := api_Certificate.enc) rfl) rfl rfl ?_
 refine go_ ?_
 refine ch_n fun hU => ?_
 refine sr_ 73 249 hU ?_
 refine go_ ?_
 refine c0_ rfl rfl (r_buildFull sl22 z3 (by decide) rfl rfl rfl rfl ck3 (cs := [.int .i64 3]) (.cons .int .nil) rfl (l := ([3] : List Int)) (f := eI) rfl) rfl rfl ?_
 refine c0_ rfl rfl (r_buildFull sl22 z3 (by decide) rfl rfl rfl rfl ck3 (cs := [.int .i64 3]) (.cons .int .nil) rfl (l := ([3] : List Int)) (f := eI) rfl) rfl rfl ?_
 obtain ⟨y_2, hy_2, hg⟩ := bind_some hg
 refine cb_ [57, 81, 89] [] [] true (w_chain_Check _ _ _ _ _ _ hy_2) ?_
 refine go_ ?_
 rcases bc_ hg with ⟨h5, hg⟩ | ⟨h5, hg⟩
 ·refine go_ ?_
  refine c0_ (gdv_t rfl rfl h5) rfl (r_buildFull sl22 z3 (by decide) rfl rfl rfl rfl ck3 (cs := [.int .i64 4]) (.cons .int .nil) rfl (l := ([4] : List Int)) (f := eI) rfl) rfl rfl ?_
  refine c0_ (gdv_t rfl rfl h5) rfl (r_buildFull sl22 z3 (by decide) rfl rfl rfl rfl ck3 (cs := [.int .i64 3]) (.cons .int .nil) rfl (l := ([3] : List Int)) (f := eI) rfl) rfl rfl ?_
  obtain ⟨y_3, hy_3, hg⟩ := bind_some hg
  refine cb_ [57, 129, 137] [] [] true (w_chain_Check _ _ _ _ _ _ hy_3) ?_
  refine go_ ?_
  rcases bc_ hg with ⟨h6, hg⟩ | ⟨h6, hg⟩
  ·refine go_ ?_
   obtain ⟨y_4, hy_4, hg⟩ := bind_some hg
   refine cb_ [57] [] [] true (w_chain_Until _ _ hy_4) ?_
   refine go_ ?_
   rcases bc_ hg with ⟨h7, hg⟩ | ⟨h7, hg⟩
   ·refine go_ ?_
    obtain ⟨y_5, hy_5, hg⟩ := bind_some hg
    refine cb_ [57] [] [] true (w_chain_Path _ _ _ hy_5) ?_
    refine go_ ?_
    refine ch_n fun hU => ?_
    refine aw_r ?_
    obtain rfl := Option.some.inj hg
    exact fin_ [] ⟨rfl, rfl⟩
   ·refine go_ ?_
    refine ch_n fun hU => ?_
    refine aw_r ?_
    obtain rfl := Option.some.inj hg
    exact fin_ [] ⟨rfl, rfl⟩
  ·refine go_ ?_
   refine ch_n fun hU => ?_
   refine aw_r ?_
   obtain rfl := Option.some.inj hg
   exact fin_ [] ⟨rfl, rfl⟩
 ·refine go_ ?_
  refine ch_n fun hU => ?_
  refine aw_r ?_
  obtain rfl := Option.some.inj hg
  exact fin_ [] ⟨rfl, rfl⟩
theorem w_make_Roll (l : (List Int)) (r : cipherplanmake_Dice) (hg : g_make_Roll l = some r) : Fn Tryz.prog 7 0 [.sl 1 (encL eI l)] [] (fun d b => d = .ptr 0 0 ∧ b = [.box [.sl 1 (encL eI r.L), .val (.int .i64 r.At)] 69]) := by
 unfold g_make_Roll at hg
 refine Fn.of Tryz.func7 rfl rfl rfl fun w0 I ρ0 => ?_
 show awp _ ⟨w0, I, ρ0, 0, 0, 6⟩ _ _ _
 refine sr_ 0 8 mk_U ?_
 refine go_ ?_
 refine ch_n fun hU => ?_
 refine sr_ 8 40 hU ?_
 refine go_ ?_
 refine c0_ rfl rfl (.build (r := [.sl 1 (encL eI l), .val (.int .i64 0)]) und69 pl69 z69 (by kernel_rfl) rfl) rfl rfl ?_
 refine go_ ?_
 refine ch_n fun hU => ?_
 refine aw_r ?_
 obtain rfl := Option.some.inj hg
 exact fin_ [(0, 24)] ⟨rfl, rfl⟩
theorem w_make_Mod (n : Int) (k : Int) (r : Int) (hg : g_make_Mod n k = some r) : Fn Tryz.prog 28 0 [.val (.int .i64 n), .val (.int .i64 k)] [] (fun d b => d = .val (.int .i64 r) ∧ b = []) := by
 unfold g_make_Mod at hg
 refine Fn.of Tryz.func28 rfl rfl rfl fun w0 I ρ0 => ?_
 show awp _ ⟨w0, I, ρ0, 0, 0, 14⟩ _ _ _
 refine sr_ 0 8 mk_U ?_
 refine go_ ?_
 refine ch_n fun hU => ?_
 refine awp_seq ?_
 refine sr_ 8 24 hU ?_
 refine go_ ?_
 refine ch_n fun hU => ?_
 refine cg_ rfl hg (fun h3 hg => ?_) fun h3 hg => ?_
 ·refine awp_seq ?_
  refine awp_region (sys _ _ []) 24 32 hU rfl rfl ?_
  refine go_ ?_
  refine ch_n fun hU => ?_
  refine aw_r ?_
  obtain rfl := Option.some.inj hg
  exact fin_ [] ⟨rfl, rfl⟩
 ·refine awp_skip ?_
  repeat first | refine st_ ?_ | refine sn_ ?_
  refine sr_ 24 88 hU ?_
  refine go_ ?_
  obtain ⟨q, hq, hg⟩ := bind_some hg
  refine c0_ rfl rfl (r_rem hq) rfl rfl ?_
  refine go_ ?_
  obtain ⟨q_2, hq_2, hg⟩ := bind_some hg
  refine c0_ rfl rfl (r_rem hq_2) rfl rfl ?_
  refine go_ ?_
  refine ch_n fun hU => ?_
  refine aw_r ?_
  obtain rfl := Option.some.inj hg
  exact fin_ [] ⟨rfl, rfl⟩
theorem w_make_Dice_Next (d : cipherplanmake_Dice) (n : Int) (r : Int × cipherplanmake_Dice) (hg : g_make_Dice_Next d n = some r) : Fn Tryz.prog 10 1 [.ptr 0 0, .val (.int .i64 n)] [.box [.sl 1 (encL eI d.L), .val (.int .i64 d.At)] 69] (fun d b => d = .val (.int .i64 r.1) ∧ b = [.box [.sl 1 (encL eI r.2.L), .val (.int .i64 r.2.At)] 69]) := by
 unfold g_make_Dice_Next at hg
 refine Fn.of Tryz.func10 rfl rfl rfl fun w0 I ρ0 => ?_
 show awp _ ⟨w0, I, ρ0, 1, 1, 35⟩ _ _ _
 refine sr_ 1 9 mk_U ?_
 refine go_ ?_
 refine ch_n fun hU => ?_
 refine awp_seq ?_
 refine awp_seq ?_
 refine awp_draw (sys _ _ []) (by kernel_rfl) [0, 1, 3, 7, 0, 16, 48, 112, 240, 511] 9 89 hU rfl rfl (by kernel_rfl) ?_
 refine go_ ?_
 refine ch_n fun hU => ?_
 refine cg_ rfl hg (fun h3 hg => ?_) fun h3 hg => ?_
 ·refine awp_seq ?_
  refine awp_region (sys _ _ []) 89 97 hU rfl rfl ?_
  refine go_ ?_
  refine ch_n fun hU => ?_
  refine aw_r ?_
  obtain rfl := Option.some.inj hg
  exact fin_ [(0, 0)] ⟨rfl, rfl⟩
 ·refine awp_skip ?_
  repeat first | refine st_ ?_ | refine sn_ ?_
  refine sr_ 89 153 hU ?_
  refine go_ ?_
  refine ch_n fun hU => ?_
  refine awp_seq ?_
  refine awp_draw (sys _ _ []) (by kernel_rfl) [0, 1, 3, 7, 0, 16, 48, 112, 240, 511, 1023, 0, 4095, 8191] 153 265 hU rfl rfl (by kernel_rfl) ?_
  refine go_ ?_
  obtain ⟨e, he, hg⟩ := bind_some hg
  refine go_ ?_
  refine c0_ rfl rfl (r_loadE1 ty3 (enc_cell eI_len (getI_at he) (o := 0) (c := .int .i64 e) rfl rfl)) rfl rfl ?_
  refine go_ ?_
  obtain ⟨y, hy, hg⟩ := bind_some hg
  refine ca_ (w_make_Mod _ _ _ hy) ?_
  refine go_ ?_
  refine ch_n fun hU => ?_
  refine aw_r ?_
  obtain rfl := Option.some.inj hg
  exact fin_ [(0, 0)] ⟨rfl, rfl⟩
theorem w_make_Dice_Of (d : cipherplanmake_Dice) (l : (List Int)) (r : Int × cipherplanmake_Dice) (hg : g_make_Dice_Of d l = some r) : Fn Tryz.prog 11 1 [.ptr 0 0, .sl 1 (encL eI l)] [.box [.sl 1 (encL eI d.L), .val (.int .i64 d.At)] 69] (fun d b => d = .val (.int .i64 r.1) ∧ b = [.box [.sl 1 (encL eI r.2.L), .val (.int .i64 r.2.At)] 69]) := by
 unfold g_make_Dice_Of at hg
 refine Fn.of Tryz.func11 rfl rfl rfl fun w0 I ρ0 => ?_
 show awp _ ⟨w0, I, ρ0, 1, 1, 12⟩ _ _ _
 refine sr_ 1 9 mk_U ?_
 refine go_ ?_
 refine ch_n fun hU => ?_
 refine sr_ 9 73 hU ?_
 refine go_ ?_
 obtain ⟨y, hy, hg⟩ := bind_some hg
 refine cb_ [0] [0] [] false (w_make_Dice_Next _ _ _ hy) ?_
 obtain ⟨e, he, hg⟩ := bind_some hg
 refine go_ ?_
 refine c0_ rfl rfl (r_loadE1 ty3 (enc_cell eI_len (getI_at he) (o := 0) (c := .int .i64 e) rfl rfl)) rfl rfl ?_
 refine go_ ?_
 refine ch_n fun hU => ?_
 refine aw_r ?_
 obtain rfl := Option.some.inj hg
 exact fin_ [(0, 0)] ⟨rfl, rfl⟩
theorem w_make_size (d : cipherplanmake_Dice) (a : Int) (r : Int × cipherplanmake_Dice) (hg : g_make_size d a = some r) : Fn Tryz.prog 60 1 [.ptr 0 0, .val (.int .i64 a)] [.box [.sl 1 (encL eI d.L), .val (.int .i64 d.At)] 69] (fun d b => d = .val (.int .i64 r.1) ∧ b = [.box [.sl 1 (encL eI r.2.L), .val (.int .i64 r.2.At)] 69]) := by
 unfold g_make_size at hg
 refine Fn.of Tryz.func60 rfl rfl rfl fun w0 I ρ0 => ?_
 show awp _ ⟨w0, I, ρ0, 1, 1, 46⟩ _ _ _
 refine sr_ 1 9 mk_U ?_
 refine go_ ?_
 refine ch_n fun hU => ?_
 refine awp_seq ?_
 refine sr_ 9 17 hU ?_
 refine go_ ?_
 refine ch_n fun hU => ?_
 refine awp_block ?_
 refine awp_cut (ι := Bool) (fun (x6_1 : Bool) => mk [(0, .ptr 0 0), (5, .val (.int .i64 a)), (6, .val (.bool x6_1))] [(0, .box [.sl 1 (encL eI d.L), .val (.int .i64 d.At)] 69)] 1) (fun (x6_1 : Bool) => g_make_size.j1 d a x6_1 = some r) ?_ ?_
 ·refine awp_seq ?_
  refine awp_region (sys _ _ []) 17 33 hU rfl rfl ?_
  refine go_ ?_
  refine ch_n fun hU => ?_
  refine cg_ rfl hg (fun h4 hg => ?_) fun h4 hg => ?_
  ·refine awp_skip ?_
   repeat first | refine st_ ?_ | refine sn_ ?_
   exact ⟨decide (a = 5), hg, sub_ [(0, 0)]⟩
  ·refine awp_seq ?_
   refine awp_region (sys _ _ []) 33 49 hU rfl rfl ?_
   refine go_ ?_
   refine ch_n fun hU => ?_
   refine cg_ rfl hg (fun h6 hg => ?_) fun h6 hg => ?_
   ·refine awp_skip ?_
    repeat first | refine st_ ?_ | refine sn_ ?_
    exact ⟨decide (a = 6), hg, sub_ [(0, 0)]⟩
   ·refine awp_seq ?_
    refine awp_region (sys _ _ []) 49 65 hU rfl rfl ?_
    refine go_ ?_
    refine ch_n fun hU => ?_
    refine cg_ rfl hg (fun h8 hg => ?_) fun h8 hg => ?_
    ·refine awp_skip ?_
     repeat first | refine st_ ?_ | refine sn_ ?_
     exact ⟨decide (a = 10), hg, sub_ [(0, 0)]⟩
    ·refine awp_region (sys _ _ []) 65 81 hU rfl rfl ?_
     refine go_ ?_
     refine ch_n fun hU => ?_
     exact ⟨decide (a = 11), hg, sub_ [(0, 0)]⟩
 ·rintro x6_1 hg
  replace hg : g_make_size.j1 d a x6_1 = some r := hg
  show awp _ _ _ _ (mk _ _ _)
  unfold g_make_size.j1 at hg
  refine cg_ rfl hg (fun h10 hg => ?_) fun h10 hg => ?_
  ·refine awp_seq ?_
   refine awp_region (sys _ _ [9]) 1 33 mk_U rfl rfl ?_
   refine go_ ?_
   refine ch_z (rd := []) rfl rfl (r_buildFull sl22 z3 (by decide) rfl rfl rfl rfl ck3 (cs := [.int .i64 2048, .int .i64 1024, .int .i64 512, .int .i64 3072, .int .i64 1023, .int .i64 4096, .int .i64 16384]) (.cons .int (.cons .int (.cons .int (.cons .int (.cons .int (.cons .int (.cons .int .nil))))))) rfl (l := ([2048, 1024, 512, 3072, 1023, 4096, 16384] : List Int)) (f := eI) rfl) rfl rfl rfl ?_
   obtain ⟨y, hy, hg⟩ := bind_some hg
   refine cb_ [0] [0] [] false (w_make_Dice_Of _ _ _ hy) ?_
   refine go_ ?_
   refine ch_n fun hU => ?_
   refine aw_r ?_
   obtain rfl := Option.some.inj hg
   exact fin_ [(0, 0)] ⟨rfl, rfl⟩
  ·refine awp_cut (ι := Bool) (fun (x14_2 : Bool) => mk [(0, .ptr 0 0), (5, .val (.int .i64 a)), (14, .val (.bool x14_2))] [(0, .box [.sl 1 (encL eI d.L), .val (.int .i64 d.At)] 69)] 1) (fun (x14_2 : Bool) => g_make_size.j2 d a x14_2 = some r) ?_ ?_
   ·refine awp_seq ?_
    refine awp_region (sys _ _ []) 1 17 mk_U rfl rfl ?_
    refine go_ ?_
    refine ch_n fun hU => ?_
    refine cg_ rfl hg (fun h13 hg => ?_) fun h13 hg => ?_
    ·refine awp_skip ?_
     repeat first | refine st_ ?_ | refine sn_ ?_
     exact ⟨decide (a = 7), hg, sub_ [(0, 0)]⟩
    ·refine awp_region (sys _ _ []) 17 33 hU rfl rfl ?_
     refine go_ ?_
     refine ch_n fun hU => ?_
     exact ⟨decide (a = 12), hg, sub_ [(0, 0)]⟩
   ·rintro x14_2 hg
    replace hg : g_make_size.j2 d a x14_2 = some r := hg
    show awp _ _ _ _ (mk _ _ _)
    unfold g_make_size.j2 at hg
    refine cg_ rfl hg (fun h15 hg => ?_) fun h15 hg => ?_
    ·refine awp_seq ?_
     refine awp_region (sys _ _ [9]) 1 33 mk_U rfl rfl ?_
     refine go_ ?_
     refine ch_z (rd := []) rfl rfl (r_buildFull sl22 z3 (by decide) rfl rfl rfl rfl ck3 (cs := [.int .i64 256, .int .i64 160, .int .i64 224, .int .i64 384, .int .i64 521]) (.cons .int (.cons .int (.cons .int (.cons .int (.cons .int .nil))))) rfl (l := ([256, 160, 224, 384, 521] : List Int)) (f := eI) rfl) rfl rfl rfl ?_
     obtain ⟨y_2, hy_2, hg⟩ := bind_some hg
     refine cb_ [0] [0] [] false (w_make_Dice_Of _ _ _ hy_2) ?_
     refine go_ ?_
     refine ch_n fun hU => ?_
     refine aw_r ?_
     obtain rfl := Option.some.inj hg
     exact fin_ [(0, 0)] ⟨rfl, rfl⟩
    ·refine awp_seq ?_
     refine awp_region (sys _ _ []) 1 17 mk_U rfl rfl ?_
     refine go_ ?_
     refine ch_n fun hU => ?_
     refine cg_ rfl hg (fun h18 hg => ?_) fun h18 hg => ?_
     ·refine awp_seq ?_
      refine awp_region (sys _ _ [25]) 17 49 hU rfl rfl ?_
      refine go_ ?_
      refine ch_z (rd := []) rfl rfl (r_buildFull sl22 z3 (by decide) rfl rfl rfl rfl ck3 (cs := [.int .i64 65, .int .i64 44, .int .i64 87]) (.cons .int (.cons .int (.cons .int .nil))) rfl (l := ([65, 44, 87] : List Int)) (f := eI) rfl) rfl rfl rfl ?_
      obtain ⟨y_3, hy_3, hg⟩ := bind_some hg
      refine cb_ [0] [0] [] false (w_make_Dice_Of _ _ _ hy_3) ?_
      refine go_ ?_
      refine ch_n fun hU => ?_
      refine aw_r ?_
      obtain rfl := Option.some.inj hg
      exact fin_ [(0, 0)] ⟨rfl, rfl⟩
     ·refine awp_seq ?_
      refine awp_region (sys _ _ []) 17 33 hU rfl rfl ?_
      refine go_ ?_
      refine ch_n fun hU => ?_
      refine cg_ rfl hg (fun h21 hg => ?_) fun h21 hg => ?_
      ·refine awp_seq ?_
       refine awp_region (sys _ _ [41]) 33 65 hU rfl rfl ?_
       refine go_ ?_
       refine ch_z (rd := []) rfl rfl (r_buildFull sl22 z3 (by decide) rfl rfl rfl rfl ck3 (cs := [.int .i64 768, .int .i64 512, .int .i64 1024]) (.cons .int (.cons .int (.cons .int .nil))) rfl (l := ([768, 512, 1024] : List Int)) (f := eI) rfl) rfl rfl rfl ?_
       obtain ⟨y_4, hy_4, hg⟩ := bind_some hg
       refine cb_ [0] [0] [] false (w_make_Dice_Of _ _ _ hy_4) ?_
       refine go_ ?_
       refine ch_n fun hU => ?_
       refine aw_r ?_
       obtain rfl := Option.some.inj hg
       exact fin_ [(0, 0)] ⟨rfl, rfl⟩
      ·refine awp_seq ?_
       refine awp_region (sys _ _ []) 33 49 hU rfl rfl ?_
       refine go_ ?_
       refine ch_n fun hU => ?_
       refine cg_ rfl hg (fun h24 hg => ?_) fun h24 hg => ?_
       ·refine awp_seq ?_
        refine awp_region (sys _ _ [57]) 49 81 hU rfl rfl ?_
        refine go_ ?_
        refine ch_z (rd := []) rfl rfl (r_buildFull sl22 z3 (by decide) rfl rfl rfl rfl ck3 (cs := [.int .i64 128, .int .i64 40]) (.cons .int (.cons .int .nil)) rfl (l := ([128, 40] : List Int)) (f := eI) rfl) rfl rfl rfl ?_
        obtain ⟨y_5, hy_5, hg⟩ := bind_some hg
        refine cb_ [0] [0] [] false (w_make_Dice_Of _ _ _ hy_5) ?_
        refine go_ ?_
        refine ch_n fun hU => ?_
        refine aw_r ?_
        obtain rfl := Option.some.inj hg
        exact fin_ [(0, 0)] ⟨rfl, rfl⟩
       ·refine awp_seq ?_
        refine awp_region (sys _ _ []) 49 65 hU rfl rfl ?_
        refine go_ ?_
        refine ch_n fun hU => ?_
        refine cg_ rfl hg (fun h27 hg => ?_) fun h27 hg => ?_
        ·refine awp_seq ?_
         refine awp_region (sys _ _ [73]) 65 97 hU rfl rfl ?_
         refine go_ ?_
         refine ch_z (rd := []) rfl rfl (r_buildFull sl22 z3 (by decide) rfl rfl rfl rfl ck3 (cs := [.int .i64 168, .int .i64 112]) (.cons .int (.cons .int .nil)) rfl (l := ([168, 112] : List Int)) (f := eI) rfl) rfl rfl rfl ?_
         obtain ⟨y_6, hy_6, hg⟩ := bind_some hg
         refine cb_ [0] [0] [] false (w_make_Dice_Of _ _ _ hy_6) ?_
         refine go_ ?_
         refine ch_n fun hU => ?_
         refine aw_r ?_
         obtain rfl := Option.some.inj hg
         exact fin_ [(0, 0)] ⟨rfl, rfl⟩
        ·refine awp_cut (ι := Bool) (fun (x40_3 : Bool) => mk [(0, .ptr 0 0), (40, .val (.bool x40_3))] [(0, .box [.sl 1 (encL eI d.L), .val (.int .i64 d.At)] 69)] 1) (fun (x40_3 : Bool) => g_make_size.j3 d x40_3 = some r) ?_ ?_
         ·refine awp_seq ?_
          refine awp_region (sys _ _ []) 65 81 hU rfl rfl ?_
          refine go_ ?_
          refine ch_n fun hU => ?_
          refine cg_ rfl hg (fun h30 hg => ?_) fun h30 hg => ?_
          ·refine awp_skip ?_
           repeat first | refine st_ ?_ | refine sn_ ?_
           exact ⟨decide (a = 16), hg, sub_ [(0, 0)]⟩
          ·refine awp_region (sys _ _ []) 81 97 hU rfl rfl ?_
           refine go_ ?_
           refine ch_n fun hU => ?_
           exact ⟨decide (a = 17), hg, sub_ [(0, 0)]⟩
         ·rintro x40_3 hg
          replace hg : g_make_size.j3 d x40_3 = some r := hg
          show awp _ _ _ _ (mk _ _ _)
          unfold g_make_size.j3 at hg
          refine cg_ rfl hg (fun h32 hg => ?_) fun h32 hg => ?_
          ·refine awp_seq ?_
           refine awp_region (sys _ _ [9]) 1 33 mk_U rfl rfl ?_
           refine go_ ?_
           refine ch_z (rd := []) rfl rfl (r_buildFull sl22 z3 (by decide) rfl rfl rfl rfl ck3 (cs := [.int .i64 128, .int .i64 256]) (.cons .int (.cons .int .nil)) rfl (l := ([128, 256] : List Int)) (f := eI) rfl) rfl rfl rfl ?_
           obtain ⟨y_7, hy_7, hg⟩ := bind_some hg
           refine cb_ [0] [0] [] false (w_make_Dice_Of _ _ _ hy_7) ?_
           refine go_ ?_
           refine ch_n fun hU => ?_
           refine aw_r ?_
           obtain rfl := Option.some.inj hg
           exact fin_ [(0, 0)] ⟨rfl, rfl⟩
          ·refine awp_skip ?_
           repeat first | refine st_ ?_ | refine sn_ ?_
           refine sr_ 1 9 mk_U ?_
           refine go_ ?_
           refine ch_n fun hU => ?_
           refine aw_r ?_
           obtain rfl := Option.some.inj hg
           exact fin_ [(0, 0)] ⟨rfl, rfl⟩
theorem w_make_Key (d : cipherplanmake_Dice) (r : api_Use × cipherplanmake_Dice) (hg : g_make_Key d = some r) : Fn Tryz.prog 27 1 [.ptr 0 0] [.box [.sl 1 (encL eI d.L), .val (.int .i64 d.At)] 69] (fun d b => d = .agg [.val (.int .i64 r.1.Alg), .val (.int .i64 r.1.Bits)] ∧ b = [.box [.sl 1 (encL eI r.2.L), .val (.int .i64 r.2.At)] 69]) := by
 unfold g_make_Key at hg
 refine Fn.of Tryz.func27 rfl rfl rfl fun w0 I ρ0 => ?_
 show awp _ ⟨w0, I, ρ0, 1, 1, 12⟩ _ _ _
 refine sr_ 1 9 mk_U ?_
 refine go_ ?_
 refine ch_n fun hU => ?_
 refine awp_seq ?_
 refine awp_region (sys _ _ [17]) 9 41 hU rfl rfl ?_
 refine go_ ?_
 refine ch_z (rd := []) rfl rfl (r_buildFull sl22 z3 (by decide) rfl rfl rfl rfl ck3 (cs := [.int .i64 5, .int .i64 7, .int .i64 5, .int .i64 6, .int .i64 8, .int .i64 9]) (.cons .int (.cons .int (.cons .int (.cons .int (.cons .int (.cons .int .nil)))))) rfl (l := ([5, 7, 5, 6, 8, 9] : List Int)) (f := eI) rfl) rfl rfl rfl ?_
 obtain ⟨y, hy, hg⟩ := bind_some hg
 refine cb_ [0] [0] [] false (w_make_Dice_Of _ _ _ hy) ?_
 refine go_ ?_
 refine ch_n fun hU => ?_
 refine sr_ 41 89 hU ?_
 refine go_ ?_
 obtain ⟨y_2, hy_2, hg⟩ := bind_some hg
 refine cb_ [0] [0] [] false (w_make_size _ _ _ hy_2) ?_
 refine c0_ rfl rfl (.build (r := [.val (.int .i64 y.1), .val (.int .i64 y_2.1)]) und30 pl30 z30 (by kernel_rfl) rfl) rfl rfl ?_
 refine go_ ?_
 refine ch_n fun hU => ?_
 refine aw_r ?_
 obtain rfl := Option.some.inj hg
 exact fin_ [(0, 0)] ⟨rfl, rfl⟩
theorem w_make_Dice_One (d : cipherplanmake_Dice) (n : Int) (r : Bool × cipherplanmake_Dice) (hg : g_make_Dice_One d n = some r) : Fn Tryz.prog 9 1 [.ptr 0 0, .val (.int .i64 n)] [.box [.sl 1 (encL eI d.L), .val (.int .i64 d.At)] 69] (fun d b => d = .val (.bool r.1) ∧ b = [.box [.sl 1 (encL eI r.2.L), .val (.int .i64 r.2.At)] 69]) := by
 unfold g_make_Dice_One at hg
 refine Fn.of Tryz.func9 rfl rfl rfl fun w0 I ρ0 => ?_
 show awp _ ⟨w0, I, ρ0, 1, 1, 11⟩ _ _ _
 refine sr_ 1 9 mk_U ?_
 refine go_ ?_
 refine ch_n fun hU => ?_
 refine sr_ 9 65 hU ?_
 refine go_ ?_
 obtain ⟨y, hy, hg⟩ := bind_some hg
 refine cb_ [0] [0] [] false (w_make_Dice_Next _ _ _ hy) ?_
 refine go_ ?_
 refine ch_n fun hU => ?_
 refine aw_r ?_
 obtain rfl := Option.some.inj hg
 exact fin_ [(0, 0)] ⟨rfl, rfl⟩
theorem w_make_Certificate (d : cipherplanmake_Dice) (issuer : ByteArray) (subject : ByteArray) (key : api_Use) (id : Int) (signer : Int) (authority : Bool) (r : api_Certificate × cipherplanmake_Dice) (hg : g_make_Certificate d issuer subject key id signer authority = some r) : Fn Tryz.prog 59 1 [.ptr 0 0, .val (.string issuer), .val (.string subject), .agg [.val (.int .i64 key.Alg), .val (.int .i64 key.Bits)], .val (.int .i64 id), .val (.int .i64 signer), .val (.bool authority)] [.box [.sl 1 (encL eI d.L), .val (.int .i64 d.At)] 69] (fun d b => d = .agg (api_Certificate.dv r.1) ∧ b = [.box [.sl 1 (encL eI r.2.L), .val (.int .i64 r.2.At)] 69]) := by
 unfold g_make_Certificate at hg
 refine Fn.of Tryz.func59 rfl rfl rfl fun w0 I ρ0 => ?_
 show awp _ ⟨w0, I, ρ0, 1, 1, 58⟩ _ _ _
 refine sr_ 1 17 mk_U ?_
 refine go_ ?_
 refine ch_n fun hU => ?_
 refine awp_seq ?_
 refine awp_draw (sys _ _ [73, 105, 129]) (by kernel_rfl) [0, 1, 0, 0, 0, 0, 0, 0, 195, 451, 0, 0, 3523, 0, 0, 32195, 0, 131071, 0, 524287] 17 177 hU rfl rfl (by kernel_rfl) ?_
 refine go_ ?_
 obtain ⟨y, hy, hg⟩ := bind_some hg
 refine cb_ [0] [0] [] false (w_make_Dice_Next _ _ _ hy) ?_
 refine go_ ?_
 refine ch_z (rd := []) rfl rfl (r_buildFull sl22 z3 (by decide) rfl rfl rfl rfl ck3 (cs := [.int .i64 3, .int .i64 2, .int .i64 4, .int .i64 1]) (.cons .int (.cons .int (.cons .int (.cons .int .nil)))) rfl (l := ([3, 2, 4, 1] : List Int)) (f := eI) rfl) rfl rfl rfl ?_
 obtain ⟨y_2, hy_2, hg⟩ := bind_some hg
 refine cb_ [0] [0] [] false (w_make_Dice_Of _ _ _ hy_2) ?_
 refine c0_ rfl rfl (.build (r := [.val (.int .i64 y_2.1), .val (.int .i64 0)]) und30 pl30 z30 (by kernel_rfl) rfl) rfl rfl ?_
 refine go_ ?_
 refine ch_z (rd := []) rfl rfl (r_buildFull sl22 z3 (by decide) rfl rfl rfl rfl ck3 (cs := [.int .i64 0, .int .i64 5, .int .i64 10]) (.cons .int (.cons .int (.cons .int .nil))) rfl (l := ([0, 5, 10] : List Int)) (f := eI) rfl) rfl rfl rfl ?_
 obtain ⟨y_3, hy_3, hg⟩ := bind_some hg
 refine cb_ [0] [0] [] false (w_make_Dice_Of _ _ _ hy_3) ?_
 refine go_ ?_
 refine ch_z (rd := []) rfl rfl (r_buildFull sl22 z3 (by decide) rfl rfl rfl rfl ck3 (cs := [.int .i64 1000, .int .i64 100, .int .i64 50, .int .i64 20]) (.cons .int (.cons .int (.cons .int (.cons .int .nil)))) rfl (l := ([1000, 100, 50, 20] : List Int)) (f := eI) rfl) rfl rfl rfl ?_
 obtain ⟨y_4, hy_4, hg⟩ := bind_some hg
 refine cb_ [0] [0] [] false (w_make_Dice_Of _ _ _ hy_4) ?_
 refine go_ ?_
 refine c0_ rfl rfl (.build (r := [.val (.int .i64 y.1), .val (.string issuer), .val (.string subject), .val (.int .i64 key.Alg), .val (.int .i64 key.Bits), .val (.int .i64 id), .val (.int .i64 y_2.1), .val (.int .i64 0), .val (.int .i64 y_3.1), .val (.int .i64 y_4.1), .val (.bool authority), .val (.int .i64 0), .val (.slice none 0 0), .val (.int .i64 0), .val (.int .i64 0)]) und35 pl35 z35 (by kernel_rfl) rfl) rfl rfl ?_
 refine go_ ?_
 refine ch_n fun hU => ?_
 refine awp_cut (ι := cipherplanmake_Dice × Int) (fun ((d_1, c_1) : cipherplanmake_Dice × Int) => mk [(0, .ptr 0 0), (2, .val (.string subject)), (5, .val (.int .i64 signer)), (14, .ptr 1 0), (15, .ptr 2 0)] [(0, .box [.sl 1 (encL eI d_1.L), .val (.int .i64 d_1.At)] 69), (1, .box [.val (.int .i64 0), .val (.string (⟨#[]⟩ : ByteArray)), .val (.string (⟨#[]⟩ : ByteArray)), .val (.int .i64 0), .val (.int .i64 0), .val (.int .i64 0), .val (.int .i64 0), .val (.int .i64 0), .val (.int .i64 0), .val (.int .i64 0), .val (.bool false), .val (.int .i64 0), .val (.slice none 0 0), .val (.int .i64 0), .val (.int .i64 0)] 35), (2, .box [.val (.int .i64 y.1), .val (.string issuer), .val (.string subject), .val (.int .i64 key.Alg), .val (.int .i64 key.Bits), .val (.int .i64 id), .val (.int .i64 y_2.1), .val (.int .i64 0), .val (.int .i64 y_3.1), .val (.int .i64 y_4.1), .val (.bool authority), .val (.int .i64 c_1), .val (.slice none 0 0), .val (.int .i64 0), .val (.int .i64 0)] 35)] 3) (fun ((d_1, c_1) : cipherplanmake_Dice × Int) => g_make_Certificate.j1 issuer subject key id signer authority y y_2 y_3 y_4 d_1 c_1 = some r) ?_ ?_
 ·refine awp_seq ?_
  refine awp_region (sys _ _ []) 177 185 hU rfl rfl ?_
  refine go_ ?_
  refine ch_n fun hU => ?_
  refine cg_ rfl hg (fun h4 hg => ?_) fun h4 hg => ?_
  ·refine awp_region (sys _ _ [193]) 185 225 hU rfl rfl ?_
   refine go_ ?_
   refine ch_z (rd := []) rfl rfl (r_buildFull sl22 z3 (by decide) rfl rfl rfl rfl ck3 (cs := [.int .i64 3, .int .i64 0, .int .i64 1]) (.cons .int (.cons .int (.cons .int .nil))) rfl (l := ([3, 0, 1] : List Int)) (f := eI) rfl) rfl rfl rfl ?_
   obtain ⟨y_5, hy_5, hg⟩ := bind_some hg
   refine cb_ [0] [0] [] false (w_make_Dice_Of _ _ _ hy_5) ?_
   refine go_ ?_
   refine ch_n fun hU => ?_
   exact ⟨(y_5.2, y_5.1), hg, sub_ [(0, 0), (1, 9), (2, 161)]⟩
  ·refine awp_skip ?_
   repeat first | refine st_ ?_ | refine sn_ ?_
   exact ⟨(y_4.2, 0), hg, sub_ [(0, 0), (1, 9), (2, 161)]⟩
 ·rintro ⟨d_1, c_1⟩ hg
  replace hg : g_make_Certificate.j1 issuer subject key id signer authority y y_2 y_3 y_4 d_1 c_1 = some r := hg
  show awp _ _ _ _ (mk _ _ _)
  unfold g_make_Certificate.j1 at hg
  refine sr_ 3 35 mk_U ?_
  refine go_ ?_
  refine c0_ rfl rfl (r_buildFull sl31 z9 (by decide) rfl rfl rfl rfl ck9 (cs := [.str subject]) (.cons .str .nil) rfl (l := ([subject] : List ByteArray)) (f := eS) rfl) rfl rfl ?_
  refine go_ ?_
  refine ch_n fun hU => ?_
  refine awp_cut (ι := cipherplanmake_Dice × List ByteArray) (fun ((b_2, l_2) : cipherplanmake_Dice × List ByteArray) => mk [(5, .val (.int .i64 signer)), (14, .ptr 1 0), (15, .ptr 2 0)] [(0, .box [.sl 1 (encL eI b_2.L), .val (.int .i64 b_2.At)] 69), (1, .box [.val (.int .i64 0), .val (.string (⟨#[]⟩ : ByteArray)), .val (.string (⟨#[]⟩ : ByteArray)), .val (.int .i64 0), .val (.int .i64 0), .val (.int .i64 0), .val (.int .i64 0), .val (.int .i64 0), .val (.int .i64 0), .val (.int .i64 0), .val (.bool false), .val (.int .i64 0), .val (.slice none 0 0), .val (.int .i64 0), .val (.int .i64 0)] 35), (2, .box [.val (.int .i64 y.1), .val (.string issuer), .val (.string subject), .val (.int .i64 key.Alg), .val (.int .i64 key.Bits), .val (.int .i64 id), .val (.int .i64 y_2.1), .val (.int .i64 0), .val (.int .i64 y_3.1), .val (.int .i64 y_4.1), .val (.bool authority), .val (.int .i64 c_1), .row 3, .val (.int .i64 0), .val (.int .i64 0)] 35), (3, .row 9 1 (encL eS l_2))] 4) (fun ((b_2, l_2) : cipherplanmake_Dice × List ByteArray) => g_make_Certificate.j2 issuer subject key id signer authority y y_2 y_3 y_4 c_1 b_2 l_2 = some r) ?_ ?_
  ·refine awp_seq ?_
   refine awp_region (sys _ _ []) 35 51 hU rfl rfl ?_
   refine go_ ?_
   obtain ⟨y_6, hy_6, hg⟩ := bind_some hg
   refine cb_ [0] [0] [] false (w_make_Dice_One _ _ _ hy_6) ?_
   refine ch_n fun hU => ?_
   refine cg_ rfl hg (fun h8 hg => ?_) fun h8 hg => ?_
   ·refine awp_region (sys _ _ []) 51 115 hU rfl rfl ?_
    refine go_ ?_
    obtain ⟨s, hs, hg⟩ := bind_some hg
    refine c0_ rfl rfl (r_cat hs) rfl rfl ?_
    refine c0_ rfl rfl (r_buildFull sl31 z9 (by decide) rfl rfl rfl rfl ck9 (cs := [.str s]) (.cons .str .nil) rfl (l := ([s] : List ByteArray)) (f := eS) rfl) rfl rfl ?_
    obtain ⟨l, hl, hg⟩ := bind_some hg
    refine ch_s (rd := [11, 83]) rfl rfl (r_append sl31 eS_len .row rfl .row rfl hl rfl) rfl rfl ?_
    refine go_ ?_
    refine ch_n fun hU => ?_
    exact ⟨(y_6.2, l), hg, sub_ [(0, 0), (1, 1), (2, 2), (3, 91)]⟩
   ·refine awp_skip ?_
    repeat first | refine st_ ?_ | refine sn_ ?_
    exact ⟨(y_6.2, ([subject] : List ByteArray)), hg, sub_ [(0, 0), (1, 1), (2, 2), (3, 11)]⟩
  ·rintro ⟨b_2, l_2⟩ hg
   replace hg : g_make_Certificate.j2 issuer subject key id signer authority y y_2 y_3 y_4 c_1 b_2 l_2 = some r := hg
   show awp _ _ _ _ (mk _ _ _)
   unfold g_make_Certificate.j2 at hg
   refine awp_seq ?_
   refine awp_sub (σ' := mk [(5, .val (.int .i64 signer)), (14, .ptr 1 0), (15, .ptr 2 0)] [(0, .box [.sl 1 (encL eI b_2.L), .val (.int .i64 b_2.At)] 69), (1, .box [.val (.int .i64 0), .val (.string (⟨#[]⟩ : ByteArray)), .val (.string (⟨#[]⟩ : ByteArray)), .val (.int .i64 0), .val (.int .i64 0), .val (.int .i64 0), .val (.int .i64 0), .val (.int .i64 0), .val (.int .i64 0), .val (.int .i64 0), .val (.bool false), .val (.int .i64 0), .val (.slice none 0 0), .val (.int .i64 0), .val (.int .i64 0)] 35), (2, .box [.val (.int .i64 y.1), .val (.string issuer), .val (.string subject), .val (.int .i64 key.Alg), .val (.int .i64 key.Bits), .val (.int .i64 id), .val (.int .i64 y_2.1), .val (.int .i64 0), .val (.int .i64 y_3.1), .val (.int .i64 y_4.1), .val (.bool authority), .val (.int .i64 c_1), .sl 1 (encL eS l_2), .val (.int .i64 0), .val (.int .i64 0)] 35)] 3) (sub_ [(0, 0), (1, 1), (2, 2)]) ?_
   refine awp_region (sys _ _ []) 3 59 mk_U rfl rfl ?_
   refine go_ ?_
   obtain ⟨y_7, hy_7, hg⟩ := bind_some hg
   refine ca_ (w_ref03_Sign _ _ _ hy_7) ?_
   refine go_ ?_
   refine ch_n fun hU => ?_
   refine sr_ 59 75 hU ?_
   refine go_ ?_
   refine ch_n fun hU => ?_
   refine aw_r ?_
   obtain rfl := Option.some.inj hg
   exact fin_ [(0, 0)] ⟨rfl, rfl⟩
theorem w_make_Chain_own (d : cipherplanmake_Dice) (name : ByteArray) (key : api_Use) (id : Int) (r : (List api_Certificate) × cipherplanmake_Dice) (hg : g_make_Chain d name key id = some r) : Fn Tryz.prog 26 1 [.ptr 0 0, .val (.string name), .agg [.val (.int .i64 key.Alg), .val (.int .i64 key.Bits)], .val (.int .i64 id)] [.box [.sl 1 (encL eI d.L), .val (.int .i64 d.At)] 69] (fun d b => d = .row 1 ∧ b = [.box [.sl 1 (encL eI r.2.L), .val (.int .i64 r.2.At)] 69, .row 35 15 (encL api_Certificate.enc r.1)]) := by
 unfold g_make_Chain at hg
 refine Fn.of Tryz.func26 rfl rfl rfl fun w0 I ρ0 => ?_
 show awp _ ⟨w0, I, ρ0, 1, 1, 56⟩ _ _ _
 refine sr_ 1 17 mk_U ?_
 refine go_ ?_
 refine ch_n fun hU => ?_
 refine awp_seq ?_
 refine awp_region (sys _ _ [25]) 17 49 hU rfl rfl ?_
 refine go_ ?_
 refine ch_z (rd := []) rfl rfl (r_buildFull sl22 z3 (by decide) rfl rfl rfl rfl ck3 (cs := [.int .i64 1, .int .i64 0, .int .i64 2]) (.cons .int (.cons .int (.cons .int .nil))) rfl (l := ([1, 0, 2] : List Int)) (f := eI) rfl) rfl rfl rfl ?_
 obtain ⟨y, hy, hg⟩ := bind_some hg
 refine cb_ [0] [0] [] false (w_make_Dice_Of _ _ _ hy) ?_
 refine go_ ?_
 refine ch_n fun hU => ?_
 refine sr_ 49 89 hU ?_
 refine go_ ?_
 obtain ⟨y_2, hy_2, hg⟩ := bind_some hg
 refine cb_ [0] [0] [] false (w_make_Dice_Next _ _ _ hy_2) ?_
 refine go_ ?_
 refine ch_n fun hU => ?_
 refine sr_ 89 97 hU ?_
 refine go_ ?_
 refine ch_n fun hU => ?_
 refine awp_seq ?_
 refine sr_ 97 105 hU ?_
 refine go_ ?_
 refine ch_n fun hU => ?_
 refine awp_block ?_
 refine lp_ (fun ((signer_1, issuer_1, i_1, d_1, above_1) : Int × ByteArray × Int × cipherplanmake_Dice × List api_Certificate) => mk [(0, .ptr 0 0), (1, .val (.string name)), (3, .val (.int .i64 id)), (6, .ptr 1 0), (9, .val (.int .i64 y.1)), (10, .val (.int .i64 signer_1)), (11, .val (.string issuer_1)), (12, .row 2), (13, .val (.int .i64 i_1))] [(0, .box [.sl 1 (encL eI d_1.L), .val (.int .i64 d_1.At)] 69), (1, .box [.val (.int .i64 key.Alg), .val (.int .i64 key.Bits)] 30), (2, .row 35 15 (encL api_Certificate.enc above_1))] 3) hg (sub_ [(0, 0), (1, 1)]) ?_
 rintro ⟨signer_1, issuer_1, i_1, d_1, above_1⟩ m1 o1 hg hn1
 replace hg : g_make_Chain.l1 name key id y signer_1 issuer_1 i_1 d_1 above_1 = some o1 := hg
 show awp _ _ _ _ (mk _ _ _)
 unfold g_make_Chain.l1 at hg
 refine awp_seq ?_
 refine sr_ 3 27 mk_U ?_
 refine go_ ?_
 refine ch_n fun hU => ?_
 refine cg_ rfl hg (fun h7 hg => ?_) fun h7 hg => ?_
 ·refine awp_skip ?_
  repeat first | refine st_ ?_ | refine sn_ ?_
  refine awp_seq ?_
  refine awp_block ?_
  refine sr_ 27 67 hU ?_
  refine c0_ rfl rfl (r_buildFull sl31 z9 (by decide) rfl rfl rfl rfl ck9 (cs := [.str (⟨#[99, 97]⟩ : ByteArray), .str (⟨#[99, 98]⟩ : ByteArray), .str (⟨#[99, 99]⟩ : ByteArray)]) (.cons .str (.cons .str (.cons .str .nil))) rfl (l := ([(⟨#[99, 97]⟩ : ByteArray), (⟨#[99, 98]⟩ : ByteArray), (⟨#[99, 99]⟩ : ByteArray)] : List ByteArray)) (f := eS) rfl) rfl rfl ?_
  refine go_ ?_
  obtain ⟨e, he, hg⟩ := bind_some hg
  refine go_ ?_
  refine ch_s (rd := [27]) rfl rfl (.loadR1 ty9 (enc_cell eS_len (getI_at he) (o := 0) (c := .str e) rfl rfl)) rfl rfl ?_
  refine go_ ?_
  refine ch_n fun hU => ?_
  refine sr_ 67 147 hU ?_
  refine go_ ?_
  refine c0_ rfl rfl (.build (r := [.val (.int .i64 5), .val (.int .i64 2048)]) und30 pl30 z30 (by kernel_rfl) rfl) rfl rfl ?_
  refine go_ ?_
  obtain ⟨y_3, hy_3, hg⟩ := bind_some hg
  refine cb_ [0] [0] [] false (w_make_Certificate _ _ _ _ _ _ _ _ hy_3) ?_
  refine go_ ?_
  refine ch_n fun hU => ?_
  refine sr_ 147 187 hU ?_
  refine go_ ?_
  refine c0_ rfl rfl (r_buildFull sl27 z35 (by decide) rfl rfl rfl rfl ck35 (cs := [.int .i64 y_3.1.Serial, .str y_3.1.Issuer, .str y_3.1.Subject, .int .i64 y_3.1.Key.Alg, .int .i64 y_3.1.Key.Bits, .int .i64 y_3.1.KeyId, .int .i64 y_3.1.Hash.Alg, .int .i64 y_3.1.Hash.Bits, .int .i64 y_3.1.From, .int .i64 y_3.1.To, .bool y_3.1.Authority, .int .i64 y_3.1.Path, .sl 1 (encL eS y_3.1.Names), .int .i64 y_3.1.Seal.Key, .int .i64 y_3.1.Seal.Sum]) (.cons .int (.cons .str (.cons .str (.cons .int (.cons .int (.cons .int (.cons .int (.cons .int (.cons .int (.cons .int (.cons .bool (.cons .int (.cons .sl (.cons .int (.cons .int .nil))))))))))))))) rfl (l := ([y_3.1] : List api_Certificate)) (f := api_Certificate.enc) rfl) rfl rfl ?_
  refine go_ ?_
  obtain ⟨l, hl, hg⟩ := bind_some hg
  refine ch_s (rd := [155, 2]) rfl rfl (r_append sl27 api_Certificate.enc_len .row rfl .row rfl hl rfl) rfl rfl ?_
  refine go_ ?_
  refine ch_n fun hU => ?_
  refine awp_region (sys _ _ []) 187 227 hU rfl rfl ?_
  refine go_ ?_
  refine ch_n fun hU => ?_
  refine awp_region (sys _ _ []) 227 251 hU rfl rfl ?_
  refine go_ ?_
  refine ch_n fun hU => ?_
  obtain rfl := Option.some.inj hg
  exact ⟨((W (11 + i_1), e, W (i_1 + 1), y_3.2, l), m1), Nat.lt_succ_self _, hn1, sub_ [(0, 0), (1, 1), (2, 171)]⟩
 ·refine awp_exit ?_
  repeat first | refine st_ ?_ | refine sn_ ?_
  replace hg := leave hg hn1
  refine sr_ 27 115 hU ?_
  refine go_ ?_
  obtain ⟨y_4, hy_4, hg⟩ := bind_some hg
  refine cb_ [0] [0] [] false (w_make_Certificate _ _ _ _ _ _ _ _ hy_4) ?_
  refine c0_ rfl rfl (r_buildFull sl27 z35 (by decide) rfl rfl rfl rfl ck35 (cs := [.int .i64 y_4.1.Serial, .str y_4.1.Issuer, .str y_4.1.Subject, .int .i64 y_4.1.Key.Alg, .int .i64 y_4.1.Key.Bits, .int .i64 y_4.1.KeyId, .int .i64 y_4.1.Hash.Alg, .int .i64 y_4.1.Hash.Bits, .int .i64 y_4.1.From, .int .i64 y_4.1.To, .bool y_4.1.Authority, .int .i64 y_4.1.Path, .sl 1 (encL eS y_4.1.Names), .int .i64 y_4.1.Seal.Key, .int .i64 y_4.1.Seal.Sum]) (.cons .int (.cons .str (.cons .str (.cons .int (.cons .int (.cons .int (.cons .int (.cons .int (.cons .int (.cons .int (.cons .bool (.cons .int (.cons .sl (.cons .int (.cons .int .nil))))))))))))))) rfl (l := ([y_4.1] : List api_Certificate)) (f := api_Certificate.enc) rfl) rfl rfl ?_
  refine go_ ?_
  obtain ⟨l_2, hl_2, hg⟩ := bind_some hg
  refine ch_s (rd := [83, 2]) rfl rfl (r_append sl27 api_Certificate.enc_len .row rfl .row rfl hl_2 rfl) rfl rfl ?_
  refine go_ ?_
  refine ch_n fun hU => ?_
  refine aw_r ?_
  obtain rfl := Option.some.inj hg
  exact fin_ [(0, 0), (1, 99)] ⟨rfl, rfl⟩
theorem w_law04_made (d : cipherplanmake_Dice) (r : (List api_Certificate) × cipherplanmake_Dice) (hg : g_law04_made d = some r) : Fn Tryz.prog 8 1 [.ptr 0 0] [.box [.sl 1 (encL eI d.L), .val (.int .i64 d.At)] 69] (fun d b => d = .sl 15 (encL api_Certificate.enc r.1) ∧ b = [.box [.sl 1 (encL eI r.2.L), .val (.int .i64 r.2.At)] 69]) := by
 unfold g_law04_made at hg
 refine Fn.of Tryz.func8 rfl rfl rfl fun w0 I ρ0 => ?_
 show awp _ ⟨w0, I, ρ0, 1, 1, 146⟩ _ _ _
 refine sr_ 1 9 mk_U ?_
 refine go_ ?_
 refine ch_n fun hU => ?_
 refine sr_ 9 49 hU ?_
 refine go_ ?_
 obtain ⟨y, hy, hg⟩ := bind_some hg
 refine cb_ [0] [0] [] false (w_make_Key _ _ hy) ?_
 obtain ⟨y_2, hy_2, hg⟩ := bind_some hg
 refine ch_call (rd := [0]) (ps := [0]) (gs := []) false rfl (w_make_Chain_own _ _ _ _ _ hy_2) rfl rfl (.cons (.ptr rfl) (.cons .val (.cons (.agg (.cons .val (.cons .val .nil))) (.cons .val .nil)))) ⟨_, _, _, rfl, .head _, ⟨_, rfl, (by repeat' (first | exact AgL.nil | apply AgL.cons | exact Ag.val | exact Ag.sl | exact Ag.nils | exact Ag.ptr rfl))⟩, rfl⟩ rfl (by intro h; cases h) rfl (by intro h; first | (cases h; done) | exact ⟨_, _, ⟨rfl, rfl⟩, by simp, by simp⟩) ?_
 rintro _ _ ⟨rfl, rfl⟩
 refine go_ ?_
 refine ch_n fun hU => ?_
 refine sr_ 49 105 hU ?_
 refine go_ ?_
 obtain ⟨y_3, hy_3, hg⟩ := bind_some hg
 refine cb_ [0] [0] [] false (w_make_Dice_Next _ _ _ hy_3) ?_
 obtain ⟨e, he, hg⟩ := bind_some hg
 refine go_ ?_
 refine ch_n fun hU => ?_
 refine awp_cutO (ι := cipherplanmake_Dice × List api_Certificate) (fun ((d_3, l_3) : cipherplanmake_Dice × List api_Certificate) => mk [(0, .ptr 0 0), (3, .row 1)] [(0, .box [.sl 1 (encL eI d_3.L), .val (.int .i64 d_3.At)] 69), (1, .row 35 15 (encL api_Certificate.enc l_3))] 2) (fun ((d_3, l_3) : cipherplanmake_Dice × List api_Certificate) => g_law04_made.j3 d_3 l_3 = some r) ?_ ?_
 ·refine awp_seq ?_
  refine awp_region (sys _ _ []) 105 121 hU rfl rfl ?_
  refine go_ ?_
  obtain ⟨y_4, hy_4, hg⟩ := bind_some hg
  refine cb_ [0] [0] [] false (w_make_Dice_Next _ _ _ hy_4) ?_
  refine ch_n fun hU => ?_
  refine awp_block ?_
  refine sr_ 121 137 hU ?_
  refine go_ ?_
  refine ch_n fun hU => ?_
  refine cg_ rfl hg (fun h6 hg => ?_) fun h6 hg => ?_
  ·refine awp_region (sys _ _ []) 137 201 hU rfl rfl ?_
   refine go_ ?_
   refine ch_s (rd := [33]) rfl rfl (.loadR1 ty3 (enc_cell api_Certificate.enc_len (getI_at he) (o := 0) (c := .int .i64 e.Serial) rfl rfl)) rfl rfl ?_
   refine go_ ?_
   refine ch_s (rd := [33]) rfl rfl (r_storeR ty3 rfl (enc_cells_le api_Certificate.enc_len (getI_at he) (o := 0) (m := 1) (by decide) rfl) ck3 (cs' := [.int .i64 (W (e.Serial + 1))]) (.cons .int .nil) (enc_splice api_Certificate.enc_len (getI_at he) (o := 0) (x' := (api_Certificate.mk (W (e.Serial + 1)) e.Issuer e.Subject e.Key e.KeyId e.Hash e.From e.To e.Authority e.Path e.Names e.Seal)) (Nat.le_of_ble_eq_true rfl) rfl rfl)) rfl rfl ?_
   refine ch_n fun hU => ?_
   exact .inl ⟨(y_4.2, setI y_2.1 ((y_3.1).toNat) (api_Certificate.mk (W (e.Serial + 1)) e.Issuer e.Subject e.Key e.KeyId e.Hash e.From e.To e.Authority e.Path e.Names e.Seal)), hg, sub_ [(0, 0), (1, 33)]⟩
  ·refine awp_seq ?_
   refine awp_region (sys _ _ []) 137 153 hU rfl rfl ?_
   refine go_ ?_
   refine ch_n fun hU => ?_
   refine cg_ rfl hg (fun h9 hg => ?_) fun h9 hg => ?_
   ·refine awp_region (sys _ _ []) 153 185 hU rfl rfl ?_
    refine go_ ?_
    refine ch_s (rd := [33]) rfl rfl (r_storeR ty9 rfl (enc_cells_le api_Certificate.enc_len (getI_at he) (o := 1) (m := 1) (by decide) rfl) ck9 (cs' := [.str (⟨#[120]⟩ : ByteArray)]) (.cons .str .nil) (enc_splice api_Certificate.enc_len (getI_at he) (o := 1) (x' := (api_Certificate.mk e.Serial (⟨#[120]⟩ : ByteArray) e.Subject e.Key e.KeyId e.Hash e.From e.To e.Authority e.Path e.Names e.Seal)) (Nat.le_of_ble_eq_true rfl) rfl rfl)) rfl rfl ?_
    refine ch_n fun hU => ?_
    exact .inl ⟨(y_4.2, setI y_2.1 ((y_3.1).toNat) (api_Certificate.mk e.Serial (⟨#[120]⟩ : ByteArray) e.Subject e.Key e.KeyId e.Hash e.From e.To e.Authority e.Path e.Names e.Seal)), hg, sub_ [(0, 0), (1, 33)]⟩
   ·refine awp_seq ?_
    refine awp_region (sys _ _ []) 153 169 hU rfl rfl ?_
    refine go_ ?_
    refine ch_n fun hU => ?_
    refine cg_ rfl hg (fun h12 hg => ?_) fun h12 hg => ?_
    ·refine awp_region (sys _ _ []) 169 201 hU rfl rfl ?_
     refine go_ ?_
     refine ch_s (rd := [33]) rfl rfl (r_storeR ty9 rfl (enc_cells_le api_Certificate.enc_len (getI_at he) (o := 2) (m := 1) (by decide) rfl) ck9 (cs' := [.str (⟨#[120]⟩ : ByteArray)]) (.cons .str .nil) (enc_splice api_Certificate.enc_len (getI_at he) (o := 2) (x' := (api_Certificate.mk e.Serial e.Issuer (⟨#[120]⟩ : ByteArray) e.Key e.KeyId e.Hash e.From e.To e.Authority e.Path e.Names e.Seal)) (Nat.le_of_ble_eq_true rfl) rfl rfl)) rfl rfl ?_
     refine ch_n fun hU => ?_
     exact .inl ⟨(y_4.2, setI y_2.1 ((y_3.1).toNat) (api_Certificate.mk e.Serial e.Issuer (⟨#[120]⟩ : ByteArray) e.Key e.KeyId e.Hash e.From e.To e.Authority e.Path e.Names e.Seal)), hg, sub_ [(0, 0), (1, 33)]⟩
    ·refine awp_seq ?_
     refine awp_region (sys _ _ []) 169 185 hU rfl rfl ?_
     refine go_ ?_
     refine ch_n fun hU => ?_
     refine cg_ rfl hg (fun h15 hg => ?_) fun h15 hg => ?_
     ·refine awp_region (sys _ _ []) 185 217 hU rfl rfl ?_
      refine go_ ?_
      refine ch_s (rd := [33]) rfl rfl (r_storeR ty3 rfl (enc_cells_le api_Certificate.enc_len (getI_at he) (o := 5) (m := 1) (by decide) rfl) ck3 (cs' := [.int .i64 55]) (.cons .int .nil) (enc_splice api_Certificate.enc_len (getI_at he) (o := 5) (x' := (api_Certificate.mk e.Serial e.Issuer e.Subject e.Key 55 e.Hash e.From e.To e.Authority e.Path e.Names e.Seal)) (Nat.le_of_ble_eq_true rfl) rfl rfl)) rfl rfl ?_
      refine ch_n fun hU => ?_
      exact .inl ⟨(y_4.2, setI y_2.1 ((y_3.1).toNat) (api_Certificate.mk e.Serial e.Issuer e.Subject e.Key 55 e.Hash e.From e.To e.Authority e.Path e.Names e.Seal)), hg, sub_ [(0, 0), (1, 33)]⟩
     ·refine awp_seq ?_
      refine awp_region (sys _ _ []) 185 201 hU rfl rfl ?_
      refine go_ ?_
      refine ch_n fun hU => ?_
      refine cg_ rfl hg (fun h18 hg => ?_) fun h18 hg => ?_
      ·refine awp_region (sys _ _ []) 201 305 hU rfl rfl ?_
       refine go_ ?_
       refine ch_s (rd := [33]) rfl rfl (.loadR1 ty4 (enc_cell api_Certificate.enc_len (getI_at he) (o := 10) (c := .bool e.Authority) rfl rfl)) rfl rfl ?_
       refine go_ ?_
       refine ch_s (rd := [33]) rfl rfl (r_storeR ty4 rfl (enc_cells_le api_Certificate.enc_len (getI_at he) (o := 10) (m := 1) (by decide) rfl) ck4 (cs' := [.bool (!e.Authority)]) (.cons .bool .nil) (enc_splice api_Certificate.enc_len (getI_at he) (o := 10) (x' := (api_Certificate.mk e.Serial e.Issuer e.Subject e.Key e.KeyId e.Hash e.From e.To (!e.Authority) e.Path e.Names e.Seal)) (Nat.le_of_ble_eq_true rfl) rfl rfl)) rfl rfl ?_
       refine go_ ?_
       refine ch_s (rd := [33]) rfl rfl (r_storeR ty3 rfl (enc_cells_le api_Certificate.enc_len (setI_at (getI_at he)) (o := 11) (m := 1) (by decide) rfl) ck3 (cs' := [.int .i64 0]) (.cons .int .nil) (enc_splice api_Certificate.enc_len (setI_at (getI_at he)) (o := 11) (x' := (api_Certificate.mk ((api_Certificate.mk e.Serial e.Issuer e.Subject e.Key e.KeyId e.Hash e.From e.To (!e.Authority) e.Path e.Names e.Seal).Serial) ((api_Certificate.mk e.Serial e.Issuer e.Subject e.Key e.KeyId e.Hash e.From e.To (!e.Authority) e.Path e.Names e.Seal).Issuer) ((api_Certificate.mk e.Serial e.Issuer e.Subject e.Key e.KeyId e.Hash e.From e.To (!e.Authority) e.Path e.Names e.Seal).Subject) ((api_Certificate.mk e.Serial e.Issuer e.Subject e.Key e.KeyId e.Hash e.From e.To (!e.Authority) e.Path e.Names e.Seal).Key) ((api_Certificate.mk e.Serial e.Issuer e.Subject e.Key e.KeyId e.Hash e.From e.To (!e.Authority) e.Path e.Names e.Seal).KeyId) ((api_Certificate.mk e.Serial e.Issuer e.Subject e.Key e.KeyId e.Hash e.From e.To (!e.Authority) e.Path e.Names e.Seal).Hash) ((api_Certificate.mk e.Serial e.Issuer e.Subject e.Key e.KeyId e.Hash e.From e.To (!e.Authority) e.Path e.Names e.Seal).From) ((api_Certificate.mk e.Serial e.Issuer e.Subject e.Key e.KeyId e.Hash e.From e.To (!e.Authority) e.Path e.Names e.Seal).To) ((api_Certificate.mk e.Serial e.Issuer e.Subject e.Key e.KeyId e.Hash e.From e.To (!e.Authority) e.Path e.Names e.Seal).Authority) 0 ((api_Certificate.mk e.Serial e.Issuer e.Subject e.Key e.KeyId e.Hash e.From e.To (!e.Authority) e.Path e.Names e.Seal).Names) ((api_Certificate.mk e.Serial e.Issuer e.Subject e.Key e.KeyId e.Hash e.From e.To (!e.Authority) e.Path e.Names e.Seal).Seal))) (Nat.le_of_ble_eq_true rfl) rfl rfl)) rfl rfl ?_
       refine ch_n fun hU => ?_
       exact .inl ⟨(y_4.2, setI (setI y_2.1 ((y_3.1).toNat) (api_Certificate.mk e.Serial e.Issuer e.Subject e.Key e.KeyId e.Hash e.From e.To (!e.Authority) e.Path e.Names e.Seal)) ((y_3.1).toNat) (api_Certificate.mk ((api_Certificate.mk e.Serial e.Issuer e.Subject e.Key e.KeyId e.Hash e.From e.To (!e.Authority) e.Path e.Names e.Seal).Serial) ((api_Certificate.mk e.Serial e.Issuer e.Subject e.Key e.KeyId e.Hash e.From e.To (!e.Authority) e.Path e.Names e.Seal).Issuer) ((api_Certificate.mk e.Serial e.Issuer e.Subject e.Key e.KeyId e.Hash e.From e.To (!e.Authority) e.Path e.Names e.Seal).Subject) ((api_Certificate.mk e.Serial e.Issuer e.Subject e.Key e.KeyId e.Hash e.From e.To (!e.Authority) e.Path e.Names e.Seal).Key) ((api_Certificate.mk e.Serial e.Issuer e.Subject e.Key e.KeyId e.Hash e.From e.To (!e.Authority) e.Path e.Names e.Seal).KeyId) ((api_Certificate.mk e.Serial e.Issuer e.Subject e.Key e.KeyId e.Hash e.From e.To (!e.Authority) e.Path e.Names e.Seal).Hash) ((api_Certificate.mk e.Serial e.Issuer e.Subject e.Key e.KeyId e.Hash e.From e.To (!e.Authority) e.Path e.Names e.Seal).From) ((api_Certificate.mk e.Serial e.Issuer e.Subject e.Key e.KeyId e.Hash e.From e.To (!e.Authority) e.Path e.Names e.Seal).To) ((api_Certificate.mk e.Serial e.Issuer e.Subject e.Key e.KeyId e.Hash e.From e.To (!e.Authority) e.Path e.Names e.Seal).Authority) 0 ((api_Certificate.mk e.Serial e.Issuer e.Subject e.Key e.KeyId e.Hash e.From e.To (!e.Authority) e.Path e.Names e.Seal).Names) ((api_Certificate.mk e.Serial e.Issuer e.Subject e.Key e.KeyId e.Hash e.From e.To (!e.Authority) e.Path e.Names e.Seal).Seal))), hg, sub_ [(0, 0), (1, 33)]⟩
      ·refine awp_seq ?_
       refine awp_region (sys _ _ []) 201 217 hU rfl rfl ?_
       refine go_ ?_
       refine ch_n fun hU => ?_
       refine cg_ rfl hg (fun h21 hg => ?_) fun h21 hg => ?_
       ·refine awp_region (sys _ _ [233]) 217 273 hU rfl rfl ?_
        refine go_ ?_
        refine ch_z (rd := []) rfl rfl (r_buildFull sl22 z3 (by decide) rfl rfl rfl rfl ck3 (cs := [.int .i64 0, .int .i64 9]) (.cons .int (.cons .int .nil)) rfl (l := ([0, 9] : List Int)) (f := eI) rfl) rfl rfl rfl ?_
        obtain ⟨y_5, hy_5, hg⟩ := bind_some hg
        refine cb_ [0] [0] [] false (w_make_Dice_Of _ _ _ hy_5) ?_
        refine go_ ?_
        refine ch_s (rd := [33]) rfl rfl (r_storeR ty3 rfl (enc_cells_le api_Certificate.enc_len (getI_at he) (o := 11) (m := 1) (by decide) rfl) ck3 (cs' := [.int .i64 y_5.1]) (.cons .int .nil) (enc_splice api_Certificate.enc_len (getI_at he) (o := 11) (x' := (api_Certificate.mk e.Serial e.Issuer e.Subject e.Key e.KeyId e.Hash e.From e.To e.Authority y_5.1 e.Names e.Seal)) (Nat.le_of_ble_eq_true rfl) rfl rfl)) rfl rfl ?_
        refine ch_n fun hU => ?_
        exact .inl ⟨(y_5.2, setI y_2.1 ((y_3.1).toNat) (api_Certificate.mk e.Serial e.Issuer e.Subject e.Key e.KeyId e.Hash e.From e.To e.Authority y_5.1 e.Names e.Seal)), hg, sub_ [(0, 0), (1, 33)]⟩
       ·refine awp_seq ?_
        refine awp_region (sys _ _ []) 217 233 hU rfl rfl ?_
        refine go_ ?_
        refine ch_n fun hU => ?_
        refine cg_ rfl hg (fun h24 hg => ?_) fun h24 hg => ?_
        ·refine awp_region (sys _ _ []) 233 265 hU rfl rfl ?_
         refine go_ ?_
         refine ch_s (rd := [33]) rfl rfl (r_storeR ty31 rfl (enc_cells_le api_Certificate.enc_len (getI_at he) (o := 12) (m := 1) (by decide) rfl) ck31 (cs' := [.sl 1 (encL eS [])]) (.cons .nil .nil) (enc_splice api_Certificate.enc_len (getI_at he) (o := 12) (x' := (api_Certificate.mk e.Serial e.Issuer e.Subject e.Key e.KeyId e.Hash e.From e.To e.Authority e.Path ([] : (List ByteArray)) e.Seal)) (Nat.le_of_ble_eq_true rfl) rfl rfl)) rfl rfl ?_
         refine ch_n fun hU => ?_
         exact .inl ⟨(y_4.2, setI y_2.1 ((y_3.1).toNat) (api_Certificate.mk e.Serial e.Issuer e.Subject e.Key e.KeyId e.Hash e.From e.To e.Authority e.Path ([] : (List ByteArray)) e.Seal)), hg, sub_ [(0, 0), (1, 33)]⟩
        ·refine awp_seq ?_
         refine awp_region (sys _ _ []) 233 249 hU rfl rfl ?_
         refine go_ ?_
         refine ch_n fun hU => ?_
         refine cg_ rfl hg (fun h27 hg => ?_) fun h27 hg => ?_
         ·refine awp_region (sys _ _ []) 249 305 hU rfl rfl ?_
          refine go_ ?_
          obtain ⟨e_2, he_2, hg⟩ := bind_some hg
          refine go_ ?_
          refine ch_s (rd := [33]) rfl rfl (r_loadRA ty35 (enc_cells api_Certificate.enc_len (getI_at he_2) (o := 0) (m := 15) (cs := [.int .i64 e_2.Serial, .str e_2.Issuer, .str e_2.Subject, .int .i64 e_2.Key.Alg, .int .i64 e_2.Key.Bits, .int .i64 e_2.KeyId, .int .i64 e_2.Hash.Alg, .int .i64 e_2.Hash.Bits, .int .i64 e_2.From, .int .i64 e_2.To, .bool e_2.Authority, .int .i64 e_2.Path, .sl 1 (encL eS e_2.Names), .int .i64 e_2.Seal.Key, .int .i64 e_2.Seal.Sum]) rfl (by decide) rfl) (enc_cells_le api_Certificate.enc_len (getI_at he_2) (o := 0) (m := 15) (by decide) rfl)) rfl rfl ?_
          refine c0_ rfl rfl (r_buildFull sl27 z35 (by decide) rfl rfl rfl rfl ck35 (cs := [.int .i64 e_2.Serial, .str e_2.Issuer, .str e_2.Subject, .int .i64 e_2.Key.Alg, .int .i64 e_2.Key.Bits, .int .i64 e_2.KeyId, .int .i64 e_2.Hash.Alg, .int .i64 e_2.Hash.Bits, .int .i64 e_2.From, .int .i64 e_2.To, .bool e_2.Authority, .int .i64 e_2.Path, .sl 1 (encL eS e_2.Names), .int .i64 e_2.Seal.Key, .int .i64 e_2.Seal.Sum]) (.cons .int (.cons .str (.cons .str (.cons .int (.cons .int (.cons .int (.cons .int (.cons .int (.cons .int (.cons .int (.cons .bool (.cons .int (.cons .sl (.cons .int (.cons .int .nil))))))))))))))) rfl (l := ([e_2] : List api_Certificate)) (f := api_Certificate.enc) rfl) rfl rfl ?_
          obtain ⟨l, hl, hg⟩ := bind_some hg
          refine ch_s (rd := [33, 281]) rfl rfl (r_append sl27 api_Certificate.enc_len .row rfl .row rfl hl rfl) rfl rfl ?_
          refine go_ ?_
          refine ch_n fun hU => ?_
          exact .inl ⟨(y_4.2, l), hg, sub_ [(0, 0), (1, 289)]⟩
         ·refine awp_seq ?_
          refine awp_region (sys _ _ []) 249 265 hU rfl rfl ?_
          refine go_ ?_
          refine ch_n fun hU => ?_
          refine cg_ rfl hg (fun h30 hg => ?_) fun h30 hg => ?_
          ·refine awp_region (sys _ _ []) 265 289 hU rfl rfl ?_
           refine go_ ?_
           obtain ⟨l_2, hl_2, hg⟩ := bind_some hg
           refine ch_s (rd := [33]) rfl rfl (r_sliR_lo sl27 api_Certificate.enc_len hl_2) rfl rfl ?_
           refine go_ ?_
           refine ch_n fun hU => ?_
           refine .inr ?_
           refine awp_seq ?_
           refine awp_cut (ι := Bool × cipherplanmake_Dice) (fun ((x123_2, d_2) : Bool × cipherplanmake_Dice) => mk [(0, .ptr 0 0), (3, .part 1 (((1 : Int).toNat) * 15) (((y_2.1.length : Int) : Int).toNat - (1 : Int).toNat)), (123, .val (.bool x123_2))] [(0, .box [.sl 1 (encL eI d_2.L), .val (.int .i64 d_2.At)] 69), (1, .row 35 15 (encL api_Certificate.enc y_2.1))] 2) (fun ((x123_2, d_2) : Bool × cipherplanmake_Dice) => g_law04_made.j2 y_2 x123_2 d_2 = some r) ?_ ?_
           ·refine awp_region (sys _ _ []) 289 345 hU rfl rfl ?_
            refine go_ ?_
            obtain ⟨y_7, hy_7, hg⟩ := bind_some hg
            refine cb_ [0] [0] [] false (w_make_Dice_One _ _ _ hy_7) ?_
            refine go_ ?_
            rcases bc_ hg with ⟨h41, hg⟩ | ⟨h41, hg⟩
            ·refine go_ ?_
             refine c0_ (gdv_t rfl rfl h41) rfl (.len sl27.elem .part) rfl rfl ?_
             refine go_ ?_
             refine ch_n fun hU => ?_
             exact ⟨(decide (0 < (((((y_2.1.length : Int) : Int).toNat - (1 : Int).toNat) : Nat) : Int)), y_7.2), hg, sub_ [(0, 0), (1, 33)]⟩
            ·refine go_ ?_
             refine ch_n fun hU => ?_
             exact ⟨(false, y_7.2), hg, sub_ [(0, 0), (1, 33)]⟩
           ·rintro ⟨x123_2, d_2⟩ hg
            replace hg : g_law04_made.j2 y_2 x123_2 d_2 = some r := hg
            show awp _ _ _ _ (mk _ _ _)
            unfold g_law04_made.j2 at hg
            refine cg_ rfl hg (fun h44 hg => ?_) fun h44 hg => ?_
            ·refine awp_seq ?_
             refine awp_region (sys _ _ []) 2 42 mk_U rfl rfl ?_
             refine go_ ?_
             refine c0_ rfl rfl (.len sl27.elem .part) rfl rfl ?_
             obtain ⟨y_8, hy_8, hg⟩ := bind_some hg
             refine cb_ [0] [0] [] false (w_make_Dice_Next _ _ _ hy_8) ?_
             refine go_ ?_
             refine ch_n fun hU => ?_
             refine awp_draw (sys _ _ []) (by kernel_rfl) [0, 0, 0, 0, 12, 28, 0, 0, 192, 448, 960, 1984, 4092, 8188, 16380, 16380, 32767, 98303] 42 186 hU rfl rfl (by kernel_rfl) ?_
             refine go_ ?_
             obtain ⟨e_6, he_6, hg⟩ := bind_some hg
             refine ch_s (rd := [1]) rfl rfl (r_idxP sl27 (getI_ix he_6) (getI_at he_6)) rfl rfl ?_
             refine ch_s (rd := [1]) rfl rfl (r_loadRA ty35 (enc_cells api_Certificate.enc_len (part_at (a := (1 : Int).toNat) (getI_at he_6)) (o := 0) (m := 15) (cs := [.int .i64 e_6.Serial, .str e_6.Issuer, .str e_6.Subject, .int .i64 e_6.Key.Alg, .int .i64 e_6.Key.Bits, .int .i64 e_6.KeyId, .int .i64 e_6.Hash.Alg, .int .i64 e_6.Hash.Bits, .int .i64 e_6.From, .int .i64 e_6.To, .bool e_6.Authority, .int .i64 e_6.Path, .sl 1 (encL eS e_6.Names), .int .i64 e_6.Seal.Key, .int .i64 e_6.Seal.Sum]) rfl (by decide) rfl) (enc_cells_le api_Certificate.enc_len (part_at (a := (1 : Int).toNat) (getI_at he_6)) (o := 0) (m := 15) (by decide) rfl)) rfl rfl ?_
             refine go_ ?_
             refine ch_s (rd := [1]) rfl rfl (r_idxP sl27 (getI_ix he_6) (getI_at he_6)) rfl rfl ?_
             refine go_ ?_
             refine ch_s (rd := [1]) rfl rfl (.loadR1 ty3 (enc_cell api_Certificate.enc_len (part_at (a := (1 : Int).toNat) (getI_at he_6)) (o := 13) (c := .int .i64 e_6.Seal.Key) rfl rfl)) rfl rfl ?_
             obtain ⟨y_9, hy_9, hg⟩ := bind_some hg
             refine ca_ (w_ref03_Sign _ _ _ hy_9) ?_
             refine go_ ?_
             refine ch_s (rd := [1]) rfl rfl (r_idxP sl27 (getI_ix he_6) (getI_at he_6)) rfl rfl ?_
             refine ch_s (rd := [1]) rfl rfl (r_storeR ty35 rfl (enc_cells_le api_Certificate.enc_len (part_at (a := (1 : Int).toNat) (getI_at he_6)) (o := 0) (m := 15) (by decide) rfl) ck35 (cs' := [.int .i64 y_9.1.Serial, .str y_9.1.Issuer, .str y_9.1.Subject, .int .i64 y_9.1.Key.Alg, .int .i64 y_9.1.Key.Bits, .int .i64 y_9.1.KeyId, .int .i64 y_9.1.Hash.Alg, .int .i64 y_9.1.Hash.Bits, .int .i64 y_9.1.From, .int .i64 y_9.1.To, .bool y_9.1.Authority, .int .i64 y_9.1.Path, .sl 1 (encL eS y_9.1.Names), .int .i64 y_9.1.Seal.Key, .int .i64 y_9.1.Seal.Sum]) (.cons .int (.cons .str (.cons .str (.cons .int (.cons .int (.cons .int (.cons .int (.cons .int (.cons .int (.cons .int (.cons .bool (.cons .int (.cons .sl (.cons .int (.cons .int .nil))))))))))))))) (enc_splice api_Certificate.enc_len (part_at (a := (1 : Int).toNat) (getI_at he_6)) (o := 0) (x' := y_9.1) (Nat.le_of_ble_eq_true rfl) rfl rfl)) rfl rfl ?_
             refine ch_n fun hU => ?_
             refine sr_ 186 202 hU ?_
             refine go_ ?_
             refine ch_n fun hU => ?_
             refine aw_r ?_
             obtain rfl := Option.some.inj hg
             exact ⟨[_], _, [_], [(0, 0)], .cons (.tmp rfl) .nil, ⟨rfl, rfl⟩, .frzP rfl (look_ne rfl) (part_le api_Certificate.enc_len (setI_le (slI_le hl_2))) (enc_part api_Certificate.enc_len _ _ _ (setI_le (slI_le hl_2))), ⟨.inl ⟨0, _, rfl, rfl, ⟨rfl, .cons (.sl _ _) (.cons (.val _) .nil)⟩⟩, trivial⟩, rfl, rfl, rfl, rfl⟩
            ·refine awp_skip ?_
             repeat first | refine st_ ?_ | refine sn_ ?_
             refine sr_ 2 18 mk_U ?_
             refine go_ ?_
             refine ch_n fun hU => ?_
             refine aw_r ?_
             obtain rfl := Option.some.inj hg
             exact ⟨[_], _, [_], [(0, 0)], .cons (.tmp rfl) .nil, ⟨rfl, rfl⟩, .frzP rfl (look_ne rfl) (part_le api_Certificate.enc_len (slI_le hl_2)) (enc_part api_Certificate.enc_len _ _ _ (slI_le hl_2)), ⟨.inl ⟨0, _, rfl, rfl, ⟨rfl, .cons (.sl _ _) (.cons (.val _) .nil)⟩⟩, trivial⟩, rfl, rfl, rfl, rfl⟩
          ·refine awp_seq ?_
           refine awp_region (sys _ _ []) 265 281 hU rfl rfl ?_
           refine go_ ?_
           refine ch_n fun hU => ?_
           refine cg_ rfl hg (fun h33 hg => ?_) fun h33 hg => ?_
           ·refine awp_sub (σ' := mk [(0, .ptr 0 0), (3, .part 1 (0 * 15) y_2.1.length)] [(0, .box [.sl 1 (encL eI y_4.2.L), .val (.int .i64 y_4.2.At)] 69), (1, .row 35 15 (encL api_Certificate.enc y_2.1))] 2) (Sub.lists [(0, 0), (1, 33)] rfl rfl ⟨⟨_, rfl, .ptr rfl⟩, ⟨_, rfl, .rowP rfl rfl (by decide) (encL_len api_Certificate.enc_len _)⟩, trivial⟩ ⟨.inl ⟨0, _, rfl, rfl, ⟨rfl, .cons (.sl _ _) (.cons (.val _) .nil)⟩⟩, .inl ⟨33, _, rfl, rfl, ⟨rfl, rfl, rfl⟩⟩, trivial⟩) ?_
            refine awp_draw (sys _ _ []) (by kernel_rfl) [0, 0, 0, 4, 12, 0, 0, 64, 192, 480, 992, 0, 2048, 6144, 16353, 32737, 65535, 131071] 2 146 mk_U rfl rfl (by kernel_rfl) ?_
            refine go_ ?_
            refine c0_ rfl rfl (.len sl27.elem .part) rfl rfl ?_
            refine go_ ?_
            refine c0_ rfl rfl (.len sl27.elem .part) rfl rfl ?_
            refine go_ ?_
            obtain ⟨e_3, he_3, hg⟩ := bind_some hg
            refine ch_s (rd := [1]) rfl rfl (r_idxP sl27 (getI_ix he_3) (getI_at he_3)) rfl rfl ?_
            refine ch_s (rd := [1]) rfl rfl (r_loadRA ty35 (enc_cells api_Certificate.enc_len (part_at (a := 0) (getI_at he_3)) (o := 0) (m := 15) (cs := [.int .i64 e_3.Serial, .str e_3.Issuer, .str e_3.Subject, .int .i64 e_3.Key.Alg, .int .i64 e_3.Key.Bits, .int .i64 e_3.KeyId, .int .i64 e_3.Hash.Alg, .int .i64 e_3.Hash.Bits, .int .i64 e_3.From, .int .i64 e_3.To, .bool e_3.Authority, .int .i64 e_3.Path, .sl 1 (encL eS e_3.Names), .int .i64 e_3.Seal.Key, .int .i64 e_3.Seal.Sum]) rfl (by decide) rfl) (enc_cells_le api_Certificate.enc_len (part_at (a := 0) (getI_at he_3)) (o := 0) (m := 15) (by decide) rfl)) rfl rfl ?_
            refine go_ ?_
            obtain ⟨e_4, he_4, hg⟩ := bind_some hg
            refine ch_s (rd := [1]) rfl rfl (r_idxP sl27 (getI_ix he_4) (getI_at he_4)) rfl rfl ?_
            refine ch_s (rd := [1]) rfl rfl (r_loadRA ty35 (enc_cells api_Certificate.enc_len (part_at (a := 0) (getI_at he_4)) (o := 0) (m := 15) (cs := [.int .i64 e_4.Serial, .str e_4.Issuer, .str e_4.Subject, .int .i64 e_4.Key.Alg, .int .i64 e_4.Key.Bits, .int .i64 e_4.KeyId, .int .i64 e_4.Hash.Alg, .int .i64 e_4.Hash.Bits, .int .i64 e_4.From, .int .i64 e_4.To, .bool e_4.Authority, .int .i64 e_4.Path, .sl 1 (encL eS e_4.Names), .int .i64 e_4.Seal.Key, .int .i64 e_4.Seal.Sum]) rfl (by decide) rfl) (enc_cells_le api_Certificate.enc_len (part_at (a := 0) (getI_at he_4)) (o := 0) (m := 15) (by decide) rfl)) rfl rfl ?_
            refine ch_s (rd := [1]) rfl rfl (r_idxP sl27 (getI_ix he_4) (getI_at he_4)) rfl rfl ?_
            refine ch_s (rd := [1]) rfl rfl (r_storeR ty35 rfl (enc_cells_le api_Certificate.enc_len (part_at (a := 0) (getI_at he_4)) (o := 0) (m := 15) (by decide) rfl) ck35 (cs' := [.int .i64 e_3.Serial, .str e_3.Issuer, .str e_3.Subject, .int .i64 e_3.Key.Alg, .int .i64 e_3.Key.Bits, .int .i64 e_3.KeyId, .int .i64 e_3.Hash.Alg, .int .i64 e_3.Hash.Bits, .int .i64 e_3.From, .int .i64 e_3.To, .bool e_3.Authority, .int .i64 e_3.Path, .sl 1 (encL eS e_3.Names), .int .i64 e_3.Seal.Key, .int .i64 e_3.Seal.Sum]) (.cons .int (.cons .str (.cons .str (.cons .int (.cons .int (.cons .int (.cons .int (.cons .int (.cons .int (.cons .int (.cons .bool (.cons .int (.cons .sl (.cons .int (.cons .int .nil))))))))))))))) (enc_splice api_Certificate.enc_len (part_at (a := 0) (getI_at he_4)) (o := 0) (x' := e_3) (Nat.le_of_ble_eq_true rfl) rfl rfl)) rfl rfl ?_
            obtain ⟨e_5, he_5, hg⟩ := bind_some hg
            refine ch_s (rd := [1]) rfl rfl (r_idxP sl27 (getI_ix he_5) (getI_at he_5)) rfl rfl ?_
            refine ch_s (rd := [1]) rfl rfl (r_storeR ty35 rfl (enc_cells_le api_Certificate.enc_len (part_at (a := 0) (getI_at he_5)) (o := 0) (m := 15) (by decide) rfl) ck35 (cs' := [.int .i64 e_4.Serial, .str e_4.Issuer, .str e_4.Subject, .int .i64 e_4.Key.Alg, .int .i64 e_4.Key.Bits, .int .i64 e_4.KeyId, .int .i64 e_4.Hash.Alg, .int .i64 e_4.Hash.Bits, .int .i64 e_4.From, .int .i64 e_4.To, .bool e_4.Authority, .int .i64 e_4.Path, .sl 1 (encL eS e_4.Names), .int .i64 e_4.Seal.Key, .int .i64 e_4.Seal.Sum]) (.cons .int (.cons .str (.cons .str (.cons .int (.cons .int (.cons .int (.cons .int (.cons .int (.cons .int (.cons .int (.cons .bool (.cons .int (.cons .sl (.cons .int (.cons .int .nil))))))))))))))) (enc_splice api_Certificate.enc_len (part_at (a := 0) (getI_at he_5)) (o := 0) (x' := e_4) (Nat.le_of_ble_eq_true rfl) rfl rfl)) rfl rfl ?_
            refine ch_n fun hU => ?_
            exact .inl ⟨(y_4.2, setI (setI y_2.1 (0 + ((0 : Int).toNat)) e_3) (0 + ((W (((y_2.1.length : Nat) : Int) - 1)).toNat)) e_4), hg, Sub.lists [(0, 0), (1, 1)] rfl rfl ⟨⟨_, rfl, .ptr rfl⟩, ⟨_, rfl, .partR rfl rfl (by decide) ((encL_len api_Certificate.enc_len _).trans (congrArg (· * 15) (by simp only [setI, List.length_set])))⟩, trivial⟩ ⟨.inl ⟨0, _, rfl, rfl, ⟨rfl, .cons (.sl _ _) (.cons (.val _) .nil)⟩⟩, .inl ⟨1, _, rfl, rfl, ⟨rfl, rfl, rfl⟩⟩, trivial⟩⟩
           ·refine awp_seq ?_
            refine awp_region (sys _ _ []) 281 297 hU rfl rfl ?_
            refine go_ ?_
            refine ch_n fun hU => ?_
            refine cg_ rfl hg (fun h36 hg => ?_) fun h36 hg => ?_
            ·refine awp_region (sys _ _ [313]) 297 361 hU rfl rfl ?_
             refine go_ ?_
             refine ch_z (rd := []) rfl rfl (r_buildFull sl22 z3 (by decide) rfl rfl rfl rfl ck3 (cs := [.int .i64 1, .int .i64 2, .int .i64 11]) (.cons .int (.cons .int (.cons .int .nil))) rfl (l := ([1, 2, 11] : List Int)) (f := eI) rfl) rfl rfl rfl ?_
             obtain ⟨y_6, hy_6, hg⟩ := bind_some hg
             refine cb_ [0] [0] [] false (w_make_Dice_Of _ _ _ hy_6) ?_
             refine go_ ?_
             refine ch_s (rd := [33]) rfl rfl (r_storeR ty3 rfl (enc_cells_le api_Certificate.enc_len (getI_at he) (o := 13) (m := 1) (by decide) rfl) ck3 (cs' := [.int .i64 y_6.1]) (.cons .int .nil) (enc_splice api_Certificate.enc_len (getI_at he) (o := 13) (x' := (api_Certificate.mk e.Serial e.Issuer e.Subject e.Key e.KeyId e.Hash e.From e.To e.Authority e.Path e.Names (api_Seal.mk y_6.1 e.Seal.Sum))) (Nat.le_of_ble_eq_true rfl) rfl rfl)) rfl rfl ?_
             refine ch_n fun hU => ?_
             exact .inl ⟨(y_6.2, setI y_2.1 ((y_3.1).toNat) (api_Certificate.mk e.Serial e.Issuer e.Subject e.Key e.KeyId e.Hash e.From e.To e.Authority e.Path e.Names (api_Seal.mk y_6.1 e.Seal.Sum))), hg, sub_ [(0, 0), (1, 33)]⟩
            ·refine awp_seq ?_
             refine awp_region (sys _ _ []) 297 313 hU rfl rfl ?_
             refine go_ ?_
             refine ch_n fun hU => ?_
             refine cg_ rfl hg (fun h39 hg => ?_) fun h39 hg => ?_
             ·refine awp_region (sys _ _ []) 313 385 hU rfl rfl ?_
              refine go_ ?_
              refine ch_s (rd := [33]) rfl rfl (.loadR1 ty3 (enc_cell api_Certificate.enc_len (getI_at he) (o := 9) (c := .int .i64 e.To) rfl rfl)) rfl rfl ?_
              refine go_ ?_
              refine ch_s (rd := [33]) rfl rfl (r_storeR ty3 rfl (enc_cells_le api_Certificate.enc_len (getI_at he) (o := 8) (m := 1) (by decide) rfl) ck3 (cs' := [.int .i64 (W (e.To + 1))]) (.cons .int .nil) (enc_splice api_Certificate.enc_len (getI_at he) (o := 8) (x' := (api_Certificate.mk e.Serial e.Issuer e.Subject e.Key e.KeyId e.Hash (W (e.To + 1)) e.To e.Authority e.Path e.Names e.Seal)) (Nat.le_of_ble_eq_true rfl) rfl rfl)) rfl rfl ?_
              refine ch_n fun hU => ?_
              exact .inl ⟨(y_4.2, setI y_2.1 ((y_3.1).toNat) (api_Certificate.mk e.Serial e.Issuer e.Subject e.Key e.KeyId e.Hash (W (e.To + 1)) e.To e.Authority e.Path e.Names e.Seal)), hg, sub_ [(0, 0), (1, 33)]⟩
             ·refine awp_skip ?_
              repeat first | refine st_ ?_ | refine sn_ ?_
              exact .inl ⟨(y_4.2, y_2.1), hg, sub_ [(0, 0), (1, 33)]⟩
 ·rintro ⟨d_3, l_3⟩ hg
  replace hg : g_law04_made.j3 d_3 l_3 = some r := hg
  show awp _ _ _ _ (mk _ _ _)
  unfold g_law04_made.j3 at hg
  refine awp_seq ?_
  refine awp_cut (ι := Bool × cipherplanmake_Dice) (fun ((x123_4, d_4) : Bool × cipherplanmake_Dice) => mk [(0, .ptr 0 0), (3, .row 1), (123, .val (.bool x123_4))] [(0, .box [.sl 1 (encL eI d_4.L), .val (.int .i64 d_4.At)] 69), (1, .row 35 15 (encL api_Certificate.enc l_3))] 2) (fun ((x123_4, d_4) : Bool × cipherplanmake_Dice) => g_law04_made.j4 l_3 x123_4 d_4 = some r) ?_ ?_
  ·refine awp_region (sys _ _ []) 2 58 mk_U rfl rfl ?_
   refine go_ ?_
   obtain ⟨y_10, hy_10, hg⟩ := bind_some hg
   refine cb_ [0] [0] [] false (w_make_Dice_One _ _ _ hy_10) ?_
   refine go_ ?_
   rcases bc_ hg with ⟨h49, hg⟩ | ⟨h49, hg⟩
   ·refine go_ ?_
    refine ch_n fun hU => ?_
    exact ⟨(decide (0 < (l_3.length : Int)), y_10.2), hg, sub_ [(0, 0), (1, 1)]⟩
   ·refine go_ ?_
    refine ch_n fun hU => ?_
    exact ⟨(false, y_10.2), hg, sub_ [(0, 0), (1, 1)]⟩
  ·rintro ⟨x123_4, d_4⟩ hg
   replace hg : g_law04_made.j4 l_3 x123_4 d_4 = some r := hg
   show awp _ _ _ _ (mk _ _ _)
   unfold g_law04_made.j4 at hg
   refine cg_ rfl hg (fun h52 hg => ?_) fun h52 hg => ?_
   ·refine awp_seq ?_
    refine awp_region (sys _ _ []) 2 42 mk_U rfl rfl ?_
    refine go_ ?_
    obtain ⟨y_11, hy_11, hg⟩ := bind_some hg
    refine cb_ [0] [0] [] false (w_make_Dice_Next _ _ _ hy_11) ?_
    refine go_ ?_
    refine ch_n fun hU => ?_
    refine awp_draw (sys _ _ []) (by kernel_rfl) [0, 0, 0, 0, 12, 28, 0, 0, 192, 448, 960, 1984, 4092, 8188, 16380, 16380, 32767, 98303] 42 186 hU rfl rfl (by kernel_rfl) ?_
    refine go_ ?_
    obtain ⟨e_7, he_7, hg⟩ := bind_some hg
    refine go_ ?_
    refine ch_s (rd := [1]) rfl rfl (r_loadRA ty35 (enc_cells api_Certificate.enc_len (getI_at he_7) (o := 0) (m := 15) (cs := [.int .i64 e_7.Serial, .str e_7.Issuer, .str e_7.Subject, .int .i64 e_7.Key.Alg, .int .i64 e_7.Key.Bits, .int .i64 e_7.KeyId, .int .i64 e_7.Hash.Alg, .int .i64 e_7.Hash.Bits, .int .i64 e_7.From, .int .i64 e_7.To, .bool e_7.Authority, .int .i64 e_7.Path, .sl 1 (encL eS e_7.Names), .int .i64 e_7.Seal.Key, .int .i64 e_7.Seal.Sum]) rfl (by decide) rfl) (enc_cells_le api_Certificate.enc_len (getI_at he_7) (o := 0) (m := 15) (by decide) rfl)) rfl rfl ?_
    refine go_ ?_
    refine ch_s (rd := [1]) rfl rfl (.loadR1 ty3 (enc_cell api_Certificate.enc_len (getI_at he_7) (o := 13) (c := .int .i64 e_7.Seal.Key) rfl rfl)) rfl rfl ?_
    obtain ⟨y_12, hy_12, hg⟩ := bind_some hg
    refine ca_ (w_ref03_Sign _ _ _ hy_12) ?_
    refine go_ ?_
    refine ch_s (rd := [1]) rfl rfl (r_storeR ty35 rfl (enc_cells_le api_Certificate.enc_len (getI_at he_7) (o := 0) (m := 15) (by decide) rfl) ck35 (cs' := [.int .i64 y_12.1.Serial, .str y_12.1.Issuer, .str y_12.1.Subject, .int .i64 y_12.1.Key.Alg, .int .i64 y_12.1.Key.Bits, .int .i64 y_12.1.KeyId, .int .i64 y_12.1.Hash.Alg, .int .i64 y_12.1.Hash.Bits, .int .i64 y_12.1.From, .int .i64 y_12.1.To, .bool y_12.1.Authority, .int .i64 y_12.1.Path, .sl 1 (encL eS y_12.1.Names), .int .i64 y_12.1.Seal.Key, .int .i64 y_12.1.Seal.Sum]) (.cons .int (.cons .str (.cons .str (.cons .int (.cons .int (.cons .int (.cons .int (.cons .int (.cons .int (.cons .int (.cons .bool (.cons .int (.cons .sl (.cons .int (.cons .int .nil))))))))))))))) (enc_splice api_Certificate.enc_len (getI_at he_7) (o := 0) (x' := y_12.1) (Nat.le_of_ble_eq_true rfl) rfl rfl)) rfl rfl ?_
    refine ch_n fun hU => ?_
    refine sr_ 186 202 hU ?_
    refine go_ ?_
    refine ch_n fun hU => ?_
    refine aw_r ?_
    obtain rfl := Option.some.inj hg
    exact fin_ [(0, 0)] ⟨rfl, rfl⟩
   ·refine awp_skip ?_
    repeat first | refine st_ ?_ | refine sn_ ?_
    refine sr_ 2 18 mk_U ?_
    refine go_ ?_
    refine ch_n fun hU => ?_
    refine aw_r ?_
    obtain rfl := Option.some.inj hg
    exact fin_ [(0, 0)] ⟨rfl, rfl⟩
end Go.Proofs.YtadjcdhcdmiifaaGreat
