/- The program computes the plain functions. -/
import Derived.Test.YtadjcdhcdmiifaaGreatT1
import Derived.Test.YtadjcdhcdmiifaaGreatA1
import Derived.Test.YtadjcdhcdmiifaaGreatA2
import Derived.Test.YtadjcdhcdmiifaaGreatA4
set_option linter.unusedVariables false
set_option linter.unusedSimpArgs false
set_option maxRecDepth 100000
set_option maxHeartbeats 1600000
namespace Go.Proofs.YtadjcdhcdmiifaaGreat
open Go.RowKit

theorem w_law04_hashes  (r : (List Int)) (hg : g_law04_hashes = some r) : Fn Tryz.prog 13 0 [] [] (fun d b => d = .sl 1 (encL eI r) ∧ b = []) := by
 unfold g_law04_hashes at hg
 refine Fn.of Tryz.func13 rfl rfl rfl fun w0 I ρ0 => ?_
 show awp _ ⟨w0, I, ρ0, 0, 0, 2⟩ _ _ _
 refine sr_ 0 8 mk_U ?_
 refine go_ ?_
 refine ch_n fun hU => ?_
 refine sr_ 8 24 hU ?_
 refine c0_ rfl rfl (r_buildFull sl22 z3 (by decide) rfl rfl rfl rfl ck3 (cs := [.int .i64 1, .int .i64 2, .int .i64 3, .int .i64 4]) (.cons .int (.cons .int (.cons .int (.cons .int .nil)))) rfl (l := ([1, 2, 3, 4] : List Int)) (f := eI) rfl) rfl rfl ?_
 refine go_ ?_
 refine ch_n fun hU => ?_
 refine aw_r ?_
 obtain rfl := Option.some.inj hg
 exact fin_ [] ⟨rfl, rfl⟩
theorem w_chain_search_find.F (rec : chain_search → (List api_Certificate) → (List Bool) → Int → Option ((List api_Certificate) × Bool × (List Bool))) (hrec : ∀ (s : chain_search) (l : (List api_Certificate)) (used : List Bool) (length : Int) (r : (List api_Certificate) × Bool × (List Bool)), rec s l used length = some r → Fn Tryz.prog 29 1 [.agg (chain_search.dv s), .sl 15 (encL api_Certificate.enc l), .row 0, .val (.int .i64 length)] [.row 4 1 (encL eB used)] (fun d b => d = .tup [.sl 15 (encL api_Certificate.enc r.1), .val (.bool r.2.1)] ∧ b = [.row 4 1 (encL eB r.2.2)])) (s : chain_search) (l : (List api_Certificate)) (used : List Bool) (length : Int) (r : (List api_Certificate) × Bool × (List Bool)) (hg : g_chain_search_find.F rec s l used length = some r) : Fn Tryz.prog 29 1 [.agg (chain_search.dv s), .sl 15 (encL api_Certificate.enc l), .row 0, .val (.int .i64 length)] [.row 4 1 (encL eB used)] (fun d b => d = .tup [.sl 15 (encL api_Certificate.enc r.1), .val (.bool r.2.1)] ∧ b = [.row 4 1 (encL eB r.2.2)]) := by
 unfold g_chain_search_find.F at hg
 refine Fn.of Tryz.func29 rfl rfl rfl fun w0 I ρ0 => ?_
 show awp _ ⟨w0, I, ρ0, 1, 1, 89⟩ _ _ _
 refine sr_ 1 25 mk_U ?_
 refine go_ ?_
 refine ch_n fun hU => ?_
 refine awp_scope ?_
 refine awp_seq ?_
 refine sr_ 25 57 hU ?_
 refine go_ ?_
 refine ch_n fun hU => ?_
 refine cg_ rfl hg (fun h3 hg => ?_) fun h3 hg => ?_
 ·refine awp_seq ?_
  refine awp_region (sys _ _ []) 57 169 hU rfl rfl ?_
  refine go_ ?_
  obtain ⟨y, hy, hg⟩ := bind_some hg
  refine ca_ (w_chain_Check _ _ _ _ _ _ hy) ?_
  refine go_ ?_
  refine ch_n fun hU => ?_
  refine aw_r ?_
  obtain rfl := Option.some.inj hg
  exact fin_ [(0, 0)] ⟨rfl, rfl⟩
 ·refine awp_skip ?_
  repeat first | refine st_ ?_ | refine sn_ ?_
  refine awp_seq ?_
  refine awp_label ?_
  repeat first | refine st_ ?_ | refine sn_ ?_
  refine awp_seq ?_
  refine sr_ 57 89 hU ?_
  refine go_ ?_
  refine ch_n fun hU => ?_
  refine awp_block ?_
  refine lp_ (fun ((x36_1, used_1) : Int × List Bool) => mk [(1, .sl 15 (encL api_Certificate.enc l)), (2, .row 0), (3, .val (.int .i64 length)), (4, .ptr 1 0), (34, .sl 15 (encL api_Certificate.enc s.pool)), (35, .val (.int .i64 (s.pool.length : Int))), (36, .val (.int .i64 x36_1))] [(0, .row 4 1 (encL eB used_1)), (1, .box (chain_search.dv s) 75)] 2) hg (sub_ [(0, 0), (1, 1)]) ?_
  rintro ⟨x36_1, used_1⟩ m1 o1 hg hn1
  replace hg : g_chain_search_find.l1 rec s l length x36_1 used_1 = some o1 := hg
  show awp _ _ _ _ (mk _ _ _)
  unfold g_chain_search_find.l1 at hg
  refine sr_ 2 10 mk_U ?_
  refine go_ ?_
  refine ch_n fun hU => ?_
  refine awp_seq ?_
  refine cg_ rfl hg (fun h7 hg => ?_) fun h7 hg => ?_
  ·refine awp_skip ?_
   repeat first | refine st_ ?_ | refine sn_ ?_
   refine awp_cut (ι := List Bool) (fun (used_4 : List Bool) => mk [(1, .sl 15 (encL api_Certificate.enc l)), (2, .row 0), (3, .val (.int .i64 length)), (4, .ptr 1 0), (34, .sl 15 (encL api_Certificate.enc s.pool)), (35, .val (.int .i64 (s.pool.length : Int))), (36, .val (.int .i64 x36_1))] [(0, .row 4 1 (encL eB used_4)), (1, .box (chain_search.dv s) 75)] 2) (fun (used_4 : List Bool) => g_chain_search_find.j4 x36_1 used_4 = some o1) ?_ ?_
   ·refine awp_block ?_
    refine sr_ 10 58 hU ?_
    refine go_ ?_
    obtain ⟨e, he, hg⟩ := bind_some hg
    refine go_ ?_
    refine c0_ rfl rfl (r_loadEA ty35 (enc_cells api_Certificate.enc_len (getI_at he) (o := 0) (m := 15) (cs := [.int .i64 e.Serial, .str e.Issuer, .str e.Subject, .int .i64 e.Key.Alg, .int .i64 e.Key.Bits, .int .i64 e.KeyId, .int .i64 e.Hash.Alg, .int .i64 e.Hash.Bits, .int .i64 e.From, .int .i64 e.To, .bool e.Authority, .int .i64 e.Path, .sl 1 (encL eS e.Names), .int .i64 e.Seal.Key, .int .i64 e.Seal.Sum]) rfl (by decide) rfl) (enc_cells_le api_Certificate.enc_len (getI_at he) (o := 0) (m := 15) (by decide) rfl)) rfl rfl ?_
    refine go_ ?_
    refine ch_n fun hU => ?_
    refine awp_seq ?_
    refine sr_ 58 90 hU ?_
    refine go_ ?_
    obtain ⟨e_2, he_2, hg⟩ := bind_some hg
    refine go_ ?_
    refine ch_s (rd := [0]) rfl rfl (.loadR1 ty4 (enc_cell eB_len (getI_at he_2) (o := 0) (c := .bool e_2) rfl rfl)) rfl rfl ?_
    refine ch_n fun hU => ?_
    refine cg_ rfl hg (fun h10 hg => ?_) fun h10 hg => ?_
    ·refine awp_exit ?_
     repeat first | refine st_ ?_ | refine sn_ ?_
     exact ⟨used_1, hg, sub_ [(0, 0), (1, 1)]⟩
    ·refine awp_skip ?_
     repeat first | refine st_ ?_ | refine sn_ ?_
     refine awp_seq ?_
     refine awp_draw (sys _ _ []) (by kernel_rfl) [0, 0, 2, 0, 8, 31, 0, 64, 255, 511] 90 170 hU rfl rfl (by kernel_rfl) ?_
     refine go_ ?_
     refine c0_ rfl rfl (r_sliC sl27 api_Certificate.enc_len) rfl rfl ?_
     refine go_ ?_
     refine c0_ rfl rfl (r_buildFull sl27 z35 (by decide) rfl rfl rfl rfl ck35 (cs := [.int .i64 e.Serial, .str e.Issuer, .str e.Subject, .int .i64 e.Key.Alg, .int .i64 e.Key.Bits, .int .i64 e.KeyId, .int .i64 e.Hash.Alg, .int .i64 e.Hash.Bits, .int .i64 e.From, .int .i64 e.To, .bool e.Authority, .int .i64 e.Path, .sl 1 (encL eS e.Names), .int .i64 e.Seal.Key, .int .i64 e.Seal.Sum]) (.cons .int (.cons .str (.cons .str (.cons .int (.cons .int (.cons .int (.cons .int (.cons .int (.cons .int (.cons .int (.cons .bool (.cons .int (.cons .sl (.cons .int (.cons .int .nil))))))))))))))) rfl (l := ([e] : List api_Certificate)) (f := api_Certificate.enc) rfl) rfl rfl ?_
     obtain ⟨l_2, hl_2, hg⟩ := bind_some hg
     refine ch_s (rd := [146]) rfl rfl (r_appC sl27 api_Certificate.enc_len .row rfl (Nat.succ_pos _) hl_2 rfl) rfl rfl ?_
     refine go_ ?_
     refine ch_n fun hU => ?_
     refine awp_seq ?_
     refine sr_ 170 186 hU ?_
     refine c0_ rfl rfl (.buildArr (sz := 1) (r := [.val (.int .i64 11), .val (.int .i64 15)]) und112 (by kernel_rfl) z112 (by kernel_rfl) rfl) rfl rfl ?_
     refine go_ ?_
     refine ch_n fun hU => ?_
     refine awp_block ?_
     refine lp_ (fun (x55_2 : Int) => mk [(1, .sl 15 (encL api_Certificate.enc l)), (2, .row 0), (3, .val (.int .i64 length)), (4, .ptr 1 0), (10, .val (.int .i64 x36_1)), (11, .ptr 2 0), (12, .row 3), (34, .sl 15 (encL api_Certificate.enc s.pool)), (35, .val (.int .i64 (s.pool.length : Int))), (36, .val (.int .i64 x36_1)), (54, .agg [.val (.int .i64 11), .val (.int .i64 15)]), (55, .val (.int .i64 x55_2))] [(0, .row 4 1 (encL eB used_1)), (1, .box (chain_search.dv s) 75), (2, .box (api_Certificate.dv e) 35), (3, .row 35 15 (encL api_Certificate.enc l_2))] 4) hg (sub_ [(0, 0), (1, 1), (2, 34), (3, 154)]) ?_
     rintro x55_2 m2 o2 hg hn2
     replace hg : g_chain_search_find.l2 rec s l length x36_1 used_1 e l_2 x55_2 = some o2 := hg
     show awp _ _ _ _ (mk _ _ _)
     unfold g_chain_search_find.l2 at hg
     refine sr_ 4 12 mk_U ?_
     refine go_ ?_
     refine ch_n fun hU => ?_
     refine awp_seq ?_
     refine cg_ rfl hg (fun h14 hg => ?_) fun h14 hg => ?_
     ·refine awp_skip ?_
      repeat first | refine st_ ?_ | refine sn_ ?_
      refine awp_seq ?_
      refine awp_block ?_
      refine sr_ 12 28 hU ?_
      obtain ⟨e_3, he_3, hg⟩ := bind_some hg
      refine c0_ rfl rfl (.indexA und112 ty40 (getI_ix he_3) rfl (arr_int (getI_at he_3))) rfl rfl ?_
      refine go_ ?_
      refine ch_n fun hU => ?_
      refine sr_ 28 52 hU ?_
      refine go_ ?_
      obtain ⟨y_2, hy_2, hg⟩ := bind_some hg
      refine cb_ [3] [] [] true (w_chain_fails _ _ _ hy_2) ?_
      refine ch_n fun hU => ?_
      refine cg_ rfl hg (fun h17 hg => ?_) fun h17 hg => ?_
      ·refine awp_exit ?_
       repeat first | refine st_ ?_ | refine sn_ ?_
       replace hg := leave hg hn2
       exact ⟨used_1, hg, sub_ [(0, 0), (1, 1)]⟩
      ·refine awp_skip ?_
       repeat first | refine st_ ?_ | refine sn_ ?_
       refine awp_region (sys _ _ []) 52 68 hU rfl rfl ?_
       refine go_ ?_
       refine ch_n fun hU => ?_
       obtain rfl := Option.some.inj hg
       exact ⟨(W (x55_2 + 1), m2), Nat.lt_succ_self _, hn2, sub_ [(0, 0), (1, 1), (2, 2), (3, 3)]⟩
     ·refine awp_exit ?_
      repeat first | refine st_ ?_ | refine sn_ ?_
      replace hg := leave hg hn2
      refine awp_seq ?_
      refine awp_seq ?_
      refine awp_draw (sys _ _ []) (by kernel_rfl) [0, 0, 2, 6, 15, 31, 0, 64, 255, 511] 12 92 hU rfl rfl (by kernel_rfl) ?_
      refine go_ ?_
      obtain ⟨e_4, he_4, hg⟩ := bind_some hg
      refine go_ ?_
      refine c0_ rfl rfl (r_loadEA ty35 (enc_cells api_Certificate.enc_len (getI_at he_4) (o := 0) (m := 15) (cs := [.int .i64 e_4.Serial, .str e_4.Issuer, .str e_4.Subject, .int .i64 e_4.Key.Alg, .int .i64 e_4.Key.Bits, .int .i64 e_4.KeyId, .int .i64 e_4.Hash.Alg, .int .i64 e_4.Hash.Bits, .int .i64 e_4.From, .int .i64 e_4.To, .bool e_4.Authority, .int .i64 e_4.Path, .sl 1 (encL eS e_4.Names), .int .i64 e_4.Seal.Key, .int .i64 e_4.Seal.Sum]) rfl (by decide) rfl) (enc_cells_le api_Certificate.enc_len (getI_at he_4) (o := 0) (m := 15) (by decide) rfl)) rfl rfl ?_
      refine go_ ?_
      obtain ⟨y_3, hy_3, hg⟩ := bind_some hg
      refine ca_ (w_certificate_Sealed _ _ _ hy_3) ?_
      refine go_ ?_
      refine ch_n fun hU => ?_
      refine cg_ rfl hg (fun h20 hg => ?_) fun h20 hg => ?_
      ·refine awp_exit ?_
       repeat first | refine st_ ?_ | refine sn_ ?_
       exact ⟨used_1, hg, sub_ [(0, 0), (1, 1)]⟩
      ·refine awp_skip ?_
       repeat first | refine st_ ?_ | refine sn_ ?_
       refine sr_ 92 124 hU ?_
       refine go_ ?_
       refine ch_s (rd := [0]) rfl rfl (r_storeR ty4 rfl (enc_cells_le eB_len (getI_at he_2) (o := 0) (m := 1) (by decide) rfl) ck4 (cs' := [.bool true]) (.cons .bool .nil) (enc_splice eB_len (getI_at he_2) (o := 0) (x' := true) (Nat.le_of_ble_eq_true rfl) rfl rfl)) rfl rfl ?_
       refine ch_n fun hU => ?_
       refine awp_seq ?_
       refine awp_sub (σ' := mk [(1, .sl 15 (encL api_Certificate.enc l)), (2, .row 0), (3, .val (.int .i64 length)), (4, .ptr 1 0), (10, .val (.int .i64 x36_1)), (12, .sl 15 (encL api_Certificate.enc l_2)), (34, .sl 15 (encL api_Certificate.enc s.pool)), (35, .val (.int .i64 (s.pool.length : Int))), (36, .val (.int .i64 x36_1))] [(0, .row 4 1 (encL eB (setI used_1 ((x36_1).toNat) true))), (1, .box (chain_search.dv s) 75)] 2) (sub_ [(0, 0), (1, 1)]) ?_
       refine awp_region (sys _ _ []) 2 82 mk_U rfl rfl ?_
       refine go_ ?_
       obtain ⟨y_4, hy_4, hg⟩ := bind_some hg
       refine cb_ [0] [0] [] false (hrec _ _ _ _ _ hy_4) ?_
       refine go_ ?_
       refine ch_n fun hU => ?_
       refine sr_ 82 114 hU ?_
       refine go_ ?_
       obtain ⟨e_5, he_5, hg⟩ := bind_some hg
       refine go_ ?_
       refine ch_s (rd := [0]) rfl rfl (r_storeR ty4 rfl (enc_cells_le eB_len (getI_at he_5) (o := 0) (m := 1) (by decide) rfl) ck4 (cs' := [.bool false]) (.cons .bool .nil) (enc_splice eB_len (getI_at he_5) (o := 0) (x' := false) (Nat.le_of_ble_eq_true rfl) rfl rfl)) rfl rfl ?_
       refine ch_n fun hU => ?_
       refine sr_ 114 122 hU ?_
       refine go_ ?_
       refine ch_n fun hU => ?_
       refine cg_ rfl hg (fun h25 hg => ?_) fun h25 hg => ?_
       ·refine awp_seq ?_
        refine awp_region (sys _ _ []) 122 146 hU rfl rfl ?_
        refine go_ ?_
        refine ch_n fun hU => ?_
        refine aw_r ?_
        replace hg := leave hg hn1
        obtain rfl := Option.some.inj hg
        exact fin_ [(0, 0)] ⟨rfl, rfl⟩
       ·refine awp_skip ?_
        repeat first | refine st_ ?_ | refine sn_ ?_
        exact ⟨setI y_4.2.2 ((x36_1).toNat) false, hg, sub_ [(0, 0), (1, 1)]⟩
   ·rintro used_4 hg
    replace hg : g_chain_search_find.j4 x36_1 used_4 = some o1 := hg
    show awp _ _ _ _ (mk _ _ _)
    unfold g_chain_search_find.j4 at hg
    refine awp_region (sys _ _ []) 2 18 mk_U rfl rfl ?_
    refine go_ ?_
    refine ch_n fun hU => ?_
    obtain rfl := Option.some.inj hg
    exact ⟨((W (x36_1 + 1), used_4), m1), Nat.lt_succ_self _, hn1, sub_ [(0, 0), (1, 1)]⟩
  ·refine awp_exit ?_
   repeat first | refine st_ ?_ | refine sn_ ?_
   replace hg := leave hg hn1
   refine sr_ 10 26 hU ?_
   refine go_ ?_
   refine ch_n fun hU => ?_
   refine aw_r ?_
   obtain rfl := Option.some.inj hg
   exact fin_ [(0, 0)] ⟨rfl, rfl⟩
theorem w_chain_search_find (s : chain_search) (l : (List api_Certificate)) (used : List Bool) (length : Int) (r : (List api_Certificate) × Bool × (List Bool)) (hg : g_chain_search_find s l used length = some r) : Fn Tryz.prog 29 1 [.agg (chain_search.dv s), .sl 15 (encL api_Certificate.enc l), .row 0, .val (.int .i64 length)] [.row 4 1 (encL eB used)] (fun d b => d = .tup [.sl 15 (encL api_Certificate.enc r.1), .val (.bool r.2.1)] ∧ b = [.row 4 1 (encL eB r.2.2)]) :=
 fixT_ind (motive := fun (x : chain_search × (List api_Certificate) × List Bool × Int) (r : (List api_Certificate) × Bool × (List Bool)) => Fn Tryz.prog 29 1 [.agg (chain_search.dv x.1), .sl 15 (encL api_Certificate.enc x.2.1), .row 0, .val (.int .i64 x.2.2.2)] [.row 4 1 (encL eB x.2.2.1)] (fun d b => d = .tup [.sl 15 (encL api_Certificate.enc r.1), .val (.bool r.2.1)] ∧ b = [.row 4 1 (encL eB r.2.2)])) (fun rec hrec x r h => w_chain_search_find.F _ (fun s l used length r h => hrec (s, l, used, length) r h) x.1 x.2.1 x.2.2.1 x.2.2.2 r h) (s, l, used, length) r hg
theorem w_slices_Clone_string (s : (List ByteArray)) (r : (List ByteArray)) (hg : g_slices_Clone_string s = some r) : Fn Tryz.prog 62 0 [.sl 1 (encL eS s)] [] (fun d b => d = .sl 1 (encL eS r) ∧ b = []) := by
 unfold g_slices_Clone_string at hg
 refine Fn.of Tryz.func62 rfl rfl rfl fun w0 I ρ0 => ?_
 show awp _ ⟨w0, I, ρ0, 0, 0, 8⟩ _ _ _
 refine sr_ 0 8 mk_U ?_
 refine go_ ?_
 refine ch_n fun hU => ?_
 refine awp_seq ?_
 refine awp_cut (ι := Bool) (fun (x4_1 : Bool) => mk [(0, .sl 1 (encL eS s)), (4, .val (.bool x4_1))] [] 0) (fun (x4_1 : Bool) => g_slices_Clone_string.j1 s x4_1 = some r) ?_ ?_
 ·refine awp_region (sys _ _ []) 8 24 hU rfl rfl ?_
  refine go_ ?_
  refine ch_nilE rfl rfl ⟨_, und31⟩ rfl ?_
  intro bz hz2
  rcases bz with _ | _
  ·replace hg := nilC_f hg
   refine ch_n fun hU => ?_
   exact ⟨false, hg, sub_ []⟩
  ·replace hg := nilC_t ((nil_of_enc eS_len (by decide) (hz2 rfl))) hg
   refine ch_n fun hU => ?_
   exact ⟨true, hg, sub_ []⟩
 ·rintro x4_1 hg
  replace hg : g_slices_Clone_string.j1 s x4_1 = some r := hg
  show awp _ _ _ _ (mk _ _ _)
  unfold g_slices_Clone_string.j1 at hg
  refine cg_ rfl hg (fun h5 hg => ?_) fun h5 hg => ?_
  ·refine awp_seq ?_
   refine awp_region (sys _ _ []) 0 8 mk_U rfl rfl ?_
   refine go_ ?_
   refine ch_n fun hU => ?_
   refine aw_r ?_
   obtain rfl := Option.some.inj hg
   exact fin_ [] ⟨rfl, rfl⟩
  ·refine awp_skip ?_
   repeat first | refine st_ ?_ | refine sn_ ?_
   refine sr_ 0 32 mk_U ?_
   refine c0_ rfl rfl (r_buildFull sl31 z9 (by decide) rfl rfl rfl rfl ck9 (cs := []) .nil rfl (l := ([] : List ByteArray)) (f := eS) rfl) rfl rfl ?_
   refine go_ ?_
   obtain ⟨l, hl, hg⟩ := bind_some hg
   refine ch_s (rd := [0]) rfl rfl (r_append sl31 eS_len .row rfl .sl rfl hl rfl) rfl rfl ?_
   refine go_ ?_
   refine ch_n fun hU => ?_
   refine aw_r ?_
   obtain rfl := Option.some.inj hg
   exact fin_ [] ⟨rfl, rfl⟩
theorem w_certificate_Copy (l : (List api_Certificate)) (r : (List api_Certificate)) (hg : g_certificate_Copy l = some r) : Fn Tryz.prog 30 0 [.sl 15 (encL api_Certificate.enc l)] [] (fun d b => d = .sl 15 (encL api_Certificate.enc r) ∧ b = []) := by
 unfold g_certificate_Copy at hg
 refine Fn.of Tryz.func30 rfl rfl rfl fun w0 I ρ0 => ?_
 show awp _ ⟨w0, I, ρ0, 0, 0, 22⟩ _ _ _
 refine sr_ 0 8 mk_U ?_
 refine go_ ?_
 refine ch_n fun hU => ?_
 refine sr_ 8 16 hU ?_
 refine go_ ?_
 refine ch_n fun hU => ?_
 refine awp_seq ?_
 refine sr_ 16 40 hU ?_
 refine go_ ?_
 refine ch_n fun hU => ?_
 refine awp_block ?_
 refine lp_ (fun ((x8_1, out_1) : Int × List api_Certificate) => mk [(3, .row 0), (6, .sl 15 (encL api_Certificate.enc l)), (7, .val (.int .i64 (l.length : Int))), (8, .val (.int .i64 x8_1))] [(0, .row 35 15 (encL api_Certificate.enc out_1))] 1) hg (sub_ []) ?_
 rintro ⟨x8_1, out_1⟩ m1 o1 hg hn1
 replace hg : g_certificate_Copy.l1 l x8_1 out_1 = some o1 := hg
 show awp _ _ _ _ (mk _ _ _)
 unfold g_certificate_Copy.l1 at hg
 refine sr_ 1 9 mk_U ?_
 refine go_ ?_
 refine ch_n fun hU => ?_
 refine awp_seq ?_
 refine cg_ rfl hg (fun h5 hg => ?_) fun h5 hg => ?_
 ·refine awp_skip ?_
  repeat first | refine st_ ?_ | refine sn_ ?_
  refine awp_seq ?_
  refine awp_block ?_
  refine sr_ 9 41 hU ?_
  obtain ⟨e, he, hg⟩ := bind_some hg
  refine go_ ?_
  refine c0_ rfl rfl (r_loadEA ty35 (enc_cells api_Certificate.enc_len (getI_at he) (o := 0) (m := 15) (cs := [.int .i64 e.Serial, .str e.Issuer, .str e.Subject, .int .i64 e.Key.Alg, .int .i64 e.Key.Bits, .int .i64 e.KeyId, .int .i64 e.Hash.Alg, .int .i64 e.Hash.Bits, .int .i64 e.From, .int .i64 e.To, .bool e.Authority, .int .i64 e.Path, .sl 1 (encL eS e.Names), .int .i64 e.Seal.Key, .int .i64 e.Seal.Sum]) rfl (by decide) rfl) (enc_cells_le api_Certificate.enc_len (getI_at he) (o := 0) (m := 15) (by decide) rfl)) rfl rfl ?_
  refine go_ ?_
  refine ch_n fun hU => ?_
  refine sr_ 41 81 hU ?_
  refine go_ ?_
  obtain ⟨y, hy, hg⟩ := bind_some hg
  refine ca_ (w_slices_Clone_string _ _ hy) ?_
  refine go_ ?_
  refine ch_n fun hU => ?_
  refine awp_region (sys _ _ []) 81 121 hU rfl rfl ?_
  refine go_ ?_
  refine c0_ rfl rfl (r_buildFull sl27 z35 (by decide) rfl rfl rfl rfl ck35 (cs := [.int .i64 e.Serial, .str e.Issuer, .str e.Subject, .int .i64 e.Key.Alg, .int .i64 e.Key.Bits, .int .i64 e.KeyId, .int .i64 e.Hash.Alg, .int .i64 e.Hash.Bits, .int .i64 e.From, .int .i64 e.To, .bool e.Authority, .int .i64 e.Path, .sl 1 (encL eS y), .int .i64 e.Seal.Key, .int .i64 e.Seal.Sum]) (.cons .int (.cons .str (.cons .str (.cons .int (.cons .int (.cons .int (.cons .int (.cons .int (.cons .int (.cons .int (.cons .bool (.cons .int (.cons .sl (.cons .int (.cons .int .nil))))))))))))))) rfl (l := ([(api_Certificate.mk e.Serial e.Issuer e.Subject e.Key e.KeyId e.Hash e.From e.To e.Authority e.Path y e.Seal)] : List api_Certificate)) (f := api_Certificate.enc) rfl) rfl rfl ?_
  obtain ⟨l_2, hl_2, hg⟩ := bind_some hg
  refine ch_s (rd := [0, 97]) rfl rfl (r_append sl27 api_Certificate.enc_len .row rfl .row rfl hl_2 rfl) rfl rfl ?_
  refine go_ ?_
  refine ch_n fun hU => ?_
  refine awp_region (sys _ _ []) 121 137 hU rfl rfl ?_
  refine go_ ?_
  refine ch_n fun hU => ?_
  obtain rfl := Option.some.inj hg
  exact ⟨((W (x8_1 + 1), l_2), m1), Nat.lt_succ_self _, hn1, sub_ [(0, 105)]⟩
 ·refine awp_exit ?_
  repeat first | refine st_ ?_ | refine sn_ ?_
  replace hg := leave hg hn1
  refine sr_ 9 25 hU ?_
  refine go_ ?_
  refine ch_n fun hU => ?_
  refine aw_r ?_
  obtain rfl := Option.some.inj hg
  exact fin_ [] ⟨rfl, rfl⟩
theorem w_chain_Build (leaf : api_Certificate) (pool : (List api_Certificate)) (anchors : (List Int)) (hashes : (List Int)) (day : Int) (name : ByteArray) (r : (List api_Certificate) × Int) (hg : g_chain_Build leaf pool anchors hashes day name = some r) : Fn Tryz.prog 12 0 [.agg (api_Certificate.dv leaf), .sl 15 (encL api_Certificate.enc pool), .sl 1 (encL eI anchors), .sl 1 (encL eI hashes), .val (.int .i64 day), .val (.string name)] [] (fun d b => d = .tup [.sl 15 (encL api_Certificate.enc r.1), .val (.int .i64 r.2)] ∧ b = []) := by
 unfold g_chain_Build at hg
 refine Fn.of Tryz.func12 rfl rfl rfl fun w0 I ρ0 => ?_
 show awp _ ⟨w0, I, ρ0, 0, 0, 49⟩ _ _ _
 refine sr_ 0 24 mk_U ?_
 refine go_ ?_
 refine ch_n fun hU => ?_
 refine awp_seq ?_
 refine sr_ 24 48 hU ?_
 refine go_ ?_
 refine ch_n fun hU => ?_
 refine cg_ rfl hg (fun h3 hg => ?_) fun h3 hg => ?_
 ·refine awp_seq ?_
  refine awp_region (sys _ _ []) 48 64 hU rfl rfl ?_
  refine go_ ?_
  refine ch_n fun hU => ?_
  refine aw_r ?_
  obtain rfl := Option.some.inj hg
  exact fin_ [] ⟨rfl, rfl⟩
 ·refine awp_skip ?_
  repeat first | refine st_ ?_ | refine sn_ ?_
  refine sr_ 48 112 hU ?_
  refine go_ ?_
  refine c0_ rfl rfl (.build (r := [.sl 15 (encL api_Certificate.enc pool), .sl 1 (encL eI anchors), .sl 1 (encL eI hashes), .val (.int .i64 day), .val (.string name)]) und75 pl75 z75 (by kernel_rfl) rfl) rfl rfl ?_
  refine go_ ?_
  refine ch_n fun hU => ?_
  refine awp_seq ?_
  refine sr_ 112 120 hU ?_
  refine go_ ?_
  refine ch_n fun hU => ?_
  refine awp_block ?_
  refine lp_ (fun (length_1 : Int) => mk [(1, .sl 15 (encL api_Certificate.enc pool)), (6, .ptr 0 0), (14, .ptr 1 0), (15, .val (.int .i64 length_1))] [(0, .box (api_Certificate.dv leaf) 35), (1, .box [.sl 15 (encL api_Certificate.enc pool), .sl 1 (encL eI anchors), .sl 1 (encL eI hashes), .val (.int .i64 day), .val (.string name)] 75)] 2) hg (sub_ [(0, 0), (1, 96)]) ?_
  rintro length_1 m1 o1 hg hn1
  replace hg : g_chain_Build.l1 leaf pool anchors hashes day name length_1 = some o1 := hg
  show awp _ _ _ _ (mk _ _ _)
  unfold g_chain_Build.l1 at hg
  refine awp_seq ?_
  refine sr_ 2 50 mk_U ?_
  refine go_ ?_
  refine c0_ rfl rfl r_min rfl rfl ?_
  refine go_ ?_
  refine ch_n fun hU => ?_
  refine cg_ rfl hg (fun h8 hg => ?_) fun h8 hg => ?_
  ·refine awp_skip ?_
   repeat first | refine st_ ?_ | refine sn_ ?_
   refine awp_seq ?_
   refine awp_block ?_
   refine awp_seq ?_
   refine awp_draw (sys _ _ [66]) (by kernel_rfl) [0, 0, 2, 0, 8, 24, 0, 127, 255, 511, 511, 1023, 4095] 50 154 hU rfl rfl (by kernel_rfl) ?_
   refine go_ ?_
   refine ch_z (rd := []) rfl rfl (r_buildFull sl27 z35 (by decide) rfl rfl rfl rfl ck35 (cs := [.int .i64 leaf.Serial, .str leaf.Issuer, .str leaf.Subject, .int .i64 leaf.Key.Alg, .int .i64 leaf.Key.Bits, .int .i64 leaf.KeyId, .int .i64 leaf.Hash.Alg, .int .i64 leaf.Hash.Bits, .int .i64 leaf.From, .int .i64 leaf.To, .bool leaf.Authority, .int .i64 leaf.Path, .sl 1 (encL eS leaf.Names), .int .i64 leaf.Seal.Key, .int .i64 leaf.Seal.Sum]) (.cons .int (.cons .str (.cons .str (.cons .int (.cons .int (.cons .int (.cons .int (.cons .int (.cons .int (.cons .int (.cons .bool (.cons .int (.cons .sl (.cons .int (.cons .int .nil))))))))))))))) rfl (l := ([leaf] : List api_Certificate)) (f := api_Certificate.enc) rfl) rfl rfl rfl ?_
   refine go_ ?_
   obtain ⟨m, hm, hg⟩ := bind_some hg
   refine c0_ rfl rfl (r_makeSl (f := eB) sl78 z4 ck4 (.cons .bool .nil) rfl hm rfl) rfl rfl ?_
   refine go_ ?_
   obtain ⟨y, hy, hg⟩ := bind_some hg
   refine cb_ [90] [90] [] false (w_chain_search_find _ _ _ _ _ hy) ?_
   refine go_ ?_
   refine ch_n fun hU => ?_
   refine sr_ 154 162 hU ?_
   refine go_ ?_
   refine ch_n fun hU => ?_
   refine cg_ rfl hg (fun h11 hg => ?_) fun h11 hg => ?_
   ·refine awp_seq ?_
    refine awp_region (sys _ _ []) 162 194 hU rfl rfl ?_
    refine go_ ?_
    obtain ⟨y_2, hy_2, hg⟩ := bind_some hg
    refine ca_ (w_certificate_Copy _ _ hy_2) ?_
    refine go_ ?_
    refine ch_n fun hU => ?_
    refine aw_r ?_
    replace hg := leave hg hn1
    obtain rfl := Option.some.inj hg
    exact fin_ [] ⟨rfl, rfl⟩
   ·refine awp_skip ?_
    repeat first | refine st_ ?_ | refine sn_ ?_
    refine awp_region (sys _ _ []) 162 186 hU rfl rfl ?_
    refine go_ ?_
    refine ch_n fun hU => ?_
    obtain rfl := Option.some.inj hg
    exact ⟨(W (length_1 + 1), m1), Nat.lt_succ_self _, hn1, sub_ [(0, 0), (1, 1)]⟩
  ·refine awp_exit ?_
   repeat first | refine st_ ?_ | refine sn_ ?_
   replace hg := leave hg hn1
   refine sr_ 50 66 hU ?_
   refine go_ ?_
   refine ch_n fun hU => ?_
   refine aw_r ?_
   obtain rfl := Option.some.inj hg
   exact fin_ [] ⟨rfl, rfl⟩
theorem w_ref04_text (l : (List ByteArray)) (s : ByteArray) (r : Bool) (hg : g_ref04_text l s = some r) : Fn Tryz.prog 125 0 [.sl 1 (encL eS l), .val (.string s)] [] (fun d b => d = .val (.bool r) ∧ b = []) := by
 unfold g_ref04_text at hg
 refine Fn.of Tryz.func125 rfl rfl rfl fun w0 I ρ0 => ?_
 show awp _ ⟨w0, I, ρ0, 0, 0, 18⟩ _ _ _
 refine sr_ 0 8 mk_U ?_
 refine go_ ?_
 refine ch_n fun hU => ?_
 refine awp_seq ?_
 refine sr_ 8 16 hU ?_
 refine go_ ?_
 refine ch_n fun hU => ?_
 refine awp_block ?_
 refine lp_ (fun (i_1 : Int) => mk [(0, .sl 1 (encL eS l)), (1, .val (.string s)), (5, .val (.int .i64 i_1))] [] 0) hg (sub_ []) ?_
 rintro i_1 m1 o1 hg hn1
 replace hg : g_ref04_text.l1 l s i_1 = some o1 := hg
 show awp _ _ _ _ (mk _ _ _)
 unfold g_ref04_text.l1 at hg
 refine awp_seq ?_
 refine sr_ 0 32 mk_U ?_
 refine go_ ?_
 refine ch_n fun hU => ?_
 refine cg_ rfl hg (fun h4 hg => ?_) fun h4 hg => ?_
 ·refine awp_skip ?_
  repeat first | refine st_ ?_ | refine sn_ ?_
  refine awp_seq ?_
  refine awp_block ?_
  refine sr_ 32 80 hU ?_
  refine go_ ?_
  obtain ⟨e, he, hg⟩ := bind_some hg
  refine go_ ?_
  refine c0_ rfl rfl (r_loadE1 ty9 (enc_cell eS_len (getI_at he) (o := 0) (c := .str e) rfl rfl)) rfl rfl ?_
  refine go_ ?_
  refine ch_n fun hU => ?_
  refine cg_ rfl hg (fun h6 hg => ?_) fun h6 hg => ?_
  ·refine awp_seq ?_
   refine awp_region (sys _ _ []) 80 88 hU rfl rfl ?_
   refine go_ ?_
   refine ch_n fun hU => ?_
   refine aw_r ?_
   replace hg := leave hg hn1
   obtain rfl := Option.some.inj hg
   exact fin_ [] ⟨rfl, rfl⟩
  ·refine awp_skip ?_
   repeat first | refine st_ ?_ | refine sn_ ?_
   refine awp_region (sys _ _ []) 80 104 hU rfl rfl ?_
   refine go_ ?_
   refine ch_n fun hU => ?_
   obtain rfl := Option.some.inj hg
   exact ⟨(W (i_1 + 1), m1), Nat.lt_succ_self _, hn1, sub_ []⟩
 ·refine awp_exit ?_
  repeat first | refine st_ ?_ | refine sn_ ?_
  replace hg := leave hg hn1
  refine sr_ 32 40 hU ?_
  refine go_ ?_
  refine ch_n fun hU => ?_
  refine aw_r ?_
  obtain rfl := Option.some.inj hg
  exact fin_ [] ⟨rfl, rfl⟩
theorem w_ref02_Has (l : (List Int)) (n : Int) (r : Bool) (hg : g_ref02_Has l n = some r) : Fn Tryz.prog 64 0 [.sl 1 (encL eI l), .val (.int .i64 n)] [] (fun d b => d = .val (.bool r) ∧ b = []) := by
 unfold g_ref02_Has at hg
 refine Fn.of Tryz.func64 rfl rfl rfl fun w0 I ρ0 => ?_
 show awp _ ⟨w0, I, ρ0, 0, 0, 18⟩ _ _ _
 refine sr_ 0 8 mk_U ?_
 refine go_ ?_
 refine ch_n fun hU => ?_
 refine awp_seq ?_
 refine sr_ 8 16 hU ?_
 refine go_ ?_
 refine ch_n fun hU => ?_
 refine awp_block ?_
 refine lp_ (fun (i_1 : Int) => mk [(0, .sl 1 (encL eI l)), (1, .val (.int .i64 n)), (5, .val (.int .i64 i_1))] [] 0) hg (sub_ []) ?_
 rintro i_1 m1 o1 hg hn1
 replace hg : g_ref02_Has.l1 l n i_1 = some o1 := hg
 show awp _ _ _ _ (mk _ _ _)
 unfold g_ref02_Has.l1 at hg
 refine awp_seq ?_
 refine sr_ 0 32 mk_U ?_
 refine go_ ?_
 refine ch_n fun hU => ?_
 refine cg_ rfl hg (fun h4 hg => ?_) fun h4 hg => ?_
 ·refine awp_skip ?_
  repeat first | refine st_ ?_ | refine sn_ ?_
  refine awp_seq ?_
  refine awp_block ?_
  refine sr_ 32 80 hU ?_
  refine go_ ?_
  obtain ⟨e, he, hg⟩ := bind_some hg
  refine go_ ?_
  refine c0_ rfl rfl (r_loadE1 ty3 (enc_cell eI_len (getI_at he) (o := 0) (c := .int .i64 e) rfl rfl)) rfl rfl ?_
  refine go_ ?_
  refine ch_n fun hU => ?_
  refine cg_ rfl hg (fun h6 hg => ?_) fun h6 hg => ?_
  ·refine awp_seq ?_
   refine awp_region (sys _ _ []) 80 88 hU rfl rfl ?_
   refine go_ ?_
   refine ch_n fun hU => ?_
   refine aw_r ?_
   replace hg := leave hg hn1
   obtain rfl := Option.some.inj hg
   exact fin_ [] ⟨rfl, rfl⟩
  ·refine awp_skip ?_
   repeat first | refine st_ ?_ | refine sn_ ?_
   refine awp_region (sys _ _ []) 80 104 hU rfl rfl ?_
   refine go_ ?_
   refine ch_n fun hU => ?_
   obtain rfl := Option.some.inj hg
   exact ⟨(W (i_1 + 1), m1), Nat.lt_succ_self _, hn1, sub_ []⟩
 ·refine awp_exit ?_
  repeat first | refine st_ ?_ | refine sn_ ?_
  replace hg := leave hg hn1
  refine sr_ 32 40 hU ?_
  refine go_ ?_
  refine ch_n fun hU => ?_
  refine aw_r ?_
  obtain rfl := Option.some.inj hg
  exact fin_ [] ⟨rfl, rfl⟩
theorem w_ref04_Path (l : (List api_Certificate)) (at' : Int) (r : Bool) (hg : g_ref04_Path l at' = some r) : Fn Tryz.prog 126 0 [.sl 15 (encL api_Certificate.enc l), .val (.int .i64 at')] [] (fun d b => d = .val (.bool r) ∧ b = []) := by
 unfold g_ref04_Path at hg
 refine Fn.of Tryz.func126 rfl rfl rfl fun w0 I ρ0 => ?_
 show awp _ ⟨w0, I, ρ0, 0, 0, 32⟩ _ _ _
 refine sr_ 0 8 mk_U ?_
 refine go_ ?_
 refine ch_n fun hU => ?_
 refine awp_seq ?_
 refine awp_cut (ι := Bool) (fun (x12_1 : Bool) => mk [(0, .sl 15 (encL api_Certificate.enc l)), (1, .val (.int .i64 at')), (12, .val (.bool x12_1))] [] 0) (fun (x12_1 : Bool) => g_ref04_Path.j1 l at' x12_1 = some r) ?_ ?_
 ·refine awp_region (sys _ _ []) 8 72 hU rfl rfl ?_
  refine go_ ?_
  rcases bc_ hg with ⟨h2, hg⟩ | ⟨h2, hg⟩
  ·refine go_ ?_
   refine ch_n fun hU => ?_
   exact ⟨true, hg, sub_ []⟩
  ·refine go_ ?_
   refine ch_n fun hU => ?_
   exact ⟨decide ((l.length : Int) ≤ at'), hg, sub_ []⟩
 ·rintro x12_1 hg
  replace hg : g_ref04_Path.j1 l at' x12_1 = some r := hg
  show awp _ _ _ _ (mk _ _ _)
  unfold g_ref04_Path.j1 at hg
  refine cg_ rfl hg (fun h5 hg => ?_) fun h5 hg => ?_
  ·refine awp_seq ?_
   refine awp_region (sys _ _ []) 0 8 mk_U rfl rfl ?_
   refine go_ ?_
   refine ch_n fun hU => ?_
   refine aw_r ?_
   obtain rfl := Option.some.inj hg
   exact fin_ [] ⟨rfl, rfl⟩
  ·refine awp_skip ?_
   repeat first | refine st_ ?_ | refine sn_ ?_
   refine sr_ 0 160 mk_U ?_
   refine go_ ?_
   rcases bc_ hg with ⟨h7, hg⟩ | ⟨h7, hg⟩
   ·refine go_ ?_
    refine ch_n fun hU => ?_
    refine aw_r ?_
    obtain rfl := Option.some.inj hg
    exact fin_ [] ⟨rfl, rfl⟩
   ·refine go_ ?_
    obtain ⟨e, he, hg⟩ := bind_some hg
    refine go_ ?_
    refine c0_ (gdv_t rfl rfl h7) rfl (r_fieldE fd35_8 ty4 (by decide) (enc_lt api_Certificate.enc_len (getI_at he) (o := 10) (by decide) rfl)) rfl rfl ?_
    refine c0_ (gdv_t rfl rfl h7) rfl (r_loadE1 ty4 (enc_cell api_Certificate.enc_len (getI_at he) (o := 10) (c := .bool e.Authority) rfl rfl)) rfl rfl ?_
    refine go_ ?_
    rcases bc_ hg with ⟨h9, hg⟩ | ⟨h9, hg⟩
    ·refine go_ ?_
     refine c0_ (gdv_t rfl rfl h9) rfl (r_fieldE fd35_9 ty3 (by decide) (enc_lt api_Certificate.enc_len (getI_at he) (o := 11) (by decide) rfl)) rfl rfl ?_
     refine c0_ (gdv_t rfl rfl h9) rfl (r_loadE1 ty3 (enc_cell api_Certificate.enc_len (getI_at he) (o := 11) (c := .int .i64 e.Path) rfl rfl)) rfl rfl ?_
     refine go_ ?_
     refine ch_n fun hU => ?_
     refine aw_r ?_
     obtain rfl := Option.some.inj hg
     exact fin_ [] ⟨rfl, rfl⟩
    ·refine go_ ?_
     refine ch_n fun hU => ?_
     refine aw_r ?_
     obtain rfl := Option.some.inj hg
     exact fin_ [] ⟨rfl, rfl⟩
theorem w_ref03_Sealed (c : api_Certificate) (key : Int) (r : Bool) (hg : g_ref03_Sealed c key = some r) : Fn Tryz.prog 127 0 [.agg (api_Certificate.dv c), .val (.int .i64 key)] [] (fun d b => d = .val (.bool r) ∧ b = []) := by
 unfold g_ref03_Sealed at hg
 refine Fn.of Tryz.func127 rfl rfl rfl fun w0 I ρ0 => ?_
 show awp _ ⟨w0, I, ρ0, 0, 0, 29⟩ _ _ _
 refine sr_ 0 16 mk_U ?_
 refine go_ ?_
 refine ch_n fun hU => ?_
 refine sr_ 16 72 hU ?_
 refine go_ ?_
 obtain ⟨y, hy, hg⟩ := bind_some hg
 refine ca_ (w_ref03_Bytes _ _ hy) ?_
 refine go_ ?_
 refine ch_n fun hU => ?_
 refine awp_seq ?_
 refine awp_draw (sys _ _ []) (by kernel_rfl) [0, 1, 3, 7, 15, 31, 7, 127, 255, 511, 1023, 2047, 4095, 1023, 9215, 32767, 65535, 131071] 72 216 hU rfl rfl (by kernel_rfl) ?_
 refine go_ ?_
 rcases bc_ hg with ⟨h3, hg⟩ | ⟨h3, hg⟩
 ·refine go_ ?_
  rcases bc_ hg with ⟨h4, hg⟩ | ⟨h4, hg⟩
  ·refine go_ ?_
   obtain ⟨y_2, hy_2, hg⟩ := bind_some hg
   refine ca_ (w_ref03_Sum _ _ hy_2) ?_
   refine go_ ?_
   refine ch_n fun hU => ?_
   refine aw_r ?_
   obtain rfl := Option.some.inj hg
   exact fin_ [] ⟨rfl, rfl⟩
  ·refine go_ ?_
   refine ch_n fun hU => ?_
   refine aw_r ?_
   obtain rfl := Option.some.inj hg
   exact fin_ [] ⟨rfl, rfl⟩
 ·refine go_ ?_
  refine ch_n fun hU => ?_
  refine aw_r ?_
  obtain rfl := Option.some.inj hg
  exact fin_ [] ⟨rfl, rfl⟩
theorem w_ref04_wrong (e : Int) (l : (List api_Certificate)) (i : Int) (anchors : (List Int)) (hashes : (List Int)) (day : Int) (name : ByteArray) (r : Bool) (hg : g_ref04_wrong e l i anchors hashes day name = some r) : Fn Tryz.prog 92 0 [.val (.int .i64 e), .sl 15 (encL api_Certificate.enc l), .val (.int .i64 i), .sl 1 (encL eI anchors), .sl 1 (encL eI hashes), .val (.int .i64 day), .val (.string name)] [] (fun d b => d = .val (.bool r) ∧ b = []) := by
 unfold g_ref04_wrong at hg
 refine Fn.of Tryz.func92 rfl rfl rfl fun w0 I ρ0 => ?_
 show awp _ ⟨w0, I, ρ0, 0, 0, 111⟩ _ _ _
 refine sr_ 0 8 mk_U ?_
 refine go_ ?_
 refine ch_n fun hU => ?_
 refine sr_ 8 104 hU ?_
 refine go_ ?_
 obtain ⟨e_2, he_2, hg⟩ := bind_some hg
 refine go_ ?_
 refine c0_ rfl rfl (r_loadEA ty35 (enc_cells api_Certificate.enc_len (getI_at he_2) (o := 0) (m := 15) (cs := [.int .i64 e_2.Serial, .str e_2.Issuer, .str e_2.Subject, .int .i64 e_2.Key.Alg, .int .i64 e_2.Key.Bits, .int .i64 e_2.KeyId, .int .i64 e_2.Hash.Alg, .int .i64 e_2.Hash.Bits, .int .i64 e_2.From, .int .i64 e_2.To, .bool e_2.Authority, .int .i64 e_2.Path, .sl 1 (encL eS e_2.Names), .int .i64 e_2.Seal.Key, .int .i64 e_2.Seal.Sum]) rfl (by decide) rfl) (enc_cells_le api_Certificate.enc_len (getI_at he_2) (o := 0) (m := 15) (by decide) rfl)) rfl rfl ?_
 refine go_ ?_
 refine ch_n fun hU => ?_
 refine awp_seq ?_
 refine sr_ 104 112 hU ?_
 refine go_ ?_
 refine ch_n fun hU => ?_
 refine awp_block ?_
 refine sr_ 112 128 hU ?_
 refine go_ ?_
 refine ch_n fun hU => ?_
 refine cg_ rfl hg (fun h5 hg => ?_) fun h5 hg => ?_
 ·refine awp_seq ?_
  refine awp_region (sys _ _ []) 128 160 hU rfl rfl ?_
  refine go_ ?_
  obtain ⟨y, hy, hg⟩ := bind_some hg
  refine ca_ (w_ref03_Check _ _ hy) ?_
  refine go_ ?_
  refine ch_n fun hU => ?_
  refine aw_r ?_
  obtain rfl := Option.some.inj hg
  exact fin_ [] ⟨rfl, rfl⟩
 ·refine awp_seq ?_
  refine awp_region (sys _ _ []) 128 144 hU rfl rfl ?_
  refine go_ ?_
  refine ch_n fun hU => ?_
  refine cg_ rfl hg (fun h8 hg => ?_) fun h8 hg => ?_
  ·refine awp_seq ?_
   refine awp_region (sys _ _ []) 144 224 hU rfl rfl ?_
   refine go_ ?_
   rcases bc_ hg with ⟨h9, hg⟩ | ⟨h9, hg⟩
   ·refine go_ ?_
    obtain ⟨y_2, hy_2, hg⟩ := bind_some hg
    refine ca_ (w_ref04_text _ _ _ hy_2) ?_
    refine go_ ?_
    refine ch_n fun hU => ?_
    refine aw_r ?_
    obtain rfl := Option.some.inj hg
    exact fin_ [] ⟨rfl, rfl⟩
   ·refine go_ ?_
    refine ch_n fun hU => ?_
    refine aw_r ?_
    obtain rfl := Option.some.inj hg
    exact fin_ [] ⟨rfl, rfl⟩
  ·refine awp_seq ?_
   refine awp_region (sys _ _ []) 144 160 hU rfl rfl ?_
   refine go_ ?_
   refine ch_n fun hU => ?_
   refine cg_ rfl hg (fun h13 hg => ?_) fun h13 hg => ?_
   ·refine awp_seq ?_
    refine awp_region (sys _ _ []) 160 248 hU rfl rfl ?_
    refine go_ ?_
    rcases bc_ hg with ⟨h14, hg⟩ | ⟨h14, hg⟩
    ·refine go_ ?_
     refine ch_n fun hU => ?_
     refine aw_r ?_
     obtain rfl := Option.some.inj hg
     exact fin_ [] ⟨rfl, rfl⟩
    ·refine go_ ?_
     refine ch_n fun hU => ?_
     refine aw_r ?_
     obtain rfl := Option.some.inj hg
     exact fin_ [] ⟨rfl, rfl⟩
   ·refine awp_seq ?_
    refine awp_region (sys _ _ []) 160 176 hU rfl rfl ?_
    refine go_ ?_
    refine ch_n fun hU => ?_
    refine cg_ rfl hg (fun h18 hg => ?_) fun h18 hg => ?_
    ·refine awp_seq ?_
     refine awp_region (sys _ _ []) 176 232 hU rfl rfl ?_
     refine go_ ?_
     obtain ⟨y_3, hy_3, hg⟩ := bind_some hg
     refine ca_ (w_ref02_Has _ _ _ hy_3) ?_
     refine go_ ?_
     refine ch_n fun hU => ?_
     refine aw_r ?_
     obtain rfl := Option.some.inj hg
     exact fin_ [] ⟨rfl, rfl⟩
    ·refine awp_seq ?_
     refine awp_region (sys _ _ []) 176 192 hU rfl rfl ?_
     refine go_ ?_
     refine ch_n fun hU => ?_
     refine cg_ rfl hg (fun h21 hg => ?_) fun h21 hg => ?_
     ·refine awp_seq ?_
      refine awp_draw (sys _ _ []) (by kernel_rfl) [0, 1, 3, 7, 15, 7, 7, 71, 231, 487, 999, 2047, 4095, 8191] 192 304 hU rfl rfl (by kernel_rfl) ?_
      refine go_ ?_
      rcases bc_ hg with ⟨h22, hg⟩ | ⟨h22, hg⟩
      ·refine go_ ?_
       obtain ⟨e_3, he_3, hg⟩ := bind_some hg
       refine go_ ?_
       refine c0_ (gdv_t rfl rfl h22) rfl (r_fieldE fd35_2 ty9 (by decide) (enc_lt api_Certificate.enc_len (getI_at he_3) (o := 2) (by decide) rfl)) rfl rfl ?_
       refine c0_ (gdv_t rfl rfl h22) rfl (r_loadE1 ty9 (enc_cell api_Certificate.enc_len (getI_at he_3) (o := 2) (c := .str e_3.Subject) rfl rfl)) rfl rfl ?_
       refine go_ ?_
       refine ch_n fun hU => ?_
       refine aw_r ?_
       obtain rfl := Option.some.inj hg
       exact fin_ [] ⟨rfl, rfl⟩
      ·refine go_ ?_
       refine ch_n fun hU => ?_
       refine aw_r ?_
       obtain rfl := Option.some.inj hg
       exact fin_ [] ⟨rfl, rfl⟩
     ·refine awp_seq ?_
      refine awp_region (sys _ _ []) 192 208 hU rfl rfl ?_
      refine go_ ?_
      refine ch_n fun hU => ?_
      refine cg_ rfl hg (fun h26 hg => ?_) fun h26 hg => ?_
      ·refine awp_seq ?_
       refine awp_region (sys _ _ []) 208 248 hU rfl rfl ?_
       refine go_ ?_
       obtain ⟨y_4, hy_4, hg⟩ := bind_some hg
       refine ca_ (w_ref04_Path _ _ _ hy_4) ?_
       refine go_ ?_
       refine ch_n fun hU => ?_
       refine aw_r ?_
       obtain rfl := Option.some.inj hg
       exact fin_ [] ⟨rfl, rfl⟩
      ·refine awp_seq ?_
       refine awp_region (sys _ _ []) 208 224 hU rfl rfl ?_
       refine go_ ?_
       refine ch_n fun hU => ?_
       refine cg_ rfl hg (fun h29 hg => ?_) fun h29 hg => ?_
       ·refine awp_seq ?_
        refine sr_ 224 232 hU ?_
        refine go_ ?_
        refine ch_n fun hU => ?_
        refine cg_ rfl hg (fun h31 hg => ?_) fun h31 hg => ?_
        ·refine awp_seq ?_
         refine awp_region (sys _ _ []) 232 288 hU rfl rfl ?_
         refine go_ ?_
         obtain ⟨y_5, hy_5, hg⟩ := bind_some hg
         refine ca_ (w_ref03_Sealed _ _ _ hy_5) ?_
         refine go_ ?_
         refine ch_n fun hU => ?_
         refine aw_r ?_
         obtain rfl := Option.some.inj hg
         exact fin_ [] ⟨rfl, rfl⟩
        ·refine awp_skip ?_
         repeat first | refine st_ ?_ | refine sn_ ?_
         refine awp_seq ?_
         refine awp_draw (sys _ _ []) (by kernel_rfl) [0, 0, 0, 4, 14, 30, 62, 127, 255, 511] 232 312 hU rfl rfl (by kernel_rfl) ?_
         refine go_ ?_
         obtain ⟨e_4, he_4, hg⟩ := bind_some hg
         refine go_ ?_
         refine c0_ rfl rfl (r_fieldE fd35_4 ty3 (by decide) (enc_lt api_Certificate.enc_len (getI_at he_4) (o := 5) (by decide) rfl)) rfl rfl ?_
         refine c0_ rfl rfl (r_loadE1 ty3 (enc_cell api_Certificate.enc_len (getI_at he_4) (o := 5) (c := .int .i64 e_4.KeyId) rfl rfl)) rfl rfl ?_
         obtain ⟨y_6, hy_6, hg⟩ := bind_some hg
         refine ca_ (w_ref03_Sealed _ _ _ hy_6) ?_
         refine go_ ?_
         refine ch_n fun hU => ?_
         refine aw_r ?_
         obtain rfl := Option.some.inj hg
         exact fin_ [] ⟨rfl, rfl⟩
       ·refine awp_skip ?_
        repeat first | refine st_ ?_ | refine sn_ ?_
        refine sr_ 224 304 hU ?_
        refine go_ ?_
        rcases bc_ hg with ⟨h34, hg⟩ | ⟨h34, hg⟩
        ·refine go_ ?_
         obtain ⟨y_7, hy_7, hg⟩ := bind_some hg
         refine ca_ (w_ref02_Has _ _ _ hy_7) ?_
         refine go_ ?_
         refine ch_n fun hU => ?_
         refine aw_r ?_
         obtain rfl := Option.some.inj hg
         exact fin_ [] ⟨rfl, rfl⟩
        ·refine go_ ?_
         refine ch_n fun hU => ?_
         refine aw_r ?_
         obtain rfl := Option.some.inj hg
         exact fin_ [] ⟨rfl, rfl⟩
theorem w_ref04_Check (l : (List api_Certificate)) (anchors : (List Int)) (hashes : (List Int)) (day : Int) (name : ByteArray) (r : Int) (hg : g_ref04_Check l anchors hashes day name = some r) : Fn Tryz.prog 63 0 [.sl 15 (encL api_Certificate.enc l), .sl 1 (encL eI anchors), .sl 1 (encL eI hashes), .val (.int .i64 day), .val (.string name)] [] (fun d b => d = .val (.int .i64 r) ∧ b = []) := by
 unfold g_ref04_Check at hg
 refine Fn.of Tryz.func63 rfl rfl rfl fun w0 I ρ0 => ?_
 show awp _ ⟨w0, I, ρ0, 0, 0, 48⟩ _ _ _
 refine sr_ 0 8 mk_U ?_
 refine go_ ?_
 refine ch_n fun hU => ?_
 refine awp_seq ?_
 refine sr_ 8 32 hU ?_
 refine go_ ?_
 refine ch_n fun hU => ?_
 refine cg_ rfl hg (fun h3 hg => ?_) fun h3 hg => ?_
 ·refine awp_seq ?_
  refine awp_region (sys _ _ []) 32 40 hU rfl rfl ?_
  refine go_ ?_
  refine ch_n fun hU => ?_
  refine aw_r ?_
  obtain rfl := Option.some.inj hg
  exact fin_ [] ⟨rfl, rfl⟩
 ·refine awp_skip ?_
  repeat first | refine st_ ?_ | refine sn_ ?_
  refine awp_seq ?_
  refine sr_ 32 56 hU ?_
  refine go_ ?_
  refine ch_n fun hU => ?_
  refine cg_ rfl hg (fun h6 hg => ?_) fun h6 hg => ?_
  ·refine awp_seq ?_
   refine awp_region (sys _ _ []) 56 64 hU rfl rfl ?_
   refine go_ ?_
   refine ch_n fun hU => ?_
   refine aw_r ?_
   obtain rfl := Option.some.inj hg
   exact fin_ [] ⟨rfl, rfl⟩
  ·refine awp_skip ?_
   repeat first | refine st_ ?_ | refine sn_ ?_
   refine sr_ 56 72 hU ?_
   refine c0_ rfl rfl (r_buildFull sl149 z40 (by decide) rfl rfl rfl rfl ck40 (cs := [.int .i64 9, .int .i64 14, .int .i64 13, .int .i64 7, .int .i64 11, .int .i64 15, .int .i64 10, .int .i64 12]) (.cons .int (.cons .int (.cons .int (.cons .int (.cons .int (.cons .int (.cons .int (.cons .int .nil)))))))) rfl (l := ([9, 14, 13, 7, 11, 15, 10, 12] : List Int)) (f := eI) rfl) rfl rfl ?_
   refine go_ ?_
   refine ch_n fun hU => ?_
   refine awp_seq ?_
   refine sr_ 72 80 hU ?_
   refine go_ ?_
   refine ch_n fun hU => ?_
   refine awp_block ?_
   refine lp_ (fun (k_1 : Int) => mk [(0, .sl 15 (encL api_Certificate.enc l)), (1, .sl 1 (encL eI anchors)), (2, .sl 1 (encL eI hashes)), (3, .val (.int .i64 day)), (4, .val (.string name)), (11, .row 0), (12, .val (.int .i64 k_1))] [(0, .row 40 1 (encL eI ([9, 14, 13, 7, 11, 15, 10, 12] : List Int)))] 1) hg (sub_ [(0, 56)]) ?_
   rintro k_1 m1 o1 hg hn1
   replace hg : g_ref04_Check.l1 l anchors hashes day name k_1 = some o1 := hg
   show awp _ _ _ _ (mk _ _ _)
   unfold g_ref04_Check.l1 at hg
   refine awp_seq ?_
   refine sr_ 1 33 mk_U ?_
   refine go_ ?_
   refine ch_n fun hU => ?_
   refine cg_ rfl hg (fun h11 hg => ?_) fun h11 hg => ?_
   ·refine awp_skip ?_
    repeat first | refine st_ ?_ | refine sn_ ?_
    refine awp_seq ?_
    refine awp_block ?_
    refine sr_ 33 41 hU ?_
    refine go_ ?_
    refine ch_n fun hU => ?_
    refine awp_block ?_
    refine lp_ (fun (i_2 : Int) => mk [(0, .sl 15 (encL api_Certificate.enc l)), (1, .sl 1 (encL eI anchors)), (2, .sl 1 (encL eI hashes)), (3, .val (.int .i64 day)), (4, .val (.string name)), (11, .row 0), (12, .val (.int .i64 k_1)), (13, .val (.int .i64 i_2))] [(0, .row 40 1 (encL eI ([9, 14, 13, 7, 11, 15, 10, 12] : List Int)))] 1) hg (sub_ [(0, 0)]) ?_
    rintro i_2 m2 o2 hg hn2
    replace hg : g_ref04_Check.l2 l anchors hashes day name k_1 i_2 = some o2 := hg
    show awp _ _ _ _ (mk _ _ _)
    unfold g_ref04_Check.l2 at hg
    refine awp_seq ?_
    refine sr_ 1 33 mk_U ?_
    refine go_ ?_
    refine ch_n fun hU => ?_
    refine cg_ rfl hg (fun h14 hg => ?_) fun h14 hg => ?_
    ·refine awp_skip ?_
     repeat first | refine st_ ?_ | refine sn_ ?_
     refine awp_seq ?_
     refine awp_block ?_
     refine sr_ 33 121 hU ?_
     refine go_ ?_
     obtain ⟨e, he, hg⟩ := bind_some hg
     refine go_ ?_
     refine ch_s (rd := [0]) rfl rfl (.loadR1 ty40 (enc_cell eI_len (getI_at he) (o := 0) (c := .int .i64 e) rfl rfl)) rfl rfl ?_
     refine go_ ?_
     obtain ⟨y, hy, hg⟩ := bind_some hg
     refine ca_ (w_ref04_wrong _ _ _ _ _ _ _ _ hy) ?_
     refine ch_n fun hU => ?_
     refine cg_ rfl hg (fun h16 hg => ?_) fun h16 hg => ?_
     ·refine awp_seq ?_
      refine awp_region (sys _ _ []) 121 161 hU rfl rfl ?_
      refine go_ ?_
      refine ch_s (rd := [0]) rfl rfl (.loadR1 ty40 (enc_cell eI_len (getI_at he) (o := 0) (c := .int .i64 e) rfl rfl)) rfl rfl ?_
      refine go_ ?_
      refine ch_n fun hU => ?_
      refine aw_r ?_
      replace hg := leave hg hn2
      replace hg := leave hg hn1
      obtain rfl := Option.some.inj hg
      exact fin_ [] ⟨rfl, rfl⟩
     ·refine awp_skip ?_
      repeat first | refine st_ ?_ | refine sn_ ?_
      refine awp_region (sys _ _ []) 121 145 hU rfl rfl ?_
      refine go_ ?_
      refine ch_n fun hU => ?_
      obtain rfl := Option.some.inj hg
      exact ⟨(W (i_2 + 1), m2), Nat.lt_succ_self _, hn2, sub_ [(0, 0)]⟩
    ·refine awp_exit ?_
     repeat first | refine st_ ?_ | refine sn_ ?_
     replace hg := leave hg hn2
     refine awp_region (sys _ _ []) 33 57 hU rfl rfl ?_
     refine go_ ?_
     refine ch_n fun hU => ?_
     obtain rfl := Option.some.inj hg
     exact ⟨(W (k_1 + 1), m1), Nat.lt_succ_self _, hn1, sub_ [(0, 0)]⟩
   ·refine awp_exit ?_
    repeat first | refine st_ ?_ | refine sn_ ?_
    replace hg := leave hg hn1
    refine sr_ 33 41 hU ?_
    refine go_ ?_
    refine ch_n fun hU => ?_
    refine aw_r ?_
    obtain rfl := Option.some.inj hg
    exact fin_ [] ⟨rfl, rfl⟩
theorem w_ref04_extend.F (rec : (List api_Certificate) → (List api_Certificate) → (List Int) → Int → (List Int) → (List Int) → Int → ByteArray → Option ((List api_Certificate) × Bool)) (hrec : ∀ (l : (List api_Certificate)) (pool : (List api_Certificate)) (used : (List Int)) (n : Int) (anchors : (List Int)) (hashes : (List Int)) (day : Int) (name : ByteArray) (r : (List api_Certificate) × Bool), rec l pool used n anchors hashes day name = some r → Fn Tryz.prog 31 0 [.sl 15 (encL api_Certificate.enc l), .sl 15 (encL api_Certificate.enc pool), .sl 1 (encL eI used), .val (.int .i64 n), .sl 1 (encL eI anchors), .sl 1 (encL eI hashes), .val (.int .i64 day), .val (.string name)] [] (fun d b => d = .tup [.sl 15 (encL api_Certificate.enc r.1), .val (.bool r.2)] ∧ b = [])) (l : (List api_Certificate)) (pool : (List api_Certificate)) (used : (List Int)) (n : Int) (anchors : (List Int)) (hashes : (List Int)) (day : Int) (name : ByteArray) (r : (List api_Certificate) × Bool) (hg : g_ref04_extend.F rec l pool used n anchors hashes day name = some r) : Fn Tryz.prog 31 0 [.sl 15 (encL api_Certificate.enc l), .sl 15 (encL api_Certificate.enc pool), .sl 1 (encL eI used), .val (.int .i64 n), .sl 1 (encL eI anchors), .sl 1 (encL eI hashes), .val (.int .i64 day), .val (.string name)] [] (fun d b => d = .tup [.sl 15 (encL api_Certificate.enc r.1), .val (.bool r.2)] ∧ b = []) := by
 unfold g_ref04_extend.F at hg
 refine Fn.of Tryz.func31 rfl rfl rfl fun w0 I ρ0 => ?_
 show awp _ ⟨w0, I, ρ0, 0, 0, 98⟩ _ _ _
 refine sr_ 0 16 mk_U ?_
 refine go_ ?_
 refine ch_n fun hU => ?_
 refine awp_seq ?_
 refine sr_ 16 32 hU ?_
 refine go_ ?_
 refine ch_n fun hU => ?_
 refine cg_ rfl hg (fun h3 hg => ?_) fun h3 hg => ?_
 ·refine awp_seq ?_
  refine awp_region (sys _ _ []) 32 112 hU rfl rfl ?_
  refine go_ ?_
  obtain ⟨y, hy, hg⟩ := bind_some hg
  refine ca_ (w_ref04_Check _ _ _ _ _ _ hy) ?_
  refine go_ ?_
  refine ch_n fun hU => ?_
  refine aw_r ?_
  obtain rfl := Option.some.inj hg
  exact fin_ [] ⟨rfl, rfl⟩
 ·refine awp_skip ?_
  repeat first | refine st_ ?_ | refine sn_ ?_
  refine awp_seq ?_
  refine sr_ 32 40 hU ?_
  refine go_ ?_
  refine ch_n fun hU => ?_
  refine awp_block ?_
  refine lp_ (fun (i_1 : Int) => mk [(0, .sl 15 (encL api_Certificate.enc l)), (1, .sl 15 (encL api_Certificate.enc pool)), (2, .sl 1 (encL eI used)), (3, .val (.int .i64 n)), (4, .sl 1 (encL eI anchors)), (5, .sl 1 (encL eI hashes)), (6, .val (.int .i64 day)), (7, .val (.string name)), (18, .val (.int .i64 i_1))] [] 0) hg (sub_ []) ?_
  rintro i_1 m1 o1 hg hn1
  replace hg : g_ref04_extend.l1 rec l pool used n anchors hashes day name i_1 = some o1 := hg
  show awp _ _ _ _ (mk _ _ _)
  unfold g_ref04_extend.l1 at hg
  refine awp_seq ?_
  refine sr_ 0 32 mk_U ?_
  refine go_ ?_
  refine ch_n fun hU => ?_
  refine cg_ rfl hg (fun h7 hg => ?_) fun h7 hg => ?_
  ·refine awp_skip ?_
   repeat first | refine st_ ?_ | refine sn_ ?_
   refine awp_cut (ι := Unit) (fun (_ : Unit) => mk [(0, .sl 15 (encL api_Certificate.enc l)), (1, .sl 15 (encL api_Certificate.enc pool)), (2, .sl 1 (encL eI used)), (3, .val (.int .i64 n)), (4, .sl 1 (encL eI anchors)), (5, .sl 1 (encL eI hashes)), (6, .val (.int .i64 day)), (7, .val (.string name)), (18, .val (.int .i64 i_1))] [] 0) (fun (_ : Unit) => g_ref04_extend.j4 i_1 = some o1) ?_ ?_
   ·refine awp_block ?_
    refine sr_ 32 96 hU ?_
    refine go_ ?_
    obtain ⟨e, he, hg⟩ := bind_some hg
    refine go_ ?_
    refine c0_ rfl rfl (r_loadEA ty35 (enc_cells api_Certificate.enc_len (getI_at he) (o := 0) (m := 15) (cs := [.int .i64 e.Serial, .str e.Issuer, .str e.Subject, .int .i64 e.Key.Alg, .int .i64 e.Key.Bits, .int .i64 e.KeyId, .int .i64 e.Hash.Alg, .int .i64 e.Hash.Bits, .int .i64 e.From, .int .i64 e.To, .bool e.Authority, .int .i64 e.Path, .sl 1 (encL eS e.Names), .int .i64 e.Seal.Key, .int .i64 e.Seal.Sum]) rfl (by decide) rfl) (enc_cells_le api_Certificate.enc_len (getI_at he) (o := 0) (m := 15) (by decide) rfl)) rfl rfl ?_
    refine go_ ?_
    refine ch_n fun hU => ?_
    refine awp_seq ?_
    refine awp_cut (ι := Bool) (fun (x68_2 : Bool) => mk [(0, .sl 15 (encL api_Certificate.enc l)), (1, .sl 15 (encL api_Certificate.enc pool)), (2, .sl 1 (encL eI used)), (3, .val (.int .i64 n)), (4, .sl 1 (encL eI anchors)), (5, .sl 1 (encL eI hashes)), (6, .val (.int .i64 day)), (7, .val (.string name)), (18, .val (.int .i64 i_1)), (68, .val (.bool x68_2))] [] 0) (fun (x68_2 : Bool) => g_ref04_extend.j2 rec l pool used n anchors hashes day name i_1 x68_2 = some o1) ?_ ?_
    ·refine awp_draw (sys _ _ []) (by kernel_rfl) [0, 0, 3, 7, 15, 31, 15, 15, 207, 463, 975, 2047, 4095, 8191, 16383, 32767, 65535, 16383, 16383, 409599, 933887, 1982463, 4194303, 8388607] 96 288 hU rfl rfl (by kernel_rfl) ?_
     refine go_ ?_
     obtain ⟨y_2, hy_2, hg⟩ := bind_some hg
     refine ca_ (w_ref02_Has _ _ _ hy_2) ?_
     refine go_ ?_
     rcases bc_ hg with ⟨h9, hg⟩ | ⟨h9, hg⟩
     ·refine go_ ?_
      refine ch_n fun hU => ?_
      exact ⟨true, hg, sub_ []⟩
     ·refine go_ ?_
      obtain ⟨e_2, he_2, hg⟩ := bind_some hg
      refine go_ ?_
      refine c0_ (gdv_t rfl rfl h9) rfl (r_fieldE fd35_2 ty9 (by decide) (enc_lt api_Certificate.enc_len (getI_at he_2) (o := 2) (by decide) rfl)) rfl rfl ?_
      refine c0_ (gdv_t rfl rfl h9) rfl (r_loadE1 ty9 (enc_cell api_Certificate.enc_len (getI_at he_2) (o := 2) (c := .str e_2.Subject) rfl rfl)) rfl rfl ?_
      refine go_ ?_
      rcases bc_ hg with ⟨h11, hg⟩ | ⟨h11, hg⟩
      ·refine go_ ?_
       refine ch_n fun hU => ?_
       exact ⟨true, hg, sub_ []⟩
      ·refine go_ ?_
       refine c0_ (gdv_t rfl rfl h11) rfl (r_fieldE fd35_4 ty3 (by decide) (enc_lt api_Certificate.enc_len (getI_at he_2) (o := 5) (by decide) rfl)) rfl rfl ?_
       refine c0_ (gdv_t rfl rfl h11) rfl (r_loadE1 ty3 (enc_cell api_Certificate.enc_len (getI_at he_2) (o := 5) (c := .int .i64 e_2.KeyId) rfl rfl)) rfl rfl ?_
       refine go_ ?_
       refine ch_n fun hU => ?_
       exact ⟨!decide (e.Seal.Key = e_2.KeyId), hg, sub_ []⟩
    ·rintro x68_2 hg
     replace hg : g_ref04_extend.j2 rec l pool used n anchors hashes day name i_1 x68_2 = some o1 := hg
     show awp _ _ _ _ (mk _ _ _)
     unfold g_ref04_extend.j2 at hg
     refine cg_ rfl hg (fun h14 hg => ?_) fun h14 hg => ?_
     ·refine awp_exit ?_
      repeat first | refine st_ ?_ | refine sn_ ?_
      exact ⟨(), hg, sub_ []⟩
     ·refine awp_skip ?_
      repeat first | refine st_ ?_ | refine sn_ ?_
      refine awp_seq ?_
      refine awp_draw (sys _ _ []) (by kernel_rfl) [0, 0, 3, 0, 0, 24, 56, 120, 255, 511] 0 80 mk_U rfl rfl (by kernel_rfl) ?_
      refine c0_ rfl rfl (r_buildFull sl27 z35 (by decide) rfl rfl rfl rfl ck35 (cs := []) .nil rfl (l := ([] : List api_Certificate)) (f := api_Certificate.enc) rfl) rfl rfl ?_
      refine go_ ?_
      obtain ⟨l_2, hl_2, hg⟩ := bind_some hg
      refine ch_s (rd := [0]) rfl rfl (r_append sl27 api_Certificate.enc_len .row rfl .sl rfl hl_2 rfl) rfl rfl ?_
      refine go_ ?_
      obtain ⟨e_3, he_3, hg⟩ := bind_some hg
      refine go_ ?_
      refine c0_ rfl rfl (r_loadEA ty35 (enc_cells api_Certificate.enc_len (getI_at he_3) (o := 0) (m := 15) (cs := [.int .i64 e_3.Serial, .str e_3.Issuer, .str e_3.Subject, .int .i64 e_3.Key.Alg, .int .i64 e_3.Key.Bits, .int .i64 e_3.KeyId, .int .i64 e_3.Hash.Alg, .int .i64 e_3.Hash.Bits, .int .i64 e_3.From, .int .i64 e_3.To, .bool e_3.Authority, .int .i64 e_3.Path, .sl 1 (encL eS e_3.Names), .int .i64 e_3.Seal.Key, .int .i64 e_3.Seal.Sum]) rfl (by decide) rfl) (enc_cells_le api_Certificate.enc_len (getI_at he_3) (o := 0) (m := 15) (by decide) rfl)) rfl rfl ?_
      refine c0_ rfl rfl (r_buildFull sl27 z35 (by decide) rfl rfl rfl rfl ck35 (cs := [.int .i64 e_3.Serial, .str e_3.Issuer, .str e_3.Subject, .int .i64 e_3.Key.Alg, .int .i64 e_3.Key.Bits, .int .i64 e_3.KeyId, .int .i64 e_3.Hash.Alg, .int .i64 e_3.Hash.Bits, .int .i64 e_3.From, .int .i64 e_3.To, .bool e_3.Authority, .int .i64 e_3.Path, .sl 1 (encL eS e_3.Names), .int .i64 e_3.Seal.Key, .int .i64 e_3.Seal.Sum]) (.cons .int (.cons .str (.cons .str (.cons .int (.cons .int (.cons .int (.cons .int (.cons .int (.cons .int (.cons .int (.cons .bool (.cons .int (.cons .sl (.cons .int (.cons .int .nil))))))))))))))) rfl (l := ([e_3] : List api_Certificate)) (f := api_Certificate.enc) rfl) rfl rfl ?_
      obtain ⟨l_3, hl_3, hg⟩ := bind_some hg
      refine ch_s (rd := [16, 56]) rfl rfl (r_append sl27 api_Certificate.enc_len .row rfl .row rfl hl_3 rfl) rfl rfl ?_
      refine go_ ?_
      refine ch_n fun hU => ?_
      refine awp_seq ?_
      refine awp_sub (σ' := mk [(0, .sl 15 (encL api_Certificate.enc l)), (1, .sl 15 (encL api_Certificate.enc pool)), (2, .sl 1 (encL eI used)), (3, .val (.int .i64 n)), (4, .sl 1 (encL eI anchors)), (5, .sl 1 (encL eI hashes)), (6, .val (.int .i64 day)), (7, .val (.string name)), (18, .val (.int .i64 i_1)), (20, .sl 15 (encL api_Certificate.enc l_3))] [] 0) (sub_ []) ?_
      refine awp_region (sys _ _ [56]) 0 160 mk_U rfl rfl ?_
      refine go_ ?_
      refine c0_ rfl rfl (r_buildFull sl22 z3 (by decide) rfl rfl rfl rfl ck3 (cs := []) .nil rfl (l := ([] : List Int)) (f := eI) rfl) rfl rfl ?_
      refine go_ ?_
      obtain ⟨l_6, hl_6, hg⟩ := bind_some hg
      refine ch_s (rd := [16]) rfl rfl (r_append sl22 eI_len .row rfl .sl rfl hl_6 rfl) rfl rfl ?_
      refine go_ ?_
      refine c0_ rfl rfl (r_buildFull sl22 z3 (by decide) rfl rfl rfl rfl ck3 (cs := [.int .i64 i_1]) (.cons .int .nil) rfl (l := ([i_1] : List Int)) (f := eI) rfl) rfl rfl ?_
      obtain ⟨l_7, hl_7, hg⟩ := bind_some hg
      refine ch_z (rd := [32, 48]) rfl rfl (r_append sl22 eI_len .row rfl .row rfl hl_7 rfl) rfl rfl rfl ?_
      refine go_ ?_
      obtain ⟨y_3, hy_3, hg⟩ := bind_some hg
      refine ca_ (hrec _ _ _ _ _ _ _ _ _ hy_3) ?_
      refine go_ ?_
      refine ch_n fun hU => ?_
      refine sr_ 160 168 hU ?_
      refine go_ ?_
      refine ch_n fun hU => ?_
      refine cg_ rfl hg (fun h18 hg => ?_) fun h18 hg => ?_
      ·refine awp_seq ?_
       refine awp_region (sys _ _ []) 168 192 hU rfl rfl ?_
       refine go_ ?_
       refine ch_n fun hU => ?_
       refine aw_r ?_
       replace hg := leave hg hn1
       obtain rfl := Option.some.inj hg
       exact fin_ [] ⟨rfl, rfl⟩
      ·refine awp_skip ?_
       repeat first | refine st_ ?_ | refine sn_ ?_
       exact ⟨(), hg, sub_ []⟩
   ·rintro _ hg
    replace hg : g_ref04_extend.j4 i_1 = some o1 := hg
    show awp _ _ _ _ (mk _ _ _)
    unfold g_ref04_extend.j4 at hg
    refine awp_region (sys _ _ []) 0 24 mk_U rfl rfl ?_
    refine go_ ?_
    refine ch_n fun hU => ?_
    obtain rfl := Option.some.inj hg
    exact ⟨(W (i_1 + 1), m1), Nat.lt_succ_self _, hn1, sub_ []⟩
  ·refine awp_exit ?_
   repeat first | refine st_ ?_ | refine sn_ ?_
   replace hg := leave hg hn1
   refine sr_ 32 48 hU ?_
   refine go_ ?_
   refine ch_n fun hU => ?_
   refine aw_r ?_
   obtain rfl := Option.some.inj hg
   exact fin_ [] ⟨rfl, rfl⟩
theorem w_ref04_extend (l : (List api_Certificate)) (pool : (List api_Certificate)) (used : (List Int)) (n : Int) (anchors : (List Int)) (hashes : (List Int)) (day : Int) (name : ByteArray) (r : (List api_Certificate) × Bool) (hg : g_ref04_extend l pool used n anchors hashes day name = some r) : Fn Tryz.prog 31 0 [.sl 15 (encL api_Certificate.enc l), .sl 15 (encL api_Certificate.enc pool), .sl 1 (encL eI used), .val (.int .i64 n), .sl 1 (encL eI anchors), .sl 1 (encL eI hashes), .val (.int .i64 day), .val (.string name)] [] (fun d b => d = .tup [.sl 15 (encL api_Certificate.enc r.1), .val (.bool r.2)] ∧ b = []) :=
 fixT_ind (motive := fun (x : (List api_Certificate) × (List api_Certificate) × (List Int) × Int × (List Int) × (List Int) × Int × ByteArray) (r : (List api_Certificate) × Bool) => Fn Tryz.prog 31 0 [.sl 15 (encL api_Certificate.enc x.1), .sl 15 (encL api_Certificate.enc x.2.1), .sl 1 (encL eI x.2.2.1), .val (.int .i64 x.2.2.2.1), .sl 1 (encL eI x.2.2.2.2.1), .sl 1 (encL eI x.2.2.2.2.2.1), .val (.int .i64 x.2.2.2.2.2.2.1), .val (.string x.2.2.2.2.2.2.2)] [] (fun d b => d = .tup [.sl 15 (encL api_Certificate.enc r.1), .val (.bool r.2)] ∧ b = [])) (fun rec hrec x r h => w_ref04_extend.F _ (fun l pool used n anchors hashes day name r h => hrec (l, pool, used, n, anchors, hashes, day, name) r h) x.1 x.2.1 x.2.2.1 x.2.2.2.1 x.2.2.2.2.1 x.2.2.2.2.2.1 x.2.2.2.2.2.2.1 x.2.2.2.2.2.2.2 r h) (l, pool, used, n, anchors, hashes, day, name) r hg
end Go.Proofs.YtadjcdhcdmiifaaGreat
