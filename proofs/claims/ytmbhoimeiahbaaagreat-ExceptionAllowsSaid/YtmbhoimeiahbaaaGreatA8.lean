/- The program computes the plain functions. -/
import Derived.Test.YtmbhoimeiahbaaaGreatT1
import Derived.Test.YtmbhoimeiahbaaaGreatA1
import Derived.Test.YtmbhoimeiahbaaaGreatA3
import Derived.Test.YtmbhoimeiahbaaaGreatA4
import Derived.Test.YtmbhoimeiahbaaaGreatA5
import Derived.Test.YtmbhoimeiahbaaaGreatA6
import Derived.Test.YtmbhoimeiahbaaaGreatA7
set_option linter.unusedVariables false
set_option linter.unusedSimpArgs false
set_option maxRecDepth 100000
set_option maxHeartbeats 1600000
namespace Go.Proofs.YtmbhoimeiahbaaaGreat
open Go.RowKit
theorem w_ref19_All (l : (List api_Exception)) (r : Int) (hg : g_ref19_All l = some r) : Fn Tryz.prog 36 0 [.sl 7 (encL api_Exception.enc l)] [] (fun d' b' => d' = .val (.int .i64 r) ∧ b' = []) := by
 unfold g_ref19_All at hg
 refine Fn.of Tryz.func36 rfl rfl rfl fun w0 I ρ0 => ?_
 show awp _ ⟨w0, I, ρ0, 0, 0, 19, none⟩ _ _ _
 refine sr_ 0 8 mk_U ?_
 refine go_ ?_
 refine ch_n fun hU => ?_
 refine awp_seq ?_
 refine sr_ 8 16 hU ?_
 refine go_ ?_
 refine ch_n fun hU => ?_
 refine awp_block ?_
 refine lp_ (fun (i_1 : Int) => mk [(0, .sl 7 (encL api_Exception.enc l)), (3, .val (.int .i64 i_1))] [] 0) hg (sub_ []) ?_
 rintro i_1 m1 o1 hg hn1
 replace hg : g_ref19_All.l1 l i_1 = some o1 := hg
 show awp _ _ _ _ (mk _ _ _)
 unfold g_ref19_All.l1 at hg
 refine awp_seq ?_
 refine sr_ 0 32 mk_U ?_
 refine go_ ?_
 refine ch_n fun hU => ?_
 refine cg_ rfl hg (fun h4 hg => ?_) fun h4 hg => ?_
 ·refine awp_skip ?_
  repeat first | refine st_ ?_ | refine sn_ ?_
  refine awp_seq ?_
  refine awp_block ?_
  refine sr_ 32 80 hU ?_
  refine go_ ?_
  obtain ⟨e, he, hg⟩ := bind_some hg
  refine go_ ?_
  refine c0_ rfl rfl (r_loadEA ty52 (enc_cells api_Exception.enc_len (getI_at he) (o := 0) (m := 7) (cs := [.int .i64 e.Use.Alg, .int .i64 e.Use.Bits, .int .i64 e.Purpose, .str e.Endpoint, .int .i64 e.Days.From, .int .i64 e.Days.To, .sl 2 (encL api_Seal.enc e.Seals)]) rfl (by decide) rfl) (enc_cells_le api_Exception.enc_len (getI_at he) (o := 0) (m := 7) (by decide) rfl)) rfl rfl ?_
  obtain ⟨y, hy, hg⟩ := bind_some hg
  refine ca_ (w_ref19_Check _ _ hy) ?_
  refine go_ ?_
  refine ch_n fun hU => ?_
  refine sr_ 80 96 hU ?_
  refine go_ ?_
  refine ch_n fun hU => ?_
  refine cg_ rfl hg (fun h7 hg => ?_) fun h7 hg => ?_
  ·refine awp_seq ?_
   refine awp_region (sys _ _ []) 96 112 hU rfl rfl ?_
   refine go_ ?_
   refine ch_n fun hU => ?_
   refine aw_r ?_
   replace hg := leave hg hn1
   obtain rfl := Option.some.inj hg
   exact fin_ [] ⟨rfl, rfl⟩
  ·refine awp_skip ?_
   repeat first | refine st_ ?_ | refine sn_ ?_
   refine awp_region (sys _ _ []) 96 120 hU rfl rfl ?_
   refine go_ ?_
   refine ch_n fun hU => ?_
   obtain rfl := Option.some.inj hg
   exact ⟨(W (i_1 + 1), m1), Nat.lt_succ_self _, hn1, sub_ []⟩
 ·refine awp_exit ?_
  repeat first | refine st_ ?_ | refine sn_ ?_
  replace hg := leave hg hn1
  refine sr_ 32 40 hU ?_
  refine go_ ?_
  refine ch_n fun hU => ?_
  refine aw_r ?_
  obtain rfl := Option.some.inj hg
  exact fin_ [] ⟨rfl, rfl⟩
theorem w_ref02_Has (l : (List Int)) (n : Int) (r : Bool) (hg : g_ref02_Has l n = some r) : Fn Tryz.prog 62 0 [.sl 1 (encL eI l), .val (.int .i64 n)] [] (fun d' b' => d' = .val (.bool r) ∧ b' = []) := by
 unfold g_ref02_Has at hg
 refine Fn.of Tryz.func62 rfl rfl rfl fun w0 I ρ0 => ?_
 show awp _ ⟨w0, I, ρ0, 0, 0, 18, none⟩ _ _ _
 refine sr_ 0 8 mk_U ?_
 refine go_ ?_
 refine ch_n fun hU => ?_
 refine awp_seq ?_
 refine sr_ 8 16 hU ?_
 refine go_ ?_
 refine ch_n fun hU => ?_
 refine awp_block ?_
 refine lp_ (fun (i_1 : Int) => mk [(0, .sl 1 (encL eI l)), (1, .val (.int .i64 n)), (5, .val (.int .i64 i_1))] [] 0) hg (sub_ []) ?_
 rintro i_1 m1 o1 hg hn1
 replace hg : g_ref02_Has.l1 l n i_1 = some o1 := hg
 show awp _ _ _ _ (mk _ _ _)
 unfold g_ref02_Has.l1 at hg
 refine awp_seq ?_
 refine sr_ 0 32 mk_U ?_
 refine go_ ?_
 refine ch_n fun hU => ?_
 refine cg_ rfl hg (fun h4 hg => ?_) fun h4 hg => ?_
 ·refine awp_skip ?_
  repeat first | refine st_ ?_ | refine sn_ ?_
  refine awp_seq ?_
  refine awp_block ?_
  refine sr_ 32 80 hU ?_
  refine go_ ?_
  obtain ⟨e, he, hg⟩ := bind_some hg
  refine go_ ?_
  refine c0_ rfl rfl (r_loadE1 ty3 (enc_cell eI_len (getI_at he) (o := 0) (c := .int .i64 e) rfl rfl)) rfl rfl ?_
  refine go_ ?_
  refine ch_n fun hU => ?_
  refine cg_ rfl hg (fun h6 hg => ?_) fun h6 hg => ?_
  ·refine awp_seq ?_
   refine awp_region (sys _ _ []) 80 88 hU rfl rfl ?_
   refine go_ ?_
   refine ch_n fun hU => ?_
   refine aw_r ?_
   replace hg := leave hg hn1
   obtain rfl := Option.some.inj hg
   exact fin_ [] ⟨rfl, rfl⟩
  ·refine awp_skip ?_
   repeat first | refine st_ ?_ | refine sn_ ?_
   refine awp_region (sys _ _ []) 80 104 hU rfl rfl ?_
   refine go_ ?_
   refine ch_n fun hU => ?_
   obtain rfl := Option.some.inj hg
   exact ⟨(W (i_1 + 1), m1), Nat.lt_succ_self _, hn1, sub_ []⟩
 ·refine awp_exit ?_
  repeat first | refine st_ ?_ | refine sn_ ?_
  replace hg := leave hg hn1
  refine sr_ 32 40 hU ?_
  refine go_ ?_
  refine ch_n fun hU => ?_
  refine aw_r ?_
  obtain rfl := Option.some.inj hg
  exact fin_ [] ⟨rfl, rfl⟩
theorem w_ref19_Valid (x' : api_Exception) (o : api_Owners) (r : Bool) (hg : g_ref19_Valid x' o = some r) : Fn Tryz.prog 38 0 [.agg (api_Exception.dv x'), .agg [.sl 1 (encL eI o.Keys), .val (.int .i64 o.Need)]] [] (fun d' b' => d' = .val (.bool r) ∧ b' = []) := by
 unfold g_ref19_Valid at hg
 refine Fn.of Tryz.func38 rfl rfl rfl fun w0 I ρ0 => ?_
 show awp _ ⟨w0, I, ρ0, 0, 0, 54, none⟩ _ _ _
 refine sr_ 0 24 mk_U ?_
 refine go_ ?_
 refine ch_n fun hU => ?_
 refine sr_ 24 80 hU ?_
 refine go_ ?_
 obtain ⟨y, hy, hg⟩ := bind_some hg
 refine ca_ (w_ref19_Bytes _ _ hy) ?_
 refine go_ ?_
 refine ch_n fun hU => ?_
 refine awp_seq ?_
 refine awp_cut (ι := Bool) (fun (x20_1 : Bool) => mk [(2, .ptr 0 0), (3, .ptr 1 0), (5, .sl 1 (encL e8 y.1)), (20, .val (.bool x20_1))] [(0, .box (api_Exception.dv x') 52), (1, .box [.sl 1 (encL eI o.Keys), .val (.int .i64 o.Need)] 33)] 2) (fun (x20_1 : Bool) => g_ref19_Valid.j1 x' o y x20_1 = some r) ?_ ?_
 ·refine awp_region (sys _ _ []) 80 136 hU rfl rfl ?_
  refine go_ ?_
  rcases bc_ hg with ⟨h3, hg⟩ | ⟨h3, hg⟩
  ·refine go_ ?_
   refine ch_n fun hU => ?_
   exact ⟨true, hg, sub_ [(0, 0), (1, 8)]⟩
  ·refine go_ ?_
   refine ch_n fun hU => ?_
   exact ⟨decide (o.Need < 1), hg, sub_ [(0, 0), (1, 8)]⟩
 ·rintro x20_1 hg
  replace hg : g_ref19_Valid.j1 x' o y x20_1 = some r := hg
  show awp _ _ _ _ (mk _ _ _)
  unfold g_ref19_Valid.j1 at hg
  refine cg_ rfl hg (fun h6 hg => ?_) fun h6 hg => ?_
  ·refine awp_seq ?_
   refine awp_region (sys _ _ []) 2 10 mk_U rfl rfl ?_
   refine go_ ?_
   refine ch_n fun hU => ?_
   refine aw_r ?_
   obtain rfl := Option.some.inj hg
   exact fin_ [] ⟨rfl, rfl⟩
  ·refine awp_skip ?_
   repeat first | refine st_ ?_ | refine sn_ ?_
   refine sr_ 2 10 mk_U ?_
   refine go_ ?_
   refine ch_n fun hU => ?_
   refine awp_seq ?_
   refine sr_ 10 18 hU ?_
   refine go_ ?_
   refine ch_n fun hU => ?_
   refine awp_block ?_
   refine lp_ (fun ((n_2, i_2) : Int × Int) => mk [(2, .ptr 0 0), (3, .ptr 1 0), (5, .sl 1 (encL e8 y.1)), (7, .val (.int .i64 n_2)), (8, .val (.int .i64 i_2))] [(0, .box (api_Exception.dv x') 52), (1, .box [.sl 1 (encL eI o.Keys), .val (.int .i64 o.Need)] 33)] 2) hg (sub_ [(0, 0), (1, 1)]) ?_
   rintro ⟨n_2, i_2⟩ m2 o2 hg hn2
   replace hg : g_ref19_Valid.l2 x' o y n_2 i_2 = some o2 := hg
   show awp _ _ _ _ (mk _ _ _)
   unfold g_ref19_Valid.l2 at hg
   refine awp_seq ?_
   refine sr_ 2 42 mk_U ?_
   refine go_ ?_
   refine ch_n fun hU => ?_
   refine cg_ rfl hg (fun h11 hg => ?_) fun h11 hg => ?_
   ·refine awp_skip ?_
    repeat first | refine st_ ?_ | refine sn_ ?_
    refine awp_cut (ι := Int) (fun (n_4 : Int) => mk [(2, .ptr 0 0), (3, .ptr 1 0), (5, .sl 1 (encL e8 y.1)), (7, .val (.int .i64 n_4)), (8, .val (.int .i64 i_2))] [(0, .box (api_Exception.dv x') 52), (1, .box [.sl 1 (encL eI o.Keys), .val (.int .i64 o.Need)] 33)] 2) (fun (n_4 : Int) => g_ref19_Valid.j4 i_2 n_4 = some o2) ?_ ?_
    ·refine awp_block ?_
     refine awp_cut (ι := Bool) (fun (x47_3 : Bool) => mk [(2, .ptr 0 0), (3, .ptr 1 0), (5, .sl 1 (encL e8 y.1)), (7, .val (.int .i64 n_2)), (8, .val (.int .i64 i_2)), (47, .val (.bool x47_3))] [(0, .box (api_Exception.dv x') 52), (1, .box [.sl 1 (encL eI o.Keys), .val (.int .i64 o.Need)] 33)] 2) (fun (x47_3 : Bool) => g_ref19_Valid.j3 n_2 i_2 x47_3 = some o2) ?_ ?_
     ·refine awp_draw (sys _ _ []) (by kernel_rfl) [0, 1, 0, 7, 15, 31, 0, 64, 255, 511, 1023, 2047, 1023, 5119, 1023, 29695, 62463, 127999, 262143, 524287] 42 202 hU rfl rfl (by kernel_rfl) ?_
      refine go_ ?_
      obtain ⟨e, he, hg⟩ := bind_some hg
      refine go_ ?_
      refine c0_ rfl rfl (r_fieldE fd87_1 ty3 (by decide) (enc_lt api_Seal.enc_len (getI_at he) (o := 1) (by decide) rfl)) rfl rfl ?_
      refine c0_ rfl rfl (r_loadE1 ty3 (enc_cell api_Seal.enc_len (getI_at he) (o := 1) (c := .int .i64 e.Sum) rfl rfl)) rfl rfl ?_
      refine go_ ?_
      obtain ⟨y_2, hy_2, hg⟩ := bind_some hg
      refine ca_ (w_ref03_Sum _ _ hy_2) ?_
      refine go_ ?_
      rcases bc_ hg with ⟨h12, hg⟩ | ⟨h12, hg⟩
      ·refine go_ ?_
       refine c0_ (gdv_t rfl rfl h12) rfl (r_fieldE fd87_0 ty3 (by decide) (enc_lt api_Seal.enc_len (getI_at he) (o := 0) (by decide) rfl)) rfl rfl ?_
       refine c0_ (gdv_t rfl rfl h12) rfl (r_loadE1 ty3 (enc_cell api_Seal.enc_len (getI_at he) (o := 0) (c := .int .i64 e.Key) rfl rfl)) rfl rfl ?_
       obtain ⟨y_3, hy_3, hg⟩ := bind_some hg
       refine ca_ (w_ref02_Has _ _ _ hy_3) ?_
       refine go_ ?_
       refine ch_n fun hU => ?_
       exact ⟨y_3, hg, sub_ [(0, 0), (1, 1)]⟩
      ·refine go_ ?_
       refine ch_n fun hU => ?_
       exact ⟨false, hg, sub_ [(0, 0), (1, 1)]⟩
     ·rintro x47_3 hg
      replace hg : g_ref19_Valid.j3 n_2 i_2 x47_3 = some o2 := hg
      show awp _ _ _ _ (mk _ _ _)
      unfold g_ref19_Valid.j3 at hg
      refine cg_ rfl hg (fun h15 hg => ?_) fun h15 hg => ?_
      ·refine awp_region (sys _ _ []) 2 26 mk_U rfl rfl ?_
       refine go_ ?_
       refine ch_n fun hU => ?_
       exact ⟨W (n_2 + 1), hg, sub_ [(0, 0), (1, 1)]⟩
      ·refine awp_skip ?_
       repeat first | refine st_ ?_ | refine sn_ ?_
       exact ⟨n_2, hg, sub_ [(0, 0), (1, 1)]⟩
    ·rintro n_4 hg
     replace hg : g_ref19_Valid.j4 i_2 n_4 = some o2 := hg
     show awp _ _ _ _ (mk _ _ _)
     unfold g_ref19_Valid.j4 at hg
     refine awp_region (sys _ _ []) 2 26 mk_U rfl rfl ?_
     refine go_ ?_
     refine ch_n fun hU => ?_
     obtain rfl := Option.some.inj hg
     exact ⟨((n_4, W (i_2 + 1)), m2), Nat.lt_succ_self _, hn2, sub_ [(0, 0), (1, 1)]⟩
   ·refine awp_exit ?_
    repeat first | refine st_ ?_ | refine sn_ ?_
    replace hg := leave hg hn2
    refine sr_ 42 82 hU ?_
    refine go_ ?_
    refine ch_n fun hU => ?_
    refine aw_r ?_
    obtain rfl := Option.some.inj hg
    exact fin_ [] ⟨rfl, rfl⟩
theorem w_ref19_Covers (x' : api_Exception) (u : api_Use) (purpose : Int) (endpoint : ByteArray) (day : Int) (r : Bool) (hg : g_ref19_Covers x' u purpose endpoint day = some r) : Fn Tryz.prog 39 0 [.agg (api_Exception.dv x'), .agg [.val (.int .i64 u.Alg), .val (.int .i64 u.Bits)], .val (.int .i64 purpose), .val (.string endpoint), .val (.int .i64 day)] [] (fun d' b' => d' = .val (.bool r) ∧ b' = []) := by
 unfold g_ref19_Covers at hg
 refine Fn.of Tryz.func39 rfl rfl rfl fun w0 I ρ0 => ?_
 show awp _ ⟨w0, I, ρ0, 0, 0, 41, none⟩ _ _ _
 refine sr_ 0 24 mk_U ?_
 refine go_ ?_
 refine ch_n fun hU => ?_
 refine sr_ 24 272 hU ?_
 refine go_ ?_
 refine c0_ rfl rfl (steq36_eql x'.Use u) rfl rfl ?_
 refine go_ ?_
 rcases bc_ hg with ⟨h2, hg⟩ | ⟨h2, hg⟩
 ·refine go_ ?_
  rcases bc_ hg with ⟨h3, hg⟩ | ⟨h3, hg⟩
  ·refine go_ ?_
   rcases bc_ hg with ⟨h4, hg⟩ | ⟨h4, hg⟩
   ·refine go_ ?_
    rcases bc_ hg with ⟨h5, hg⟩ | ⟨h5, hg⟩
    ·refine go_ ?_
     refine ch_n fun hU => ?_
     refine aw_r ?_
     obtain rfl := Option.some.inj hg
     exact fin_ [] ⟨rfl, rfl⟩
    ·refine go_ ?_
     refine ch_n fun hU => ?_
     refine aw_r ?_
     obtain rfl := Option.some.inj hg
     exact fin_ [] ⟨rfl, rfl⟩
   ·refine go_ ?_
    refine ch_n fun hU => ?_
    refine aw_r ?_
    obtain rfl := Option.some.inj hg
    exact fin_ [] ⟨rfl, rfl⟩
  ·refine go_ ?_
   refine ch_n fun hU => ?_
   refine aw_r ?_
   obtain rfl := Option.some.inj hg
   exact fin_ [] ⟨rfl, rfl⟩
 ·refine go_ ?_
  refine ch_n fun hU => ?_
  refine aw_r ?_
  obtain rfl := Option.some.inj hg
  exact fin_ [] ⟨rfl, rfl⟩
theorem w_ref19_covered (l : (List api_Exception)) (o : api_Owners) (u : api_Use) (purpose : Int) (endpoint : ByteArray) (day : Int) (r : Bool) (hg : g_ref19_covered l o u purpose endpoint day = some r) : Fn Tryz.prog 37 0 [.sl 7 (encL api_Exception.enc l), .agg [.sl 1 (encL eI o.Keys), .val (.int .i64 o.Need)], .agg [.val (.int .i64 u.Alg), .val (.int .i64 u.Bits)], .val (.int .i64 purpose), .val (.string endpoint), .val (.int .i64 day)] [] (fun d' b' => d' = .val (.bool r) ∧ b' = []) := by
 unfold g_ref19_covered at hg
 refine Fn.of Tryz.func37 rfl rfl rfl fun w0 I ρ0 => ?_
 show awp _ ⟨w0, I, ρ0, 0, 0, 37, none⟩ _ _ _
 refine sr_ 0 24 mk_U ?_
 refine go_ ?_
 refine ch_n fun hU => ?_
 refine awp_seq ?_
 refine sr_ 24 32 hU ?_
 refine go_ ?_
 refine ch_n fun hU => ?_
 refine awp_block ?_
 refine lp_ (fun (i_1 : Int) => mk [(0, .sl 7 (encL api_Exception.enc l)), (3, .val (.int .i64 purpose)), (4, .val (.string endpoint)), (5, .val (.int .i64 day)), (7, .ptr 0 0), (8, .ptr 1 0), (13, .val (.int .i64 i_1))] [(0, .box [.sl 1 (encL eI o.Keys), .val (.int .i64 o.Need)] 33), (1, .box [.val (.int .i64 u.Alg), .val (.int .i64 u.Bits)] 36)] 2) hg (sub_ [(0, 0), (1, 8)]) ?_
 rintro i_1 m1 o1 hg hn1
 replace hg : g_ref19_covered.l1 l o u purpose endpoint day i_1 = some o1 := hg
 show awp _ _ _ _ (mk _ _ _)
 unfold g_ref19_covered.l1 at hg
 refine awp_seq ?_
 refine sr_ 2 34 mk_U ?_
 refine go_ ?_
 refine ch_n fun hU => ?_
 refine cg_ rfl hg (fun h4 hg => ?_) fun h4 hg => ?_
 ·refine awp_skip ?_
  repeat first | refine st_ ?_ | refine sn_ ?_
  refine awp_seq ?_
  refine awp_block ?_
  refine awp_cut (ι := Bool) (fun (x36_2 : Bool) => mk [(0, .sl 7 (encL api_Exception.enc l)), (3, .val (.int .i64 purpose)), (4, .val (.string endpoint)), (5, .val (.int .i64 day)), (7, .ptr 0 0), (8, .ptr 1 0), (13, .val (.int .i64 i_1)), (36, .val (.bool x36_2))] [(0, .box [.sl 1 (encL eI o.Keys), .val (.int .i64 o.Need)] 33), (1, .box [.val (.int .i64 u.Alg), .val (.int .i64 u.Bits)] 36)] 2) (fun (x36_2 : Bool) => g_ref19_covered.j2 i_1 x36_2 = some o1) ?_ ?_
  ·refine awp_draw (sys _ _ []) (by kernel_rfl) [0, 0, 3, 7, 0, 31, 63, 127, 127, 511, 1023, 127, 127, 127, 127, 32767, 65535] 34 170 hU rfl rfl (by kernel_rfl) ?_
   refine go_ ?_
   obtain ⟨e, he, hg⟩ := bind_some hg
   refine go_ ?_
   refine c0_ rfl rfl (r_loadEA ty52 (enc_cells api_Exception.enc_len (getI_at he) (o := 0) (m := 7) (cs := [.int .i64 e.Use.Alg, .int .i64 e.Use.Bits, .int .i64 e.Purpose, .str e.Endpoint, .int .i64 e.Days.From, .int .i64 e.Days.To, .sl 2 (encL api_Seal.enc e.Seals)]) rfl (by decide) rfl) (enc_cells_le api_Exception.enc_len (getI_at he) (o := 0) (m := 7) (by decide) rfl)) rfl rfl ?_
   refine go_ ?_
   obtain ⟨y, hy, hg⟩ := bind_some hg
   refine ca_ (w_ref19_Valid _ _ _ hy) ?_
   refine go_ ?_
   rcases bc_ hg with ⟨h5, hg⟩ | ⟨h5, hg⟩
   ·refine go_ ?_
    refine c0_ (gdv_t rfl rfl h5) rfl (r_loadEA ty52 (enc_cells api_Exception.enc_len (getI_at he) (o := 0) (m := 7) (cs := [.int .i64 e.Use.Alg, .int .i64 e.Use.Bits, .int .i64 e.Purpose, .str e.Endpoint, .int .i64 e.Days.From, .int .i64 e.Days.To, .sl 2 (encL api_Seal.enc e.Seals)]) rfl (by decide) rfl) (enc_cells_le api_Exception.enc_len (getI_at he) (o := 0) (m := 7) (by decide) rfl)) rfl rfl ?_
    refine go_ ?_
    obtain ⟨y_2, hy_2, hg⟩ := bind_some hg
    refine ca_ (w_ref19_Covers _ _ _ _ _ _ hy_2) ?_
    refine go_ ?_
    refine ch_n fun hU => ?_
    exact ⟨y_2, hg, sub_ [(0, 0), (1, 1)]⟩
   ·refine go_ ?_
    refine ch_n fun hU => ?_
    exact ⟨false, hg, sub_ [(0, 0), (1, 1)]⟩
  ·rintro x36_2 hg
   replace hg : g_ref19_covered.j2 i_1 x36_2 = some o1 := hg
   show awp _ _ _ _ (mk _ _ _)
   unfold g_ref19_covered.j2 at hg
   refine cg_ rfl hg (fun h8 hg => ?_) fun h8 hg => ?_
   ·refine awp_seq ?_
    refine awp_region (sys _ _ []) 2 10 mk_U rfl rfl ?_
    refine go_ ?_
    refine ch_n fun hU => ?_
    refine aw_r ?_
    replace hg := leave hg hn1
    obtain rfl := Option.some.inj hg
    exact fin_ [] ⟨rfl, rfl⟩
   ·refine awp_skip ?_
    repeat first | refine st_ ?_ | refine sn_ ?_
    refine awp_region (sys _ _ []) 2 26 mk_U rfl rfl ?_
    refine go_ ?_
    refine ch_n fun hU => ?_
    obtain rfl := Option.some.inj hg
    exact ⟨(W (i_1 + 1), m1), Nat.lt_succ_self _, hn1, sub_ [(0, 0), (1, 1)]⟩
 ·refine awp_exit ?_
  repeat first | refine st_ ?_ | refine sn_ ?_
  replace hg := leave hg hn1
  refine sr_ 34 42 hU ?_
  refine go_ ?_
  refine ch_n fun hU => ?_
  refine aw_r ?_
  obtain rfl := Option.some.inj hg
  exact fin_ [] ⟨rfl, rfl⟩
theorem w_ref19_Allowed (p : api_Policy) (l : (List api_Exception)) (o : api_Owners) (u : api_Use) (purpose : Int) (endpoint : ByteArray) (day : Int) (r : Bool × Int) (hg : g_ref19_Allowed p l o u purpose endpoint day = some r) : Fn Tryz.prog 17 0 [.agg [.sl 6 (encL api_Rule.enc p.Rules), .sl 2 (encL api_Keep.enc p.Keeps)], .sl 7 (encL api_Exception.enc l), .agg [.sl 1 (encL eI o.Keys), .val (.int .i64 o.Need)], .agg [.val (.int .i64 u.Alg), .val (.int .i64 u.Bits)], .val (.int .i64 purpose), .val (.string endpoint), .val (.int .i64 day)] [] (fun d' b' => d' = .tup [.val (.bool r.1), .val (.int .i64 r.2)] ∧ b' = []) := by
 unfold g_ref19_Allowed at hg
 refine Fn.of Tryz.func17 rfl rfl rfl fun w0 I ρ0 => ?_
 show awp _ ⟨w0, I, ρ0, 0, 0, 47, none⟩ _ _ _
 refine sr_ 0 40 mk_U ?_
 refine go_ ?_
 refine ch_n fun hU => ?_
 refine sr_ 40 136 hU ?_
 refine go_ ?_
 obtain ⟨y, hy, hg⟩ := bind_some hg
 refine ca_ (w_ref18_Allowed _ _ _ _ _ hy) ?_
 refine go_ ?_
 refine ch_n fun hU => ?_
 refine awp_seq ?_
 refine sr_ 136 152 hU ?_
 refine go_ ?_
 refine ch_n fun hU => ?_
 refine cg_ rfl hg (fun h4 hg => ?_) fun h4 hg => ?_
 ·refine awp_seq ?_
  refine awp_region (sys _ _ []) 152 176 hU rfl rfl ?_
  refine go_ ?_
  refine ch_n fun hU => ?_
  refine aw_r ?_
  obtain rfl := Option.some.inj hg
  exact fin_ [] ⟨rfl, rfl⟩
 ·refine awp_skip ?_
  repeat first | refine st_ ?_ | refine sn_ ?_
  refine awp_seq ?_
  refine sr_ 152 176 hU ?_
  refine go_ ?_
  obtain ⟨y_2, hy_2, hg⟩ := bind_some hg
  refine ca_ (w_ref19_All _ _ hy_2) ?_
  refine go_ ?_
  refine ch_n fun hU => ?_
  refine sr_ 176 192 hU ?_
  refine go_ ?_
  refine ch_n fun hU => ?_
  refine cg_ rfl hg (fun h8 hg => ?_) fun h8 hg => ?_
  ·refine awp_seq ?_
   refine awp_region (sys _ _ []) 192 216 hU rfl rfl ?_
   refine go_ ?_
   refine ch_n fun hU => ?_
   refine aw_r ?_
   obtain rfl := Option.some.inj hg
   exact fin_ [] ⟨rfl, rfl⟩
  ·refine awp_skip ?_
   repeat first | refine st_ ?_ | refine sn_ ?_
   refine sr_ 192 288 hU ?_
   refine go_ ?_
   rcases bc_ hg with ⟨h10, hg⟩ | ⟨h10, hg⟩
   ·refine go_ ?_
    refine ch_n fun hU => ?_
    refine aw_r ?_
    obtain rfl := Option.some.inj hg
    exact fin_ [] ⟨rfl, rfl⟩
   ·refine go_ ?_
    obtain ⟨y_3, hy_3, hg⟩ := bind_some hg
    refine ca_ (w_ref19_covered _ _ _ _ _ _ _ hy_3) ?_
    refine go_ ?_
    refine ch_n fun hU => ?_
    refine aw_r ?_
    obtain rfl := Option.some.inj hg
    exact fin_ [] ⟨rfl, rfl⟩
theorem w_exception_Ends (l : (List api_Exception)) (o : api_Owners) (u : api_Use) (purpose : Int) (endpoint : ByteArray) (day : Int) (r : Int × Bool) (hg : g_exception_Ends l o u purpose endpoint day = some r) : Fn Tryz.prog 18 0 [.sl 7 (encL api_Exception.enc l), .agg [.sl 1 (encL eI o.Keys), .val (.int .i64 o.Need)], .agg [.val (.int .i64 u.Alg), .val (.int .i64 u.Bits)], .val (.int .i64 purpose), .val (.string endpoint), .val (.int .i64 day)] [] (fun d' b' => d' = .tup [.val (.int .i64 r.1), .val (.bool r.2)] ∧ b' = []) := by
 unfold g_exception_Ends at hg
 refine Fn.of Tryz.func18 rfl rfl rfl fun w0 I ρ0 => ?_
 show awp _ ⟨w0, I, ρ0, 0, 0, 41, none⟩ _ _ _
 refine sr_ 0 32 mk_U ?_
 refine go_ ?_
 refine ch_n fun hU => ?_
 refine sr_ 32 128 hU ?_
 refine go_ ?_
 obtain ⟨y, hy, hg⟩ := bind_some hg
 refine ca_ (w_exception_ends _ _ _ _ _ _ _ hy) ?_
 refine go_ ?_
 refine ch_n fun hU => ?_
 refine awp_seq ?_
 refine sr_ 128 144 hU ?_
 refine go_ ?_
 refine ch_n fun hU => ?_
 refine cg_ rfl hg (fun h4 hg => ?_) fun h4 hg => ?_
 ·refine awp_seq ?_
  refine awp_region (sys _ _ []) 144 160 hU rfl rfl ?_
  refine go_ ?_
  refine ch_n fun hU => ?_
  refine aw_r ?_
  obtain rfl := Option.some.inj hg
  exact fin_ [] ⟨rfl, rfl⟩
 ·refine awp_skip ?_
  repeat first | refine st_ ?_ | refine sn_ ?_
  refine awp_seq ?_
  refine awp_block ?_
  refine lp_ (fun ((day_1, most_1, some_1) : Int × Int × Bool) => mk [(0, .sl 7 (encL api_Exception.enc l)), (3, .val (.int .i64 purpose)), (4, .val (.string endpoint)), (5, .val (.int .i64 day_1)), (7, .ptr 0 0), (8, .ptr 1 0), (14, .val (.int .i64 most_1)), (15, .val (.bool some_1))] [(0, .box [.sl 1 (encL eI o.Keys), .val (.int .i64 o.Need)] 33), (1, .box [.val (.int .i64 u.Alg), .val (.int .i64 u.Bits)] 36)] 2) hg (sub_ [(0, 0), (1, 8)]) ?_
  rintro ⟨day_1, most_1, some_1⟩ m1 o1 hg hn1
  replace hg : g_exception_Ends.l1 l o u purpose endpoint day_1 most_1 some_1 = some o1 := hg
  show awp _ _ _ _ (mk _ _ _)
  unfold g_exception_Ends.l1 at hg
  refine awp_seq ?_
  refine sr_ 2 10 mk_U ?_
  refine go_ ?_
  refine ch_n fun hU => ?_
  refine cg_ rfl hg (fun h7 hg => ?_) fun h7 hg => ?_
  ·refine awp_skip ?_
   repeat first | refine st_ ?_ | refine sn_ ?_
   refine awp_block ?_
   refine sr_ 10 26 hU ?_
   refine go_ ?_
   refine ch_n fun hU => ?_
   refine awp_region (sys _ _ []) 26 122 hU rfl rfl ?_
   refine go_ ?_
   obtain ⟨y_2, hy_2, hg⟩ := bind_some hg
   refine ca_ (w_exception_ends _ _ _ _ _ _ _ hy_2) ?_
   refine go_ ?_
   refine ch_n fun hU => ?_
   obtain rfl := Option.some.inj hg
   exact ⟨((most_1, y_2.1, y_2.2), m1), Nat.lt_succ_self _, hn1, sub_ [(0, 0), (1, 1)]⟩
  ·refine awp_exit ?_
   repeat first | refine st_ ?_ | refine sn_ ?_
   replace hg := leave hg hn1
   refine sr_ 10 34 hU ?_
   refine go_ ?_
   refine ch_n fun hU => ?_
   refine aw_r ?_
   obtain rfl := Option.some.inj hg
   exact fin_ [] ⟨rfl, rfl⟩
theorem w_ref19_Ends (l : (List api_Exception)) (o : api_Owners) (u : api_Use) (purpose : Int) (endpoint : ByteArray) (day : Int) (r : Int × Bool) (hg : g_ref19_Ends l o u purpose endpoint day = some r) : Fn Tryz.prog 19 0 [.sl 7 (encL api_Exception.enc l), .agg [.sl 1 (encL eI o.Keys), .val (.int .i64 o.Need)], .agg [.val (.int .i64 u.Alg), .val (.int .i64 u.Bits)], .val (.int .i64 purpose), .val (.string endpoint), .val (.int .i64 day)] [] (fun d' b' => d' = .tup [.val (.int .i64 r.1), .val (.bool r.2)] ∧ b' = []) := by
 unfold g_ref19_Ends at hg
 refine Fn.of Tryz.func19 rfl rfl rfl fun w0 I ρ0 => ?_
 show awp _ ⟨w0, I, ρ0, 0, 0, 65, none⟩ _ _ _
 refine sr_ 0 32 mk_U ?_
 refine go_ ?_
 refine ch_n fun hU => ?_
 refine awp_seq ?_
 refine sr_ 32 96 hU ?_
 refine go_ ?_
 obtain ⟨y, hy, hg⟩ := bind_some hg
 refine ca_ (w_ref19_covered _ _ _ _ _ _ _ hy) ?_
 refine go_ ?_
 refine ch_n fun hU => ?_
 refine cg_ rfl hg (fun h3 hg => ?_) fun h3 hg => ?_
 ·refine awp_seq ?_
  refine awp_region (sys _ _ []) 96 112 hU rfl rfl ?_
  refine go_ ?_
  refine ch_n fun hU => ?_
  refine aw_r ?_
  obtain rfl := Option.some.inj hg
  exact fin_ [] ⟨rfl, rfl⟩
 ·refine awp_skip ?_
  repeat first | refine st_ ?_ | refine sn_ ?_
  refine awp_seq ?_
  refine awp_block ?_
  refine lp_ (fun (day_1 : Int) => mk [(0, .sl 7 (encL api_Exception.enc l)), (3, .val (.int .i64 purpose)), (4, .val (.string endpoint)), (5, .val (.int .i64 day_1)), (7, .ptr 0 0), (8, .ptr 1 0)] [(0, .box [.sl 1 (encL eI o.Keys), .val (.int .i64 o.Need)] 33), (1, .box [.val (.int .i64 u.Alg), .val (.int .i64 u.Bits)] 36)] 2) hg (sub_ [(0, 0), (1, 8)]) ?_
  rintro day_1 m1 o1 hg hn1
  replace hg : g_ref19_Ends.l1 l o u purpose endpoint day_1 = some o1 := hg
  show awp _ _ _ _ (mk _ _ _)
  unfold g_ref19_Ends.l1 at hg
  refine awp_seq ?_
  refine sr_ 2 58 mk_U ?_
  refine go_ ?_
  obtain ⟨y_2, hy_2, hg⟩ := bind_some hg
  refine ca_ (w_ref19_covered _ _ _ _ _ _ _ hy_2) ?_
  refine ch_n fun hU => ?_
  refine cg_ rfl hg (fun h6 hg => ?_) fun h6 hg => ?_
  ·refine awp_skip ?_
   repeat first | refine st_ ?_ | refine sn_ ?_
   refine awp_block ?_
   refine sr_ 58 74 hU ?_
   refine go_ ?_
   refine ch_n fun hU => ?_
   refine awp_seq ?_
   refine sr_ 74 82 hU ?_
   refine go_ ?_
   refine ch_n fun hU => ?_
   refine awp_block ?_
   refine lp_ (fun ((next_2, i_2) : Int × Int) => mk [(0, .sl 7 (encL api_Exception.enc l)), (3, .val (.int .i64 purpose)), (4, .val (.string endpoint)), (5, .val (.int .i64 day_1)), (7, .ptr 0 0), (8, .ptr 1 0), (14, .val (.int .i64 next_2)), (15, .val (.int .i64 i_2))] [(0, .box [.sl 1 (encL eI o.Keys), .val (.int .i64 o.Need)] 33), (1, .box [.val (.int .i64 u.Alg), .val (.int .i64 u.Bits)] 36)] 2) hg (sub_ [(0, 0), (1, 1)]) ?_
   rintro ⟨next_2, i_2⟩ m2 o2 hg hn2
   replace hg : g_ref19_Ends.l2 l o u purpose endpoint day_1 next_2 i_2 = some o2 := hg
   show awp _ _ _ _ (mk _ _ _)
   unfold g_ref19_Ends.l2 at hg
   refine awp_seq ?_
   refine sr_ 2 34 mk_U ?_
   refine go_ ?_
   refine ch_n fun hU => ?_
   refine cg_ rfl hg (fun h10 hg => ?_) fun h10 hg => ?_
   ·refine awp_skip ?_
    repeat first | refine st_ ?_ | refine sn_ ?_
    refine awp_cut (ι := Int) (fun (next_4 : Int) => mk [(0, .sl 7 (encL api_Exception.enc l)), (3, .val (.int .i64 purpose)), (4, .val (.string endpoint)), (5, .val (.int .i64 day_1)), (7, .ptr 0 0), (8, .ptr 1 0), (14, .val (.int .i64 next_4)), (15, .val (.int .i64 i_2))] [(0, .box [.sl 1 (encL eI o.Keys), .val (.int .i64 o.Need)] 33), (1, .box [.val (.int .i64 u.Alg), .val (.int .i64 u.Bits)] 36)] 2) (fun (next_4 : Int) => g_ref19_Ends.j4 i_2 next_4 = some o2) ?_ ?_
    ·refine awp_block ?_
     refine awp_cut (ι := Bool) (fun (x54_3 : Bool) => mk [(0, .sl 7 (encL api_Exception.enc l)), (3, .val (.int .i64 purpose)), (4, .val (.string endpoint)), (5, .val (.int .i64 day_1)), (7, .ptr 0 0), (8, .ptr 1 0), (14, .val (.int .i64 next_2)), (15, .val (.int .i64 i_2)), (54, .val (.bool x54_3))] [(0, .box [.sl 1 (encL eI o.Keys), .val (.int .i64 o.Need)] 33), (1, .box [.val (.int .i64 u.Alg), .val (.int .i64 u.Bits)] 36)] 2) (fun (x54_3 : Bool) => g_ref19_Ends.j3 l next_2 i_2 x54_3 = some o2) ?_ ?_
     ·refine awp_draw (sys _ _ []) (by kernel_rfl) [0, 0, 3, 7, 0, 31, 63, 127, 127, 511, 1023, 127, 127, 127, 127, 32767, 65535] 34 170 hU rfl rfl (by kernel_rfl) ?_
      refine go_ ?_
      obtain ⟨e, he, hg⟩ := bind_some hg
      refine go_ ?_
      refine c0_ rfl rfl (r_loadEA ty52 (enc_cells api_Exception.enc_len (getI_at he) (o := 0) (m := 7) (cs := [.int .i64 e.Use.Alg, .int .i64 e.Use.Bits, .int .i64 e.Purpose, .str e.Endpoint, .int .i64 e.Days.From, .int .i64 e.Days.To, .sl 2 (encL api_Seal.enc e.Seals)]) rfl (by decide) rfl) (enc_cells_le api_Exception.enc_len (getI_at he) (o := 0) (m := 7) (by decide) rfl)) rfl rfl ?_
      refine go_ ?_
      obtain ⟨y_3, hy_3, hg⟩ := bind_some hg
      refine ca_ (w_ref19_Valid _ _ _ hy_3) ?_
      refine go_ ?_
      rcases bc_ hg with ⟨h11, hg⟩ | ⟨h11, hg⟩
      ·refine go_ ?_
       refine c0_ (gdv_t rfl rfl h11) rfl (r_loadEA ty52 (enc_cells api_Exception.enc_len (getI_at he) (o := 0) (m := 7) (cs := [.int .i64 e.Use.Alg, .int .i64 e.Use.Bits, .int .i64 e.Purpose, .str e.Endpoint, .int .i64 e.Days.From, .int .i64 e.Days.To, .sl 2 (encL api_Seal.enc e.Seals)]) rfl (by decide) rfl) (enc_cells_le api_Exception.enc_len (getI_at he) (o := 0) (m := 7) (by decide) rfl)) rfl rfl ?_
       refine go_ ?_
       obtain ⟨y_4, hy_4, hg⟩ := bind_some hg
       refine ca_ (w_ref19_Covers _ _ _ _ _ _ hy_4) ?_
       refine go_ ?_
       refine ch_n fun hU => ?_
       exact ⟨y_4, hg, sub_ [(0, 0), (1, 1)]⟩
      ·refine go_ ?_
       refine ch_n fun hU => ?_
       exact ⟨false, hg, sub_ [(0, 0), (1, 1)]⟩
     ·rintro x54_3 hg
      replace hg : g_ref19_Ends.j3 l next_2 i_2 x54_3 = some o2 := hg
      show awp _ _ _ _ (mk _ _ _)
      unfold g_ref19_Ends.j3 at hg
      refine cg_ rfl hg (fun h14 hg => ?_) fun h14 hg => ?_
      ·refine awp_region (sys _ _ []) 2 74 mk_U rfl rfl ?_
       refine go_ ?_
       obtain ⟨e_2, he_2, hg⟩ := bind_some hg
       refine go_ ?_
       refine c0_ rfl rfl (r_fieldE fd52_3 ty49 (by decide) (enc_lt api_Exception.enc_len (getI_at he_2) (o := 4) (by decide) rfl)) rfl rfl ?_
       refine c0_ rfl rfl (r_fieldE fd49_1 ty3 (by decide) (enc_lt api_Exception.enc_len (getI_at he_2) (o := 5) (by decide) rfl)) rfl rfl ?_
       refine c0_ rfl rfl (r_loadE1 ty3 (enc_cell api_Exception.enc_len (getI_at he_2) (o := 5) (c := .int .i64 e_2.Days.To) rfl rfl)) rfl rfl ?_
       refine c0_ rfl rfl r_max rfl rfl ?_
       refine go_ ?_
       refine ch_n fun hU => ?_
       exact ⟨max next_2 e_2.Days.To, hg, sub_ [(0, 0), (1, 1)]⟩
      ·refine awp_skip ?_
       repeat first | refine st_ ?_ | refine sn_ ?_
       exact ⟨next_2, hg, sub_ [(0, 0), (1, 1)]⟩
    ·rintro next_4 hg
     replace hg : g_ref19_Ends.j4 i_2 next_4 = some o2 := hg
     show awp _ _ _ _ (mk _ _ _)
     unfold g_ref19_Ends.j4 at hg
     refine awp_region (sys _ _ []) 2 26 mk_U rfl rfl ?_
     refine go_ ?_
     refine ch_n fun hU => ?_
     obtain rfl := Option.some.inj hg
     exact ⟨((next_4, W (i_2 + 1)), m2), Nat.lt_succ_self _, hn2, sub_ [(0, 0), (1, 1)]⟩
   ·refine awp_exit ?_
    repeat first | refine st_ ?_ | refine sn_ ?_
    replace hg := leave hg hn2
    refine awp_region (sys _ _ []) 34 50 hU rfl rfl ?_
    refine go_ ?_
    refine ch_n fun hU => ?_
    obtain rfl := Option.some.inj hg
    exact ⟨(next_2, m1), Nat.lt_succ_self _, hn1, sub_ [(0, 0), (1, 1)]⟩
  ·refine awp_exit ?_
   repeat first | refine st_ ?_ | refine sn_ ?_
   replace hg := leave hg hn1
   refine sr_ 58 82 hU ?_
   refine go_ ?_
   refine ch_n fun hU => ?_
   refine aw_r ?_
   obtain rfl := Option.some.inj hg
   exact fin_ [] ⟨rfl, rfl⟩
theorem w_law19_ExceptionAllows (l : (List Int)) (day : Int) (r : Bool) (hg : g_law19_ExceptionAllows l day = some r) : Fn Tryz.prog 4 0 [.sl 1 (encL eI l), .val (.int .i64 day)] [] (fun d' b' => d' = .val (.bool r) ∧ b' = []) := by
 unfold g_law19_ExceptionAllows at hg
 refine Fn.of Tryz.func4 rfl rfl rfl fun w0 I ρ0 => ?_
 show awp _ ⟨w0, I, ρ0, 0, 0, 129, none⟩ _ _ _
 refine sr_ 0 8 mk_U ?_
 refine go_ ?_
 refine ch_n fun hU => ?_
 refine awp_seq ?_
 refine sr_ 8 32 hU ?_
 refine go_ ?_
 obtain ⟨y, hy, hg⟩ := bind_some hg
 refine ca_ (w_make_Light _ _ hy) ?_
 refine go_ ?_
 refine ch_n fun hU => ?_
 refine cg_ rfl hg (fun h3 hg => ?_) fun h3 hg => ?_
 ·refine awp_seq ?_
  refine awp_region (sys _ _ []) 32 48 hU rfl rfl ?_
  obtain ⟨y_2, hy_2, hg⟩ := bind_some hg
  refine ca_ (w_law19_awake _ hy_2) ?_
  refine go_ ?_
  refine ch_n fun hU => ?_
  refine aw_r ?_
  obtain rfl := Option.some.inj hg
  exact fin_ [] ⟨rfl, rfl⟩
 ·refine awp_skip ?_
  repeat first | refine st_ ?_ | refine sn_ ?_
  refine sr_ 32 56 hU ?_
  refine go_ ?_
  obtain ⟨y_3, hy_3, hg⟩ := bind_some hg
  refine ch_call (rd := []) (ps := []) (gs := []) false rfl (w_make_Roll _ _ hy_3) rfl rfl (.cons .sl .nil) rfl rfl (by intro h; cases h) rfl (by intro h; first | (cases h; done) | exact ⟨_, _, ⟨rfl, rfl⟩, by simp, by simp⟩) ?_
  rintro _ _ ⟨rfl, rfl⟩
  refine go_ ?_
  refine ch_n fun hU => ?_
  refine sr_ 56 120 hU ?_
  refine go_ ?_
  obtain ⟨y_4, hy_4, hg⟩ := bind_some hg
  refine ch_call (rd := [40]) (ps := [40]) (gs := []) false rfl (w_make_Policy _ _ hy_4) rfl rfl (.cons (.ptr rfl) .nil) ⟨_, _, _, rfl, .head _, ⟨_, rfl, (by repeat' (first | exact AgL.nil | apply AgL.cons | exact Ag.val | exact Ag.sl | exact Ag.nils | exact Ag.ptr rfl | exact Ag.rowK rfl))⟩, rfl⟩ rfl (by intro h; cases h) rfl (by intro h; first | (cases h; done) | exact ⟨_, _, ⟨rfl, rfl⟩, by simp, by simp⟩) ?_
  rintro _ _ ⟨rfl, rfl⟩
  refine go_ ?_
  obtain ⟨y_5, hy_5, hg⟩ := bind_some hg
  refine cb_ [40] [40] [] false (w_make_Owners _ _ hy_5) ?_
  refine go_ ?_
  refine ch_n fun hU => ?_
  refine sr_ 120 200 hU ?_
  refine c0_ rfl rfl (.build (r := [.val (.int .i64 1), .val (.int .i64 0)]) und36 pl36 z36 (by kernel_rfl) rfl) rfl rfl ?_
  refine c0_ rfl rfl (.build (r := [.val (.int .i64 5), .val (.int .i64 1024)]) und36 pl36 z36 (by kernel_rfl) rfl) rfl rfl ?_
  refine c0_ rfl rfl (.build (r := [.val (.int .i64 14), .val (.int .i64 128)]) und36 pl36 z36 (by kernel_rfl) rfl) rfl rfl ?_
  refine c0_ rfl rfl (r_buildFull sl41 z36 (by decide) rfl rfl rfl rfl ck36 (cs := [.int .i64 1, .int .i64 0, .int .i64 5, .int .i64 1024, .int .i64 14, .int .i64 128]) (.cons .int (.cons .int (.cons .int (.cons .int (.cons .int (.cons .int .nil)))))) rfl (l := ([(api_Use.mk 1 0), (api_Use.mk 5 1024), (api_Use.mk 14 128)] : List api_Use)) (f := api_Use.enc) rfl) rfl rfl ?_
  refine go_ ?_
  obtain ⟨y_6, hy_6, hg⟩ := bind_some hg
  refine cb_ [40] [40] [] false (w_make_Dice_Next _ _ _ hy_6) ?_
  obtain ⟨e, he, hg⟩ := bind_some hg
  refine go_ ?_
  refine ch_s (rd := [144]) rfl rfl (r_loadRA ty36 (enc_cells api_Use.enc_len (getI_at he) (o := 0) (m := 2) (cs := [.int .i64 e.Alg, .int .i64 e.Bits]) rfl (by decide) rfl) (enc_cells_le api_Use.enc_len (getI_at he) (o := 0) (m := 2) (by decide) rfl)) rfl rfl ?_
  refine go_ ?_
  refine ch_n fun hU => ?_
  refine sr_ 200 232 hU ?_
  refine go_ ?_
  obtain ⟨y_7, hy_7, hg⟩ := bind_some hg
  refine cb_ [40] [40] [] false (w_law19_list _ _ _ _ hy_7) ?_
  refine go_ ?_
  refine ch_n fun hU => ?_
  refine awp_seq ?_
  refine awp_region (sys _ _ [240, 264, 288]) 232 328 hU rfl rfl ?_
  refine go_ ?_
  refine ch_z (rd := []) rfl rfl (r_buildFull sl22 z3 (by decide) rfl rfl rfl rfl ck3 (cs := [.int .i64 10, .int .i64 35, .int .i64 0, .int .i64 12, .int .i64 100]) (.cons .int (.cons .int (.cons .int (.cons .int (.cons .int .nil))))) rfl (l := ([10, 35, 0, 12, 100] : List Int)) (f := eI) rfl) rfl rfl rfl ?_
  obtain ⟨y_8, hy_8, hg⟩ := bind_some hg
  refine cb_ [40] [40] [] false (w_make_Dice_Of _ _ _ hy_8) ?_
  refine go_ ?_
  refine ch_z (rd := []) rfl rfl (r_buildFull sl22 z3 (by decide) rfl rfl rfl rfl ck3 (cs := [.int .i64 1, .int .i64 1, .int .i64 2, .int .i64 3]) (.cons .int (.cons .int (.cons .int (.cons .int .nil)))) rfl (l := ([1, 1, 2, 3] : List Int)) (f := eI) rfl) rfl rfl rfl ?_
  obtain ⟨y_9, hy_9, hg⟩ := bind_some hg
  refine cb_ [40] [40] [] false (w_make_Dice_Of _ _ _ hy_9) ?_
  refine go_ ?_
  refine ch_z (rd := []) rfl rfl (r_buildFull sl42 z9 (by decide) rfl rfl rfl rfl ck9 (cs := [.str (⟨#[119, 101, 98]⟩ : ByteArray), .str (⟨#[100, 98]⟩ : ByteArray)]) (.cons .str (.cons .str .nil)) rfl (l := ([(⟨#[119, 101, 98]⟩ : ByteArray), (⟨#[100, 98]⟩ : ByteArray)] : List ByteArray)) (f := eS) rfl) rfl rfl rfl ?_
  obtain ⟨y_10, hy_10, hg⟩ := bind_some hg
  refine cb_ [40] [40] [] false (w_make_Dice_Word _ _ _ hy_10) ?_
  refine go_ ?_
  refine ch_n fun hU => ?_
  refine awp_cut (ι := Int × Int × List api_Rule) (fun ((t_1, purpose_1, l_1) : Int × Int × List api_Rule) => mk [(6, .ptr 0 0), (7, .ptr 1 0), (8, .ptr 2 0), (9, .sl 7 (encL api_Exception.enc y_7.1)), (10, .val (.int .i64 t_1)), (11, .val (.int .i64 purpose_1)), (12, .val (.string y_10.1))] [(0, .box [.row 3, .sl 2 (encL api_Keep.enc y_4.1.Keeps)] 30), (1, .box [.sl 1 (encL eI y_5.1.Keys), .val (.int .i64 y_5.1.Need)] 33), (2, .box [.val (.int .i64 e.Alg), .val (.int .i64 e.Bits)] 36), (3, .row 57 6 (encL api_Rule.enc l_1))] 4) (fun ((t_1, purpose_1, l_1) : Int × Int × List api_Rule) => g_law19_ExceptionAllows.j1 y_4 y_5 e y_7 y_10 t_1 purpose_1 l_1 = some r) ?_ ?_
  ·refine awp_seq ?_
   refine awp_region (sys _ _ []) 328 344 hU rfl rfl ?_
   refine go_ ?_
   obtain ⟨y_11, hy_11, hg⟩ := bind_some hg
   refine cb_ [40] [40] [] false (w_make_Dice_Next _ _ _ hy_11) ?_
   refine ch_n fun hU => ?_
   refine awp_block ?_
   refine sr_ 344 360 hU ?_
   refine go_ ?_
   refine ch_n fun hU => ?_
   refine cg_ rfl hg (fun h12 hg => ?_) fun h12 hg => ?_
   ·refine awp_region (sys _ _ []) 360 376 hU rfl rfl ?_
    refine go_ ?_
    refine ch_n fun hU => ?_
    exact ⟨(day, y_9.1, y_4.1.Rules), hg, sub_ [(0, 88), (1, 96), (2, 184), (3, 64)]⟩
   ·refine awp_seq ?_
    refine awp_region (sys _ _ []) 360 376 hU rfl rfl ?_
    refine go_ ?_
    refine ch_n fun hU => ?_
    refine cg_ rfl hg (fun h15 hg => ?_) fun h15 hg => ?_
    ·refine awp_region (sys _ _ []) 376 384 hU rfl rfl ?_
     refine go_ ?_
     refine ch_n fun hU => ?_
     exact ⟨(y_8.1, 0, y_4.1.Rules), hg, sub_ [(0, 88), (1, 96), (2, 184), (3, 64)]⟩
    ·refine awp_seq ?_
     refine awp_region (sys _ _ []) 376 392 hU rfl rfl ?_
     refine go_ ?_
     refine ch_n fun hU => ?_
     refine cg_ rfl hg (fun h18 hg => ?_) fun h18 hg => ?_
     ·refine awp_region (sys _ _ []) 392 448 hU rfl rfl ?_
      refine go_ ?_
      refine c0_ rfl rfl (.build (r := [.val (.bool false), .val (.int .i64 77), .val (.int .i64 0), .val (.int .i64 0), .val (.int .i64 0), .val (.int .i64 0)]) und57 pl57 z57 (by kernel_rfl) rfl) rfl rfl ?_
      refine c0_ rfl rfl (r_buildFull sl27 z57 (by decide) rfl rfl rfl rfl ck57 (cs := [.bool false, .int .i64 77, .int .i64 0, .int .i64 0, .int .i64 0, .int .i64 0]) (.cons .bool (.cons .int (.cons .int (.cons .int (.cons .int (.cons .int .nil)))))) rfl (l := ([(api_Rule.mk false 77 0 0 0 0)] : List api_Rule)) (f := api_Rule.enc) rfl) rfl rfl ?_
      obtain ⟨l_2, hl_2, hg⟩ := bind_some hg
      refine ch_s (rd := [64, 416]) rfl rfl (r_append sl27 api_Rule.enc_len .row rfl .row rfl hl_2 rfl) rfl rfl ?_
      refine go_ ?_
      refine ch_n fun hU => ?_
      exact ⟨(y_8.1, y_9.1, l_2), hg, sub_ [(0, 88), (1, 96), (2, 184), (3, 424)]⟩
     ·refine awp_skip ?_
      repeat first | refine st_ ?_ | refine sn_ ?_
      exact ⟨(y_8.1, y_9.1, y_4.1.Rules), hg, sub_ [(0, 88), (1, 96), (2, 184), (3, 64)]⟩
  ·rintro ⟨t_1, purpose_1, l_1⟩ hg
   replace hg : g_law19_ExceptionAllows.j1 y_4 y_5 e y_7 y_10 t_1 purpose_1 l_1 = some r := hg
   show awp _ _ _ _ (mk _ _ _)
   unfold g_law19_ExceptionAllows.j1 at hg
   refine sr_ 4 108 mk_U ?_
   refine go_ ?_
   obtain ⟨y_12, hy_12, hg⟩ := bind_some hg
   refine cb_ [3] [] [] true (w_exception_Allowed _ _ _ _ _ _ _ _ hy_12) ?_
   refine go_ ?_
   refine ch_n fun hU => ?_
   refine sr_ 108 212 hU ?_
   refine go_ ?_
   obtain ⟨y_13, hy_13, hg⟩ := bind_some hg
   refine cb_ [3] [] [] true (w_ref19_Allowed _ _ _ _ _ _ _ _ hy_13) ?_
   refine go_ ?_
   refine ch_n fun hU => ?_
   refine sr_ 212 308 hU ?_
   refine go_ ?_
   obtain ⟨y_14, hy_14, hg⟩ := bind_some hg
   refine ca_ (w_exception_Ends _ _ _ _ _ _ _ hy_14) ?_
   refine go_ ?_
   refine ch_n fun hU => ?_
   refine sr_ 308 404 hU ?_
   refine go_ ?_
   obtain ⟨y_15, hy_15, hg⟩ := bind_some hg
   refine ca_ (w_ref19_Ends _ _ _ _ _ _ _ hy_15) ?_
   refine go_ ?_
   refine ch_n fun hU => ?_
   refine sr_ 404 580 hU ?_
   refine go_ ?_
   refine c0_ rfl rfl (r_beql und4) rfl rfl ?_
   refine go_ ?_
   rcases bc_ hg with ⟨h24, hg⟩ | ⟨h24, hg⟩
   ·refine go_ ?_
    rcases bc_ hg with ⟨h25, hg⟩ | ⟨h25, hg⟩
    ·refine go_ ?_
     rcases bc_ hg with ⟨h26, hg⟩ | ⟨h26, hg⟩
     ·refine go_ ?_
      refine c0_ (gdv_t rfl rfl h26) rfl (r_beql und4) rfl rfl ?_
      refine go_ ?_
      rcases bc_ hg with ⟨h27, hg⟩ | ⟨h27, hg⟩
      ·obtain ⟨y_16, hy_16, hg⟩ := bind_some hg
       refine ca_ (w_law19_awake _ hy_16) ?_
       refine go_ ?_
       refine ch_n fun hU => ?_
       refine aw_r ?_
       obtain rfl := Option.some.inj hg
       exact fin_ [] ⟨rfl, rfl⟩
      ·refine go_ ?_
       refine ch_n fun hU => ?_
       refine aw_r ?_
       obtain rfl := Option.some.inj hg
       exact fin_ [] ⟨rfl, rfl⟩
     ·refine go_ ?_
      refine ch_n fun hU => ?_
      refine aw_r ?_
      obtain rfl := Option.some.inj hg
      exact fin_ [] ⟨rfl, rfl⟩
    ·refine go_ ?_
     refine ch_n fun hU => ?_
     refine aw_r ?_
     obtain rfl := Option.some.inj hg
     exact fin_ [] ⟨rfl, rfl⟩
   ·refine go_ ?_
    refine ch_n fun hU => ?_
    refine aw_r ?_
    obtain rfl := Option.some.inj hg
    exact fin_ [] ⟨rfl, rfl⟩
end Go.Proofs.YtmbhoimeiahbaaaGreat
