/- The program computes the plain functions. -/
import Derived.Test.YtggimglopfdhiaaT1
import Derived.Test.YtggimglopfdhiaaA2
set_option linter.unusedVariables false
set_option linter.unusedSimpArgs false
set_option maxRecDepth 100000
set_option maxHeartbeats 1600000
namespace Go.Proofs.Ytggimglopfdhiaa
open Go.RowKit
theorem w_catalog_of (alg : Int) (r : catalog_row × Bool) (hg : g_catalog_of alg = some r) : Fn Try.prog 87 0 [.val (.int .i64 alg)] [] (fun d b => d = .tup [.agg (catalog_row.dv r.1), .val (.bool r.2)] ∧ b = []) := by
 unfold g_catalog_of at hg
 refine Fn.of Try.func87 rfl rfl rfl fun w0 I ρ0 => ?_
 show awp _ ⟨w0, I, ρ0, 0, 0, 14⟩ _ _ _
 refine sr_ 0 16 mk_U ?_
 refine go_ ?_
 refine ch_n fun hU => ?_
 refine awp_seq ?_
 refine awp_cut (ι := Bool) (fun (x9_1 : Bool) => mk [(0, .val (.int .i64 alg)), (2, .ptr 0 0), (9, .val (.bool x9_1))] [(0, .box [.val (.string (⟨#[]⟩ : ByteArray)), .val (.int .i64 0), .val (.int .i64 0), .val (.slice none 0 0), .val (.slice none 0 0)] 112)] 1) (fun (x9_1 : Bool) => g_catalog_of.j1 alg x9_1 = some r) ?_ ?_
 ·refine awp_region (sys _ _ []) 16 64 hU rfl rfl ?_
  refine go_ ?_
  rcases bc_ hg with ⟨h2, hg⟩ | ⟨h2, hg⟩
  ·refine go_ ?_
   refine ch_n fun hU => ?_
   exact ⟨true, hg, sub_ [(0, 0)]⟩
  ·refine go_ ?_
   refine ch_n fun hU => ?_
   exact ⟨decide (22 < alg), hg, sub_ [(0, 0)]⟩
 ·rintro x9_1 hg
  replace hg : g_catalog_of.j1 alg x9_1 = some r := hg
  show awp _ _ _ _ (mk _ _ _)
  unfold g_catalog_of.j1 at hg
  refine cg_ rfl hg (fun h5 hg => ?_) fun h5 hg => ?_
  ·refine awp_seq ?_
   refine awp_region (sys _ _ []) 1 25 mk_U rfl rfl ?_
   refine c0_ rfl rfl (.build (r := [.val (.string (⟨#[]⟩ : ByteArray)), .val (.int .i64 0), .val (.int .i64 0), .val (.slice none 0 0), .val (.slice none 0 0)]) und112 pl112 z112 (by kernel_rfl) rfl) rfl rfl ?_
   refine go_ ?_
   refine ch_n fun hU => ?_
   refine aw_r ?_
   obtain rfl := Option.some.inj hg
   exact fin_ [] ⟨rfl, rfl⟩
  ·refine awp_skip ?_
   repeat first | refine st_ ?_ | refine sn_ ?_
   refine sr_ 1 41 mk_U ?_
   obtain ⟨y, hy, hg⟩ := bind_some hg
   refine ca_ (w_catalog_rows _ hy) ?_
   refine go_ ?_
   obtain ⟨e, he, hg⟩ := bind_some hg
   refine c0_ rfl rfl (r_indexAA (f := catalog_row.enc) (L := (arrL 23 y)) und118 ty112 catalog_row.enc_len rfl rfl he (d2 := [.val (.string e.name), .val (.int .i64 e.kind), .val (.int .i64 e.way), .sl 1 (encL eI e.sizes), .sl 1 (encL eI e.strengths)]) rfl) rfl rfl ?_
   refine go_ ?_
   refine ch_n fun hU => ?_
   refine aw_r ?_
   obtain rfl := Option.some.inj hg
   exact fin_ [] ⟨rfl, rfl⟩
theorem w_catalog_modulus (bits : Int) (r : Int) (hg : g_catalog_modulus bits = some r) : Fn Try.prog 94 0 [.val (.int .i64 bits)] [] (fun d b => d = .val (.int .i64 r) ∧ b = []) := by
 unfold g_catalog_modulus at hg
 refine Fn.of Try.func94 rfl rfl rfl fun w0 I ρ0 => ?_
 show awp _ ⟨w0, I, ρ0, 0, 0, 21⟩ _ _ _
 refine sr_ 0 8 mk_U ?_
 refine go_ ?_
 refine ch_n fun hU => ?_
 refine awp_seq ?_
 refine sr_ 8 64 hU ?_
 refine c0_ rfl rfl (.buildArr (sz := 1) (r := [.val (.int .i64 1024), .val (.int .i64 56)]) und122 (by kernel_rfl) z122 (by kernel_rfl) rfl) rfl rfl ?_
 refine c0_ rfl rfl (.buildArr (sz := 1) (r := [.val (.int .i64 2048), .val (.int .i64 80)]) und122 (by kernel_rfl) z122 (by kernel_rfl) rfl) rfl rfl ?_
 refine c0_ rfl rfl (.buildArr (sz := 1) (r := [.val (.int .i64 3072), .val (.int .i64 112)]) und122 (by kernel_rfl) z122 (by kernel_rfl) rfl) rfl rfl ?_
 refine c0_ rfl rfl (.buildArr (sz := 1) (r := [.val (.int .i64 7680), .val (.int .i64 128)]) und122 (by kernel_rfl) z122 (by kernel_rfl) rfl) rfl rfl ?_
 refine c0_ rfl rfl (.buildArr (sz := 1) (r := [.val (.int .i64 15360), .val (.int .i64 192)]) und122 (by kernel_rfl) z122 (by kernel_rfl) rfl) rfl rfl ?_
 refine c0_ rfl rfl (.buildArr (sz := 2) (r := [.val (.int .i64 1024), .val (.int .i64 56), .val (.int .i64 2048), .val (.int .i64 80), .val (.int .i64 3072), .val (.int .i64 112), .val (.int .i64 7680), .val (.int .i64 128), .val (.int .i64 15360), .val (.int .i64 192)]) und123 (by kernel_rfl) z123 (by kernel_rfl) rfl) rfl rfl ?_
 refine go_ ?_
 refine ch_n fun hU => ?_
 refine awp_block ?_
 refine lp_ (fun (x11_1 : Int) => mk [(0, .val (.int .i64 bits)), (10, .agg [.val (.int .i64 1024), .val (.int .i64 56), .val (.int .i64 2048), .val (.int .i64 80), .val (.int .i64 3072), .val (.int .i64 112), .val (.int .i64 7680), .val (.int .i64 128), .val (.int .i64 15360), .val (.int .i64 192)]), (11, .val (.int .i64 x11_1))] [] 0) hg (sub_ []) ?_
 rintro x11_1 m1 o1 hg hn1
 replace hg : g_catalog_modulus.l1 bits x11_1 = some o1 := hg
 show awp _ _ _ _ (mk _ _ _)
 unfold g_catalog_modulus.l1 at hg
 refine sr_ 0 8 mk_U ?_
 refine go_ ?_
 refine ch_n fun hU => ?_
 refine awp_seq ?_
 refine cg_ rfl hg (fun h4 hg => ?_) fun h4 hg => ?_
 ·refine awp_skip ?_
  repeat first | refine st_ ?_ | refine sn_ ?_
  refine awp_seq ?_
  refine awp_block ?_
  refine sr_ 8 32 hU ?_
  obtain ⟨e, he, hg⟩ := bind_some hg
  refine c0_ rfl rfl (r_indexAA (f := (eA 2 eI)) (L := ([([1024, 56] : List Int), ([2048, 80] : List Int), ([3072, 112] : List Int), ([7680, 128] : List Int), ([15360, 192] : List Int)] : List (List Int))) und123 ty122 (eA_len eI_len) rfl rfl he (d2 := [.val (.int .i64 (e[0]!)), .val (.int .i64 (e[1]!))]) rfl) rfl rfl ?_
  refine go_ ?_
  refine ch_n fun hU => ?_
  refine sr_ 32 64 hU ?_
  refine go_ ?_
  refine ch_s (rd := [16]) rfl rfl (.idxA (j := 0) und122 ty3 rfl (by decide)) rfl rfl ?_
  refine go_ ?_
  refine ch_n fun hU => ?_
  refine cg_ rfl hg (fun h7 hg => ?_) fun h7 hg => ?_
  ·refine awp_seq ?_
   refine awp_region (sys _ _ []) 64 88 hU rfl rfl ?_
   refine ch_s (rd := [16]) rfl rfl (.idxA (j := 1) und122 ty3 rfl (by decide)) rfl rfl ?_
   refine go_ ?_
   refine ch_n fun hU => ?_
   refine aw_r ?_
   replace hg := leave hg hn1
   obtain rfl := Option.some.inj hg
   exact fin_ [] ⟨rfl, rfl⟩
  ·refine awp_skip ?_
   repeat first | refine st_ ?_ | refine sn_ ?_
   refine awp_region (sys _ _ []) 64 80 hU rfl rfl ?_
   refine go_ ?_
   refine ch_n fun hU => ?_
   obtain rfl := Option.some.inj hg
   exact ⟨(W (x11_1 + 1), m1), Nat.lt_succ_self _, hn1, sub_ []⟩
 ·refine awp_exit ?_
  repeat first | refine st_ ?_ | refine sn_ ?_
  replace hg := leave hg hn1
  refine sr_ 8 16 hU ?_
  refine go_ ?_
  refine ch_n fun hU => ?_
  refine aw_r ?_
  obtain rfl := Option.some.inj hg
  exact fin_ [] ⟨rfl, rfl⟩
theorem w_slices_Index_int (s : (List Int)) (v : Int) (r : Int) (hg : g_slices_Index_int s v = some r) : Fn Try.prog 43 0 [.sl 1 (encL eI s), .val (.int .i64 v)] [] (fun d b => d = .val (.int .i64 r) ∧ b = []) := by
 unfold g_slices_Index_int at hg
 refine Fn.of Try.func43 rfl rfl rfl fun w0 I ρ0 => ?_
 show awp _ ⟨w0, I, ρ0, 0, 0, 19⟩ _ _ _
 refine sr_ 0 8 mk_U ?_
 refine go_ ?_
 refine ch_n fun hU => ?_
 refine awp_seq ?_
 refine sr_ 8 32 hU ?_
 refine go_ ?_
 refine ch_n fun hU => ?_
 refine awp_block ?_
 refine lp_ (fun (x8_1 : Int) => mk [(0, .sl 1 (encL eI s)), (1, .val (.int .i64 v)), (7, .val (.int .i64 (s.length : Int))), (8, .val (.int .i64 x8_1))] [] 0) hg (sub_ []) ?_
 rintro x8_1 m1 o1 hg hn1
 replace hg : g_slices_Index_int.l1 s v x8_1 = some o1 := hg
 show awp _ _ _ _ (mk _ _ _)
 unfold g_slices_Index_int.l1 at hg
 refine sr_ 0 8 mk_U ?_
 refine go_ ?_
 refine ch_n fun hU => ?_
 refine awp_seq ?_
 refine cg_ rfl hg (fun h4 hg => ?_) fun h4 hg => ?_
 ·refine awp_skip ?_
  repeat first | refine st_ ?_ | refine sn_ ?_
  refine awp_seq ?_
  refine awp_block ?_
  refine sr_ 8 24 hU ?_
  refine go_ ?_
  refine ch_n fun hU => ?_
  refine sr_ 24 72 hU ?_
  refine go_ ?_
  obtain ⟨e, he, hg⟩ := bind_some hg
  refine go_ ?_
  refine c0_ rfl rfl (r_loadE1 ty3 (enc_cell eI_len (getI_at he) (o := 0) (c := .int .i64 e) rfl rfl)) rfl rfl ?_
  refine go_ ?_
  refine ch_n fun hU => ?_
  refine cg_ rfl hg (fun h7 hg => ?_) fun h7 hg => ?_
  ·refine awp_seq ?_
   refine awp_region (sys _ _ []) 72 88 hU rfl rfl ?_
   refine go_ ?_
   refine ch_n fun hU => ?_
   refine aw_r ?_
   replace hg := leave hg hn1
   obtain rfl := Option.some.inj hg
   exact fin_ [] ⟨rfl, rfl⟩
  ·refine awp_skip ?_
   repeat first | refine st_ ?_ | refine sn_ ?_
   refine awp_region (sys _ _ []) 72 88 hU rfl rfl ?_
   refine go_ ?_
   refine ch_n fun hU => ?_
   obtain rfl := Option.some.inj hg
   exact ⟨(W (x8_1 + 1), m1), Nat.lt_succ_self _, hn1, sub_ []⟩
 ·refine awp_exit ?_
  repeat first | refine st_ ?_ | refine sn_ ?_
  replace hg := leave hg hn1
  refine sr_ 8 16 hU ?_
  refine go_ ?_
  refine ch_n fun hU => ?_
  refine aw_r ?_
  obtain rfl := Option.some.inj hg
  exact fin_ [] ⟨rfl, rfl⟩
theorem w_slices_Contains_int (s : (List Int)) (v : Int) (r : Bool) (hg : g_slices_Contains_int s v = some r) : Fn Try.prog 29 0 [.sl 1 (encL eI s), .val (.int .i64 v)] [] (fun d b => d = .val (.bool r) ∧ b = []) := by
 unfold g_slices_Contains_int at hg
 refine Fn.of Try.func29 rfl rfl rfl fun w0 I ρ0 => ?_
 show awp _ ⟨w0, I, ρ0, 0, 0, 9⟩ _ _ _
 refine sr_ 0 8 mk_U ?_
 refine go_ ?_
 refine ch_n fun hU => ?_
 refine sr_ 8 48 hU ?_
 refine go_ ?_
 obtain ⟨y, hy, hg⟩ := bind_some hg
 refine ca_ (w_slices_Index_int _ _ _ hy) ?_
 refine go_ ?_
 refine ch_n fun hU => ?_
 refine aw_r ?_
 obtain rfl := Option.some.inj hg
 exact fin_ [] ⟨rfl, rfl⟩
theorem w_catalog_Strength (u : api_Use) (r : Int) (hg : g_catalog_Strength u = some r) : Fn Try.prog 86 0 [.agg [.val (.int .i64 u.Alg), .val (.int .i64 u.Bits)]] [] (fun d b => d = .val (.int .i64 r) ∧ b = []) := by
 unfold g_catalog_Strength at hg
 refine Fn.of Try.func86 rfl rfl rfl fun w0 I ρ0 => ?_
 show awp _ ⟨w0, I, ρ0, 0, 0, 61⟩ _ _ _
 refine sr_ 0 16 mk_U ?_
 refine go_ ?_
 refine ch_n fun hU => ?_
 refine sr_ 16 88 hU ?_
 refine go_ ?_
 obtain ⟨y, hy, hg⟩ := bind_some hg
 refine ca_ (w_catalog_of _ _ hy) ?_
 refine go_ ?_
 refine ch_n fun hU => ?_
 refine awp_seq ?_
 refine sr_ 88 104 hU ?_
 refine go_ ?_
 refine ch_n fun hU => ?_
 refine cg_ rfl hg (fun h4 hg => ?_) fun h4 hg => ?_
 ·refine awp_seq ?_
  refine awp_region (sys _ _ []) 104 112 hU rfl rfl ?_
  refine go_ ?_
  refine ch_n fun hU => ?_
  refine aw_r ?_
  obtain rfl := Option.some.inj hg
  exact fin_ [] ⟨rfl, rfl⟩
 ·refine awp_skip ?_
  repeat first | refine st_ ?_ | refine sn_ ?_
  refine awp_seq ?_
  refine sr_ 104 120 hU ?_
  refine go_ ?_
  refine ch_n fun hU => ?_
  refine awp_block ?_
  refine sr_ 120 136 hU ?_
  refine go_ ?_
  refine ch_n fun hU => ?_
  refine cg_ rfl hg (fun h8 hg => ?_) fun h8 hg => ?_
  ·refine awp_seq ?_
   refine awp_region (sys _ _ []) 136 160 hU rfl rfl ?_
   refine go_ ?_
   refine ch_n fun hU => ?_
   refine cg_ rfl hg (fun h10 hg => ?_) fun h10 hg => ?_
   ·refine awp_seq ?_
    refine awp_region (sys _ _ []) 160 200 hU rfl rfl ?_
    refine go_ ?_
    obtain ⟨e, he, hg⟩ := bind_some hg
    refine go_ ?_
    refine c0_ rfl rfl (r_loadE1 ty3 (enc_cell eI_len (getI_at he) (o := 0) (c := .int .i64 e) rfl rfl)) rfl rfl ?_
    refine go_ ?_
    refine ch_n fun hU => ?_
    refine aw_r ?_
    obtain rfl := Option.some.inj hg
    exact fin_ [] ⟨rfl, rfl⟩
   ·refine awp_skip ?_
    repeat first | refine st_ ?_ | refine sn_ ?_
    refine sr_ 160 168 hU ?_
    refine go_ ?_
    refine ch_n fun hU => ?_
    refine aw_r ?_
    obtain rfl := Option.some.inj hg
    exact fin_ [] ⟨rfl, rfl⟩
  ·refine awp_seq ?_
   refine awp_region (sys _ _ []) 136 152 hU rfl rfl ?_
   refine go_ ?_
   refine ch_n fun hU => ?_
   refine cg_ rfl hg (fun h13 hg => ?_) fun h13 hg => ?_
   ·refine awp_cut (ι := Bool) (fun (x34_1 : Bool) => mk [(1, .ptr 0 0), (34, .val (.bool x34_1))] [(0, .box [.val (.int .i64 u.Alg), .val (.int .i64 u.Bits)] 30)] 1) (fun (x34_1 : Bool) => g_catalog_Strength.j1 u x34_1 = some r) ?_ ?_
    ·refine awp_region (sys _ _ []) 152 216 hU rfl rfl ?_
     refine go_ ?_
     rcases bc_ hg with ⟨h14, hg⟩ | ⟨h14, hg⟩
     ·refine go_ ?_
      refine ch_n fun hU => ?_
      exact ⟨decide (u.Bits ≤ 16384), hg, sub_ [(0, 0)]⟩
     ·refine go_ ?_
      refine ch_n fun hU => ?_
      exact ⟨false, hg, sub_ [(0, 0)]⟩
    ·rintro x34_1 hg
     replace hg : g_catalog_Strength.j1 u x34_1 = some r := hg
     show awp _ _ _ _ (mk _ _ _)
     unfold g_catalog_Strength.j1 at hg
     refine cg_ rfl hg (fun h17 hg => ?_) fun h17 hg => ?_
     ·refine awp_seq ?_
      refine awp_region (sys _ _ []) 1 33 mk_U rfl rfl ?_
      refine go_ ?_
      obtain ⟨y_2, hy_2, hg⟩ := bind_some hg
      refine ca_ (w_catalog_modulus _ _ hy_2) ?_
      refine go_ ?_
      refine ch_n fun hU => ?_
      refine aw_r ?_
      obtain rfl := Option.some.inj hg
      exact fin_ [] ⟨rfl, rfl⟩
     ·refine awp_skip ?_
      repeat first | refine st_ ?_ | refine sn_ ?_
      refine sr_ 1 9 mk_U ?_
      refine go_ ?_
      refine ch_n fun hU => ?_
      refine aw_r ?_
      obtain rfl := Option.some.inj hg
      exact fin_ [] ⟨rfl, rfl⟩
   ·refine awp_seq ?_
    refine awp_region (sys _ _ []) 152 168 hU rfl rfl ?_
    refine go_ ?_
    refine ch_n fun hU => ?_
    refine cg_ rfl hg (fun h20 hg => ?_) fun h20 hg => ?_
    ·refine awp_seq ?_
     refine awp_region (sys _ _ []) 168 200 hU rfl rfl ?_
     refine c0_ rfl rfl (r_buildFull sl22 z3 (by decide) rfl rfl rfl rfl ck3 (cs := [.int .i64 160, .int .i64 224, .int .i64 256, .int .i64 384, .int .i64 521]) (.cons .int (.cons .int (.cons .int (.cons .int (.cons .int .nil))))) rfl (l := ([160, 224, 256, 384, 521] : List Int)) (f := eI) rfl) rfl rfl ?_
     refine go_ ?_
     obtain ⟨y_3, hy_3, hg⟩ := bind_some hg
     refine cb_ [168] [] [] true (w_slices_Contains_int _ _ _ hy_3) ?_
     refine ch_n fun hU => ?_
     refine cg_ rfl hg (fun h22 hg => ?_) fun h22 hg => ?_
     ·refine awp_seq ?_
      refine awp_region (sys _ _ []) 200 232 hU rfl rfl ?_
      refine go_ ?_
      obtain ⟨q, hq, hg⟩ := bind_some hg
      refine c0_ rfl rfl (r_quo hq) rfl rfl ?_
      refine go_ ?_
      refine ch_n fun hU => ?_
      refine aw_r ?_
      obtain rfl := Option.some.inj hg
      exact fin_ [] ⟨rfl, rfl⟩
     ·refine awp_skip ?_
      repeat first | refine st_ ?_ | refine sn_ ?_
      refine sr_ 200 208 hU ?_
      refine go_ ?_
      refine ch_n fun hU => ?_
      refine aw_r ?_
      obtain rfl := Option.some.inj hg
      exact fin_ [] ⟨rfl, rfl⟩
    ·refine awp_seq ?_
     refine awp_region (sys _ _ []) 168 184 hU rfl rfl ?_
     refine go_ ?_
     refine ch_n fun hU => ?_
     refine cg_ rfl hg (fun h25 hg => ?_) fun h25 hg => ?_
     ·refine awp_seq ?_
      refine awp_region (sys _ _ []) 184 232 hU rfl rfl ?_
      refine go_ ?_
      obtain ⟨y_4, hy_4, hg⟩ := bind_some hg
      refine ca_ (w_slices_Index_int _ _ _ hy_4) ?_
      refine go_ ?_
      refine ch_n fun hU => ?_
      refine sr_ 232 248 hU ?_
      refine go_ ?_
      refine ch_n fun hU => ?_
      refine cg_ rfl hg (fun h28 hg => ?_) fun h28 hg => ?_
      ·refine awp_seq ?_
       refine awp_region (sys _ _ []) 248 296 hU rfl rfl ?_
       refine go_ ?_
       obtain ⟨e_2, he_2, hg⟩ := bind_some hg
       refine go_ ?_
       refine c0_ rfl rfl (r_loadE1 ty3 (enc_cell eI_len (getI_at he_2) (o := 0) (c := .int .i64 e_2) rfl rfl)) rfl rfl ?_
       refine go_ ?_
       refine ch_n fun hU => ?_
       refine aw_r ?_
       obtain rfl := Option.some.inj hg
       exact fin_ [] ⟨rfl, rfl⟩
      ·refine awp_skip ?_
       repeat first | refine st_ ?_ | refine sn_ ?_
       refine sr_ 248 256 hU ?_
       refine go_ ?_
       refine ch_n fun hU => ?_
       refine aw_r ?_
       obtain rfl := Option.some.inj hg
       exact fin_ [] ⟨rfl, rfl⟩
     ·refine awp_skip ?_
      repeat first | refine st_ ?_ | refine sn_ ?_
      refine sr_ 184 192 hU ?_
      refine go_ ?_
      refine ch_n fun hU => ?_
      refine aw_r ?_
      obtain rfl := Option.some.inj hg
      exact fin_ [] ⟨rfl, rfl⟩
theorem w_catalog_Valid (u : api_Use) (r : Bool) (hg : g_catalog_Valid u = some r) : Fn Try.prog 69 0 [.agg [.val (.int .i64 u.Alg), .val (.int .i64 u.Bits)]] [] (fun d b => d = .val (.bool r) ∧ b = []) := by
 unfold g_catalog_Valid at hg
 refine Fn.of Try.func69 rfl rfl rfl fun w0 I ρ0 => ?_
 show awp _ ⟨w0, I, ρ0, 0, 0, 6⟩ _ _ _
 refine sr_ 0 16 mk_U ?_
 refine go_ ?_
 refine ch_n fun hU => ?_
 refine sr_ 16 48 hU ?_
 refine go_ ?_
 obtain ⟨y, hy, hg⟩ := bind_some hg
 refine ca_ (w_catalog_Strength _ _ hy) ?_
 refine go_ ?_
 refine ch_n fun hU => ?_
 refine aw_r ?_
 obtain rfl := Option.some.inj hg
 exact fin_ [] ⟨rfl, rfl⟩
theorem w_catalog_Kind (alg : Int) (r : Int) (hg : g_catalog_Kind alg = some r) : Fn Try.prog 70 0 [.val (.int .i64 alg)] [] (fun d b => d = .val (.int .i64 r) ∧ b = []) := by
 unfold g_catalog_Kind at hg
 refine Fn.of Try.func70 rfl rfl rfl fun w0 I ρ0 => ?_
 show awp _ ⟨w0, I, ρ0, 0, 0, 12⟩ _ _ _
 refine sr_ 0 8 mk_U ?_
 refine go_ ?_
 refine ch_n fun hU => ?_
 refine sr_ 8 72 hU ?_
 refine go_ ?_
 obtain ⟨y, hy, hg⟩ := bind_some hg
 refine ca_ (w_catalog_of _ _ hy) ?_
 refine go_ ?_
 refine ch_n fun hU => ?_
 refine sr_ 72 96 hU ?_
 refine go_ ?_
 refine ch_n fun hU => ?_
 refine aw_r ?_
 obtain rfl := Option.some.inj hg
 exact fin_ [] ⟨rfl, rfl⟩
theorem w_certificate_of (u : api_Use) (kind : Int) (r : Bool) (hg : g_certificate_of u kind = some r) : Fn Try.prog 54 0 [.agg [.val (.int .i64 u.Alg), .val (.int .i64 u.Bits)], .val (.int .i64 kind)] [] (fun d b => d = .val (.bool r) ∧ b = []) := by
 unfold g_certificate_of at hg
 refine Fn.of Try.func54 rfl rfl rfl fun w0 I ρ0 => ?_
 show awp _ ⟨w0, I, ρ0, 0, 0, 14⟩ _ _ _
 refine sr_ 0 16 mk_U ?_
 refine go_ ?_
 refine ch_n fun hU => ?_
 refine sr_ 16 96 hU ?_
 refine go_ ?_
 obtain ⟨y, hy, hg⟩ := bind_some hg
 refine ca_ (w_catalog_Valid _ _ hy) ?_
 refine go_ ?_
 rcases bc_ hg with ⟨h2, hg⟩ | ⟨h2, hg⟩
 ·refine go_ ?_
  obtain ⟨y_2, hy_2, hg⟩ := bind_some hg
  refine ca_ (w_catalog_Kind _ _ hy_2) ?_
  refine go_ ?_
  refine ch_n fun hU => ?_
  refine aw_r ?_
  obtain rfl := Option.some.inj hg
  exact fin_ [] ⟨rfl, rfl⟩
 ·refine go_ ?_
  refine ch_n fun hU => ?_
  refine aw_r ?_
  obtain rfl := Option.some.inj hg
  exact fin_ [] ⟨rfl, rfl⟩
theorem w_certificate_Key (n : Int) (r : Bool) (hg : g_certificate_Key n = some r) : Fn Try.prog 55 0 [.val (.int .i64 n)] [] (fun d b => d = .val (.bool r) ∧ b = []) := by
 unfold g_certificate_Key at hg
 refine Fn.of Try.func55 rfl rfl rfl fun w0 I ρ0 => ?_
 show awp _ ⟨w0, I, ρ0, 0, 0, 9⟩ _ _ _
 refine sr_ 0 8 mk_U ?_
 refine go_ ?_
 refine ch_n fun hU => ?_
 refine sr_ 8 64 hU ?_
 refine go_ ?_
 rcases bc_ hg with ⟨h2, hg⟩ | ⟨h2, hg⟩
 ·refine go_ ?_
  refine ch_n fun hU => ?_
  refine aw_r ?_
  obtain rfl := Option.some.inj hg
  exact fin_ [] ⟨rfl, rfl⟩
 ·refine go_ ?_
  refine ch_n fun hU => ?_
  refine aw_r ?_
  obtain rfl := Option.some.inj hg
  exact fin_ [] ⟨rfl, rfl⟩
theorem w_certificate_sum (n : Int) (r : Bool) (hg : g_certificate_sum n = some r) : Fn Try.prog 56 0 [.val (.int .i64 n)] [] (fun d b => d = .val (.bool r) ∧ b = []) := by
 unfold g_certificate_sum at hg
 refine Fn.of Try.func56 rfl rfl rfl fun w0 I ρ0 => ?_
 show awp _ ⟨w0, I, ρ0, 0, 0, 9⟩ _ _ _
 refine sr_ 0 8 mk_U ?_
 refine go_ ?_
 refine ch_n fun hU => ?_
 refine sr_ 8 64 hU ?_
 refine go_ ?_
 rcases bc_ hg with ⟨h2, hg⟩ | ⟨h2, hg⟩
 ·refine go_ ?_
  refine ch_n fun hU => ?_
  refine aw_r ?_
  obtain rfl := Option.some.inj hg
  exact fin_ [] ⟨rfl, rfl⟩
 ·refine go_ ?_
  refine ch_n fun hU => ?_
  refine aw_r ?_
  obtain rfl := Option.some.inj hg
  exact fin_ [] ⟨rfl, rfl⟩
theorem w_certificate_valid (c : api_Certificate) (r : Bool) (hg : g_certificate_valid c = some r) : Fn Try.prog 40 0 [.agg (api_Certificate.dv c)] [] (fun d b => d = .val (.bool r) ∧ b = []) := by
 unfold g_certificate_valid at hg
 refine Fn.of Try.func40 rfl rfl rfl fun w0 I ρ0 => ?_
 show awp _ ⟨w0, I, ρ0, 0, 0, 91⟩ _ _ _
 refine sr_ 0 16 mk_U ?_
 refine go_ ?_
 refine ch_n fun hU => ?_
 refine awp_seq ?_
 refine awp_cut (ι := Bool) (fun (x28_1 : Bool) => mk [(1, .ptr 0 0), (28, .val (.bool x28_1))] [(0, .box (api_Certificate.dv c) 40)] 1) (fun (x28_1 : Bool) => g_certificate_valid.j1 c x28_1 = some r) ?_ ?_
 ·refine awp_region (sys _ _ []) 16 224 hU rfl rfl ?_
  refine go_ ?_
  rcases bc_ hg with ⟨h2, hg⟩ | ⟨h2, hg⟩
  ·refine go_ ?_
   refine ch_n fun hU => ?_
   exact ⟨true, hg, sub_ [(0, 0)]⟩
  ·refine go_ ?_
   rcases bc_ hg with ⟨h4, hg⟩ | ⟨h4, hg⟩
   ·refine go_ ?_
    refine ch_n fun hU => ?_
    exact ⟨true, hg, sub_ [(0, 0)]⟩
   ·refine go_ ?_
    obtain ⟨y, hy, hg⟩ := bind_some hg
    refine ca_ (w_catalog_Named _ _ hy) ?_
    refine go_ ?_
    rcases bc_ hg with ⟨h6, hg⟩ | ⟨h6, hg⟩
    ·refine go_ ?_
     refine ch_n fun hU => ?_
     exact ⟨true, hg, sub_ [(0, 0)]⟩
    ·refine go_ ?_
     obtain ⟨y_2, hy_2, hg⟩ := bind_some hg
     refine ca_ (w_catalog_Named _ _ hy_2) ?_
     refine go_ ?_
     rcases bc_ hg with ⟨h8, hg⟩ | ⟨h8, hg⟩
     ·refine go_ ?_
      refine ch_n fun hU => ?_
      exact ⟨true, hg, sub_ [(0, 0)]⟩
     ·refine go_ ?_
      obtain ⟨y_3, hy_3, hg⟩ := bind_some hg
      refine ca_ (w_certificate_named _ _ hy_3) ?_
      refine go_ ?_
      refine ch_n fun hU => ?_
      exact ⟨!y_3, hg, sub_ [(0, 0)]⟩
 ·rintro x28_1 hg
  replace hg : g_certificate_valid.j1 c x28_1 = some r := hg
  show awp _ _ _ _ (mk _ _ _)
  unfold g_certificate_valid.j1 at hg
  refine cg_ rfl hg (fun h11 hg => ?_) fun h11 hg => ?_
  ·refine awp_seq ?_
   refine awp_region (sys _ _ []) 1 9 mk_U rfl rfl ?_
   refine go_ ?_
   refine ch_n fun hU => ?_
   refine aw_r ?_
   obtain rfl := Option.some.inj hg
   exact fin_ [] ⟨rfl, rfl⟩
  ·refine awp_skip ?_
   repeat first | refine st_ ?_ | refine sn_ ?_
   refine awp_seq ?_
   refine awp_cut (ι := Bool) (fun (x58_2 : Bool) => mk [(1, .ptr 0 0), (58, .val (.bool x58_2))] [(0, .box (api_Certificate.dv c) 40)] 1) (fun (x58_2 : Bool) => g_certificate_valid.j2 c x58_2 = some r) ?_ ?_
   ·refine awp_region (sys _ _ []) 1 241 mk_U rfl rfl ?_
    refine go_ ?_
    obtain ⟨y_4, hy_4, hg⟩ := bind_some hg
    refine ca_ (w_certificate_of _ _ _ hy_4) ?_
    refine go_ ?_
    rcases bc_ hg with ⟨h13, hg⟩ | ⟨h13, hg⟩
    ·refine go_ ?_
     refine ch_n fun hU => ?_
     exact ⟨true, hg, sub_ [(0, 0)]⟩
    ·refine go_ ?_
     obtain ⟨y_5, hy_5, hg⟩ := bind_some hg
     refine ca_ (w_certificate_Key _ _ hy_5) ?_
     refine go_ ?_
     rcases bc_ hg with ⟨h15, hg⟩ | ⟨h15, hg⟩
     ·refine go_ ?_
      refine ch_n fun hU => ?_
      exact ⟨true, hg, sub_ [(0, 0)]⟩
     ·refine go_ ?_
      obtain ⟨y_6, hy_6, hg⟩ := bind_some hg
      refine ca_ (w_certificate_of _ _ _ hy_6) ?_
      refine go_ ?_
      rcases bc_ hg with ⟨h17, hg⟩ | ⟨h17, hg⟩
      ·refine go_ ?_
       refine ch_n fun hU => ?_
       exact ⟨true, hg, sub_ [(0, 0)]⟩
      ·refine go_ ?_
       obtain ⟨y_7, hy_7, hg⟩ := bind_some hg
       refine ca_ (w_certificate_Key _ _ hy_7) ?_
       refine go_ ?_
       rcases bc_ hg with ⟨h19, hg⟩ | ⟨h19, hg⟩
       ·refine go_ ?_
        refine ch_n fun hU => ?_
        exact ⟨true, hg, sub_ [(0, 0)]⟩
       ·refine go_ ?_
        obtain ⟨y_8, hy_8, hg⟩ := bind_some hg
        refine ca_ (w_certificate_sum _ _ hy_8) ?_
        refine go_ ?_
        refine ch_n fun hU => ?_
        exact ⟨!y_8, hg, sub_ [(0, 0)]⟩
   ·rintro x58_2 hg
    replace hg : g_certificate_valid.j2 c x58_2 = some r := hg
    show awp _ _ _ _ (mk _ _ _)
    unfold g_certificate_valid.j2 at hg
    refine cg_ rfl hg (fun h22 hg => ?_) fun h22 hg => ?_
    ·refine awp_seq ?_
     refine awp_region (sys _ _ []) 1 9 mk_U rfl rfl ?_
     refine go_ ?_
     refine ch_n fun hU => ?_
     refine aw_r ?_
     obtain rfl := Option.some.inj hg
     exact fin_ [] ⟨rfl, rfl⟩
    ·refine awp_skip ?_
     repeat first | refine st_ ?_ | refine sn_ ?_
     refine awp_seq ?_
     refine awp_cut (ι := Bool) (fun (x73_3 : Bool) => mk [(1, .ptr 0 0), (73, .val (.bool x73_3))] [(0, .box (api_Certificate.dv c) 40)] 1) (fun (x73_3 : Bool) => g_certificate_valid.j3 c x73_3 = some r) ?_ ?_
     ·refine awp_region (sys _ _ []) 1 121 mk_U rfl rfl ?_
      refine go_ ?_
      rcases bc_ hg with ⟨h24, hg⟩ | ⟨h24, hg⟩
      ·refine go_ ?_
       refine ch_n fun hU => ?_
       exact ⟨true, hg, sub_ [(0, 0)]⟩
      ·refine go_ ?_
       rcases bc_ hg with ⟨h26, hg⟩ | ⟨h26, hg⟩
       ·refine go_ ?_
        refine ch_n fun hU => ?_
        exact ⟨true, hg, sub_ [(0, 0)]⟩
       ·refine go_ ?_
        refine ch_n fun hU => ?_
        exact ⟨decide (40000 < c.To), hg, sub_ [(0, 0)]⟩
     ·rintro x73_3 hg
      replace hg : g_certificate_valid.j3 c x73_3 = some r := hg
      show awp _ _ _ _ (mk _ _ _)
      unfold g_certificate_valid.j3 at hg
      refine cg_ rfl hg (fun h29 hg => ?_) fun h29 hg => ?_
      ·refine awp_seq ?_
       refine awp_region (sys _ _ []) 1 9 mk_U rfl rfl ?_
       refine go_ ?_
       refine ch_n fun hU => ?_
       refine aw_r ?_
       obtain rfl := Option.some.inj hg
       exact fin_ [] ⟨rfl, rfl⟩
      ·refine awp_skip ?_
       repeat first | refine st_ ?_ | refine sn_ ?_
       refine sr_ 1 145 mk_U ?_
       refine go_ ?_
       rcases bc_ hg with ⟨h31, hg⟩ | ⟨h31, hg⟩
       ·refine go_ ?_
        rcases bc_ hg with ⟨h32, hg⟩ | ⟨h32, hg⟩
        ·refine go_ ?_
         rcases bc_ hg with ⟨h33, hg⟩ | ⟨h33, hg⟩
         ·refine go_ ?_
          refine ch_n fun hU => ?_
          refine aw_r ?_
          obtain rfl := Option.some.inj hg
          exact fin_ [] ⟨rfl, rfl⟩
         ·refine go_ ?_
          refine ch_n fun hU => ?_
          refine aw_r ?_
          obtain rfl := Option.some.inj hg
          exact fin_ [] ⟨rfl, rfl⟩
        ·refine go_ ?_
         refine ch_n fun hU => ?_
         refine aw_r ?_
         obtain rfl := Option.some.inj hg
         exact fin_ [] ⟨rfl, rfl⟩
       ·refine go_ ?_
        refine ch_n fun hU => ?_
        refine aw_r ?_
        obtain rfl := Option.some.inj hg
        exact fin_ [] ⟨rfl, rfl⟩
theorem w_certificate_Check (c : api_Certificate) (r : Int) (hg : g_certificate_Check c = some r) : Fn Try.prog 24 0 [.agg (api_Certificate.dv c)] [] (fun d b => d = .val (.int .i64 r) ∧ b = []) := by
 unfold g_certificate_Check at hg
 refine Fn.of Try.func24 rfl rfl rfl fun w0 I ρ0 => ?_
 show awp _ ⟨w0, I, ρ0, 0, 0, 6⟩ _ _ _
 refine sr_ 0 16 mk_U ?_
 refine go_ ?_
 refine ch_n fun hU => ?_
 refine awp_seq ?_
 refine sr_ 16 40 hU ?_
 refine go_ ?_
 obtain ⟨y, hy, hg⟩ := bind_some hg
 refine ca_ (w_certificate_valid _ _ hy) ?_
 refine go_ ?_
 refine ch_n fun hU => ?_
 refine cg_ rfl hg (fun h3 hg => ?_) fun h3 hg => ?_
 ·refine awp_seq ?_
  refine awp_region (sys _ _ []) 40 48 hU rfl rfl ?_
  refine go_ ?_
  refine ch_n fun hU => ?_
  refine aw_r ?_
  obtain rfl := Option.some.inj hg
  exact fin_ [] ⟨rfl, rfl⟩
 ·refine awp_skip ?_
  repeat first | refine st_ ?_ | refine sn_ ?_
  refine sr_ 40 48 hU ?_
  refine go_ ?_
  refine ch_n fun hU => ?_
  refine aw_r ?_
  obtain rfl := Option.some.inj hg
  exact fin_ [] ⟨rfl, rfl⟩
theorem w_chain_Check_c1 (c : api_Certificate) (r : Bool) (hg : g_chain_Check_c1 c = some r) : Fn Try.prog 23 0 [.agg (api_Certificate.dv c)] [] (fun d b => d = .val (.bool r) ∧ b = []) := by
 unfold g_chain_Check_c1 at hg
 refine Fn.of Try.func23 rfl rfl rfl fun w0 I ρ0 => ?_
 show awp _ ⟨w0, I, ρ0, 0, 0, 6⟩ _ _ _
 refine sr_ 0 16 mk_U ?_
 refine go_ ?_
 refine ch_n fun hU => ?_
 refine sr_ 16 48 hU ?_
 refine go_ ?_
 obtain ⟨y, hy, hg⟩ := bind_some hg
 refine ca_ (w_certificate_Check _ _ hy) ?_
 refine go_ ?_
 refine ch_n fun hU => ?_
 refine aw_r ?_
 obtain rfl := Option.some.inj hg
 exact fin_ [] ⟨rfl, rfl⟩
theorem w_slices_IndexFunc_api_Certificate_clo_23_0_ (s : (List api_Certificate)) (f : api_Certificate → Option (Bool)) (hf_f : ∀ (x0 : api_Certificate) (y : Bool), f x0 = some y → Fn Try.prog 23 0 [.agg (api_Certificate.dv x0)] [] (fun d b => d = .val (.bool y) ∧ b = [])) (r : Int) (hg : g_slices_IndexFunc_api_Certificate s f = some r) : Fn Try.prog 39 0 [.sl 15 (encL api_Certificate.enc s), .clo 23 0 []] [] (fun d b => d = .val (.int .i64 r) ∧ b = []) := by
 unfold g_slices_IndexFunc_api_Certificate at hg
 refine Fn.of Try.func39 rfl rfl rfl fun w0 I ρ0 => ?_
 show awp _ ⟨w0, I, ρ0, 0, 0, 19⟩ _ _ _
 refine sr_ 0 8 mk_U ?_
 refine go_ ?_
 refine ch_n fun hU => ?_
 refine awp_seq ?_
 refine sr_ 8 32 hU ?_
 refine go_ ?_
 refine ch_n fun hU => ?_
 refine awp_block ?_
 refine lp_ (fun (x8_1 : Int) => mk [(0, .sl 15 (encL api_Certificate.enc s)), (1, .clo 23 0 []), (7, .val (.int .i64 (s.length : Int))), (8, .val (.int .i64 x8_1))] [] 0) hg (sub_ []) ?_
 rintro x8_1 m1 o1 hg hn1
 replace hg : g_slices_IndexFunc_api_Certificate.l1 s f x8_1 = some o1 := hg
 show awp _ _ _ _ (mk _ _ _)
 unfold g_slices_IndexFunc_api_Certificate.l1 at hg
 refine sr_ 0 8 mk_U ?_
 refine go_ ?_
 refine ch_n fun hU => ?_
 refine awp_seq ?_
 refine cg_ rfl hg (fun h4 hg => ?_) fun h4 hg => ?_
 ·refine awp_skip ?_
  repeat first | refine st_ ?_ | refine sn_ ?_
  refine awp_seq ?_
  refine awp_block ?_
  refine sr_ 8 24 hU ?_
  refine go_ ?_
  refine ch_n fun hU => ?_
  refine sr_ 24 72 hU ?_
  refine go_ ?_
  obtain ⟨e, he, hg⟩ := bind_some hg
  refine go_ ?_
  refine c0_ rfl rfl (r_loadEA ty40 (enc_cells api_Certificate.enc_len (getI_at he) (o := 0) (m := 15) (cs := [.int .i64 e.Serial, .str e.Issuer, .str e.Subject, .int .i64 e.Key.Alg, .int .i64 e.Key.Bits, .int .i64 e.KeyId, .int .i64 e.Hash.Alg, .int .i64 e.Hash.Bits, .int .i64 e.From, .int .i64 e.To, .bool e.Authority, .int .i64 e.Path, .sl 1 (encL eS e.Names), .int .i64 e.Seal.Key, .int .i64 e.Seal.Sum]) rfl (by decide) rfl) (enc_cells_le api_Certificate.enc_len (getI_at he) (o := 0) (m := 15) (by decide) rfl)) rfl rfl ?_
  obtain ⟨y, hy, hg⟩ := bind_some hg
  refine ch_callCP (rd := []) (ps := []) (gs := []) false rfl rfl (hf_f e _ hy) rfl rfl (.cons (.agg (.cons .val (.cons .val (.cons .val (.cons .val (.cons .val (.cons .val (.cons .val (.cons .val (.cons .val (.cons .val (.cons .val (.cons .val (.cons .sl (.cons .val (.cons .val .nil)))))))))))))))) .nil) rfl rfl (by intro h; cases h) rfl rfl rfl rfl ?_
  refine ch_n fun hU => ?_
  refine cg_ rfl hg (fun h7 hg => ?_) fun h7 hg => ?_
  ·refine awp_seq ?_
   refine awp_region (sys _ _ []) 72 88 hU rfl rfl ?_
   refine go_ ?_
   refine ch_n fun hU => ?_
   refine aw_r ?_
   replace hg := leave hg hn1
   obtain rfl := Option.some.inj hg
   exact fin_ [] ⟨rfl, rfl⟩
  ·refine awp_skip ?_
   repeat first | refine st_ ?_ | refine sn_ ?_
   refine awp_region (sys _ _ []) 72 88 hU rfl rfl ?_
   refine go_ ?_
   refine ch_n fun hU => ?_
   obtain rfl := Option.some.inj hg
   exact ⟨(W (x8_1 + 1), m1), Nat.lt_succ_self _, hn1, sub_ []⟩
 ·refine awp_exit ?_
  repeat first | refine st_ ?_ | refine sn_ ?_
  replace hg := leave hg hn1
  refine sr_ 8 16 hU ?_
  refine go_ ?_
  refine ch_n fun hU => ?_
  refine aw_r ?_
  obtain rfl := Option.some.inj hg
  exact fin_ [] ⟨rfl, rfl⟩
theorem w_slices_ContainsFunc_api_Certificate_clo_23_0_ (s : (List api_Certificate)) (f : api_Certificate → Option (Bool)) (hf_f : ∀ (x0 : api_Certificate) (y : Bool), f x0 = some y → Fn Try.prog 23 0 [.agg (api_Certificate.dv x0)] [] (fun d b => d = .val (.bool y) ∧ b = [])) (r : Bool) (hg : g_slices_ContainsFunc_api_Certificate s f = some r) : Fn Try.prog 22 0 [.sl 15 (encL api_Certificate.enc s), .clo 23 0 []] [] (fun d b => d = .val (.bool r) ∧ b = []) := by
 unfold g_slices_ContainsFunc_api_Certificate at hg
 refine Fn.of Try.func22 rfl rfl rfl fun w0 I ρ0 => ?_
 show awp _ ⟨w0, I, ρ0, 0, 0, 9⟩ _ _ _
 refine sr_ 0 8 mk_U ?_
 refine go_ ?_
 refine ch_n fun hU => ?_
 refine sr_ 8 48 hU ?_
 refine go_ ?_
 obtain ⟨y, hy, hg⟩ := bind_some hg
 refine ca_ (w_slices_IndexFunc_api_Certificate_clo_23_0_ s f hf_f _ hy) ?_
 refine go_ ?_
 refine ch_n fun hU => ?_
 refine aw_r ?_
 obtain rfl := Option.some.inj hg
 exact fin_ [] ⟨rfl, rfl⟩
theorem w_slices_Index_string (s : (List ByteArray)) (v : ByteArray) (r : Int) (hg : g_slices_Index_string s v = some r) : Fn Try.prog 41 0 [.sl 1 (encL eS s), .val (.string v)] [] (fun d b => d = .val (.int .i64 r) ∧ b = []) := by
 unfold g_slices_Index_string at hg
 refine Fn.of Try.func41 rfl rfl rfl fun w0 I ρ0 => ?_
 show awp _ ⟨w0, I, ρ0, 0, 0, 19⟩ _ _ _
 refine sr_ 0 8 mk_U ?_
 refine go_ ?_
 refine ch_n fun hU => ?_
 refine awp_seq ?_
 refine sr_ 8 32 hU ?_
 refine go_ ?_
 refine ch_n fun hU => ?_
 refine awp_block ?_
 refine lp_ (fun (x8_1 : Int) => mk [(0, .sl 1 (encL eS s)), (1, .val (.string v)), (7, .val (.int .i64 (s.length : Int))), (8, .val (.int .i64 x8_1))] [] 0) hg (sub_ []) ?_
 rintro x8_1 m1 o1 hg hn1
 replace hg : g_slices_Index_string.l1 s v x8_1 = some o1 := hg
 show awp _ _ _ _ (mk _ _ _)
 unfold g_slices_Index_string.l1 at hg
 refine sr_ 0 8 mk_U ?_
 refine go_ ?_
 refine ch_n fun hU => ?_
 refine awp_seq ?_
 refine cg_ rfl hg (fun h4 hg => ?_) fun h4 hg => ?_
 ·refine awp_skip ?_
  repeat first | refine st_ ?_ | refine sn_ ?_
  refine awp_seq ?_
  refine awp_block ?_
  refine sr_ 8 24 hU ?_
  refine go_ ?_
  refine ch_n fun hU => ?_
  refine sr_ 24 72 hU ?_
  refine go_ ?_
  obtain ⟨e, he, hg⟩ := bind_some hg
  refine go_ ?_
  refine c0_ rfl rfl (r_loadE1 ty9 (enc_cell eS_len (getI_at he) (o := 0) (c := .str e) rfl rfl)) rfl rfl ?_
  refine go_ ?_
  refine ch_n fun hU => ?_
  refine cg_ rfl hg (fun h7 hg => ?_) fun h7 hg => ?_
  ·refine awp_seq ?_
   refine awp_region (sys _ _ []) 72 88 hU rfl rfl ?_
   refine go_ ?_
   refine ch_n fun hU => ?_
   refine aw_r ?_
   replace hg := leave hg hn1
   obtain rfl := Option.some.inj hg
   exact fin_ [] ⟨rfl, rfl⟩
  ·refine awp_skip ?_
   repeat first | refine st_ ?_ | refine sn_ ?_
   refine awp_region (sys _ _ []) 72 88 hU rfl rfl ?_
   refine go_ ?_
   refine ch_n fun hU => ?_
   obtain rfl := Option.some.inj hg
   exact ⟨(W (x8_1 + 1), m1), Nat.lt_succ_self _, hn1, sub_ []⟩
 ·refine awp_exit ?_
  repeat first | refine st_ ?_ | refine sn_ ?_
  replace hg := leave hg hn1
  refine sr_ 8 16 hU ?_
  refine go_ ?_
  refine ch_n fun hU => ?_
  refine aw_r ?_
  obtain rfl := Option.some.inj hg
  exact fin_ [] ⟨rfl, rfl⟩
theorem w_slices_Contains_string (s : (List ByteArray)) (v : ByteArray) (r : Bool) (hg : g_slices_Contains_string s v = some r) : Fn Try.prog 25 0 [.sl 1 (encL eS s), .val (.string v)] [] (fun d b => d = .val (.bool r) ∧ b = []) := by
 unfold g_slices_Contains_string at hg
 refine Fn.of Try.func25 rfl rfl rfl fun w0 I ρ0 => ?_
 show awp _ ⟨w0, I, ρ0, 0, 0, 9⟩ _ _ _
 refine sr_ 0 8 mk_U ?_
 refine go_ ?_
 refine ch_n fun hU => ?_
 refine sr_ 8 48 hU ?_
 refine go_ ?_
 obtain ⟨y, hy, hg⟩ := bind_some hg
 refine ca_ (w_slices_Index_string _ _ _ hy) ?_
 refine go_ ?_
 refine ch_n fun hU => ?_
 refine aw_r ?_
 obtain rfl := Option.some.inj hg
 exact fin_ [] ⟨rfl, rfl⟩
theorem w_chain_held (c : api_Certificate) (hashes : (List Int)) (day : Int) (e : Int) (r : Bool) (hg : g_chain_held c hashes day e = some r) : Fn Try.prog 27 0 [.agg (api_Certificate.dv c), .sl 1 (encL eI hashes), .val (.int .i64 day), .val (.int .i64 e)] [] (fun d b => d = .val (.bool r) ∧ b = []) := by
 unfold g_chain_held at hg
 refine Fn.of Try.func27 rfl rfl rfl fun w0 I ρ0 => ?_
 show awp _ ⟨w0, I, ρ0, 0, 0, 27⟩ _ _ _
 refine sr_ 0 16 mk_U ?_
 refine go_ ?_
 refine ch_n fun hU => ?_
 refine awp_seq ?_
 refine sr_ 16 32 hU ?_
 refine go_ ?_
 refine ch_n fun hU => ?_
 refine cg_ rfl hg (fun h3 hg => ?_) fun h3 hg => ?_
 ·refine awp_seq ?_
  refine awp_region (sys _ _ []) 32 120 hU rfl rfl ?_
  refine go_ ?_
  rcases bc_ hg with ⟨h4, hg⟩ | ⟨h4, hg⟩
  ·refine go_ ?_
   refine ch_n fun hU => ?_
   refine aw_r ?_
   obtain rfl := Option.some.inj hg
   exact fin_ [] ⟨rfl, rfl⟩
  ·refine go_ ?_
   refine ch_n fun hU => ?_
   refine aw_r ?_
   obtain rfl := Option.some.inj hg
   exact fin_ [] ⟨rfl, rfl⟩
 ·refine awp_skip ?_
  repeat first | refine st_ ?_ | refine sn_ ?_
  refine sr_ 32 88 hU ?_
  refine go_ ?_
  obtain ⟨y, hy, hg⟩ := bind_some hg
  refine ca_ (w_slices_Contains_int _ _ _ hy) ?_
  refine go_ ?_
  refine ch_n fun hU => ?_
  refine aw_r ?_
  obtain rfl := Option.some.inj hg
  exact fin_ [] ⟨rfl, rfl⟩
theorem w_chain_Check_c2 (c : api_Certificate) (c0 : (List Int)) (c1 : Int) (c2 : Int) (r : Bool) (hg : g_chain_Check_c2 c c0 c1 c2 = some r) : Fn Try.prog 26 0 [.agg (api_Certificate.dv c), .elt (([.sl 1 (encL eI c0)] : List C).drop 0), .elt (([.int .i64 c1] : List C).drop 0), .elt (([.int .i64 c2] : List C).drop 0)] [] (fun d b => d = .val (.bool r) ∧ b = []) := by
 unfold g_chain_Check_c2 at hg
 refine Fn.of Try.func26 rfl rfl rfl fun w0 I ρ0 => ?_
 show awp _ ⟨w0, I, ρ0, 0, 0, 11⟩ _ _ _
 refine sr_ 0 16 mk_U ?_
 refine go_ ?_
 refine ch_n fun hU => ?_
 refine sr_ 16 64 hU ?_
 refine go_ ?_
 refine c0_ rfl rfl (r_loadE1 ty22 (c := .sl 1 (encL eI c0)) rfl) rfl rfl ?_
 refine c0_ rfl rfl (r_loadE1 ty3 (c := .int .i64 c1) rfl) rfl rfl ?_
 refine c0_ rfl rfl (r_loadE1 ty33 (c := .int .i64 c2) rfl) rfl rfl ?_
 obtain ⟨y, hy, hg⟩ := bind_some hg
 refine ca_ (w_chain_held _ _ _ _ _ hy) ?_
 refine go_ ?_
 refine ch_n fun hU => ?_
 refine aw_r ?_
 obtain rfl := Option.some.inj hg
 exact fin_ [] ⟨rfl, rfl⟩
theorem w_slices_IndexFunc_api_Certificate_clo_26_0_ref_22_ref_3_ref_33 (s : (List api_Certificate)) (f : api_Certificate → Option (Bool)) (f_c0 : (List Int)) (f_c1 : Int) (f_c2 : Int) (hf_f : ∀ (x0 : api_Certificate) (y : Bool), f x0 = some y → Fn Try.prog 26 0 [.agg (api_Certificate.dv x0), .elt (([.sl 1 (encL eI f_c0)] : List C).drop 0), .elt (([.int .i64 f_c1] : List C).drop 0), .elt (([.int .i64 f_c2] : List C).drop 0)] [] (fun d b => d = .val (.bool y) ∧ b = [])) (r : Int) (hg : g_slices_IndexFunc_api_Certificate s f = some r) : Fn Try.prog 39 0 [.sl 15 (encL api_Certificate.enc s), .clo 26 0 [.elt (([.sl 1 (encL eI f_c0)] : List C).drop 0), .elt (([.int .i64 f_c1] : List C).drop 0), .elt (([.int .i64 f_c2] : List C).drop 0)]] [] (fun d b => d = .val (.int .i64 r) ∧ b = []) := by
 unfold g_slices_IndexFunc_api_Certificate at hg
 refine Fn.of Try.func39 rfl rfl rfl fun w0 I ρ0 => ?_
 show awp _ ⟨w0, I, ρ0, 0, 0, 19⟩ _ _ _
 refine sr_ 0 8 mk_U ?_
 refine go_ ?_
 refine ch_n fun hU => ?_
 refine awp_seq ?_
 refine sr_ 8 32 hU ?_
 refine go_ ?_
 refine ch_n fun hU => ?_
 refine awp_block ?_
 refine lp_ (fun (x8_1 : Int) => mk [(0, .sl 15 (encL api_Certificate.enc s)), (1, .clo 26 0 [.elt (([.sl 1 (encL eI f_c0)] : List C).drop 0), .elt (([.int .i64 f_c1] : List C).drop 0), .elt (([.int .i64 f_c2] : List C).drop 0)]), (7, .val (.int .i64 (s.length : Int))), (8, .val (.int .i64 x8_1))] [] 0) hg (sub_ []) ?_
 rintro x8_1 m1 o1 hg hn1
 replace hg : g_slices_IndexFunc_api_Certificate.l1 s f x8_1 = some o1 := hg
 show awp _ _ _ _ (mk _ _ _)
 unfold g_slices_IndexFunc_api_Certificate.l1 at hg
 refine sr_ 0 8 mk_U ?_
 refine go_ ?_
 refine ch_n fun hU => ?_
 refine awp_seq ?_
 refine cg_ rfl hg (fun h4 hg => ?_) fun h4 hg => ?_
 ·refine awp_skip ?_
  repeat first | refine st_ ?_ | refine sn_ ?_
  refine awp_seq ?_
  refine awp_block ?_
  refine sr_ 8 24 hU ?_
  refine go_ ?_
  refine ch_n fun hU => ?_
  refine sr_ 24 72 hU ?_
  refine go_ ?_
  obtain ⟨e, he, hg⟩ := bind_some hg
  refine go_ ?_
  refine c0_ rfl rfl (r_loadEA ty40 (enc_cells api_Certificate.enc_len (getI_at he) (o := 0) (m := 15) (cs := [.int .i64 e.Serial, .str e.Issuer, .str e.Subject, .int .i64 e.Key.Alg, .int .i64 e.Key.Bits, .int .i64 e.KeyId, .int .i64 e.Hash.Alg, .int .i64 e.Hash.Bits, .int .i64 e.From, .int .i64 e.To, .bool e.Authority, .int .i64 e.Path, .sl 1 (encL eS e.Names), .int .i64 e.Seal.Key, .int .i64 e.Seal.Sum]) rfl (by decide) rfl) (enc_cells_le api_Certificate.enc_len (getI_at he) (o := 0) (m := 15) (by decide) rfl)) rfl rfl ?_
  obtain ⟨y, hy, hg⟩ := bind_some hg
  refine ch_callCP (rd := []) (ps := []) (gs := []) false rfl rfl (hf_f e _ hy) rfl rfl (.cons (.agg (.cons .val (.cons .val (.cons .val (.cons .val (.cons .val (.cons .val (.cons .val (.cons .val (.cons .val (.cons .val (.cons .val (.cons .val (.cons .sl (.cons .val (.cons .val .nil)))))))))))))))) (.cons .elt (.cons .elt (.cons .elt .nil)))) rfl rfl (by intro h; cases h) rfl rfl rfl rfl ?_
  refine ch_n fun hU => ?_
  refine cg_ rfl hg (fun h7 hg => ?_) fun h7 hg => ?_
  ·refine awp_seq ?_
   refine awp_region (sys _ _ []) 72 88 hU rfl rfl ?_
   refine go_ ?_
   refine ch_n fun hU => ?_
   refine aw_r ?_
   replace hg := leave hg hn1
   obtain rfl := Option.some.inj hg
   exact fin_ [] ⟨rfl, rfl⟩
  ·refine awp_skip ?_
   repeat first | refine st_ ?_ | refine sn_ ?_
   refine awp_region (sys _ _ []) 72 88 hU rfl rfl ?_
   refine go_ ?_
   refine ch_n fun hU => ?_
   obtain rfl := Option.some.inj hg
   exact ⟨(W (x8_1 + 1), m1), Nat.lt_succ_self _, hn1, sub_ []⟩
 ·refine awp_exit ?_
  repeat first | refine st_ ?_ | refine sn_ ?_
  replace hg := leave hg hn1
  refine sr_ 8 16 hU ?_
  refine go_ ?_
  refine ch_n fun hU => ?_
  refine aw_r ?_
  obtain rfl := Option.some.inj hg
  exact fin_ [] ⟨rfl, rfl⟩
theorem w_slices_ContainsFunc_api_Certificate_clo_26_0_ref_22_ref_3_ref_33 (s : (List api_Certificate)) (f : api_Certificate → Option (Bool)) (f_c0 : (List Int)) (f_c1 : Int) (f_c2 : Int) (hf_f : ∀ (x0 : api_Certificate) (y : Bool), f x0 = some y → Fn Try.prog 26 0 [.agg (api_Certificate.dv x0), .elt (([.sl 1 (encL eI f_c0)] : List C).drop 0), .elt (([.int .i64 f_c1] : List C).drop 0), .elt (([.int .i64 f_c2] : List C).drop 0)] [] (fun d b => d = .val (.bool y) ∧ b = [])) (r : Bool) (hg : g_slices_ContainsFunc_api_Certificate s f = some r) : Fn Try.prog 22 0 [.sl 15 (encL api_Certificate.enc s), .clo 26 0 [.elt (([.sl 1 (encL eI f_c0)] : List C).drop 0), .elt (([.int .i64 f_c1] : List C).drop 0), .elt (([.int .i64 f_c2] : List C).drop 0)]] [] (fun d b => d = .val (.bool r) ∧ b = []) := by
 unfold g_slices_ContainsFunc_api_Certificate at hg
 refine Fn.of Try.func22 rfl rfl rfl fun w0 I ρ0 => ?_
 show awp _ ⟨w0, I, ρ0, 0, 0, 9⟩ _ _ _
 refine sr_ 0 8 mk_U ?_
 refine go_ ?_
 refine ch_n fun hU => ?_
 refine sr_ 8 48 hU ?_
 refine go_ ?_
 obtain ⟨y, hy, hg⟩ := bind_some hg
 refine ca_ (w_slices_IndexFunc_api_Certificate_clo_26_0_ref_22_ref_3_ref_33 s f f_c0 f_c1 f_c2 hf_f _ hy) ?_
 refine go_ ?_
 refine ch_n fun hU => ?_
 refine aw_r ?_
 obtain rfl := Option.some.inj hg
 exact fin_ [] ⟨rfl, rfl⟩
theorem w_chain_Path (l : (List api_Certificate)) (at' : Int) (r : Bool) (hg : g_chain_Path l at' = some r) : Fn Try.prog 16 0 [.sl 15 (encL api_Certificate.enc l), .val (.int .i64 at')] [] (fun d b => d = .val (.bool r) ∧ b = []) := by
 unfold g_chain_Path at hg
 refine Fn.of Try.func16 rfl rfl rfl fun w0 I ρ0 => ?_
 show awp _ ⟨w0, I, ρ0, 0, 0, 32⟩ _ _ _
 refine sr_ 0 8 mk_U ?_
 refine go_ ?_
 refine ch_n fun hU => ?_
 refine awp_seq ?_
 refine awp_cut (ι := Bool) (fun (x12_1 : Bool) => mk [(0, .sl 15 (encL api_Certificate.enc l)), (1, .val (.int .i64 at')), (12, .val (.bool x12_1))] [] 0) (fun (x12_1 : Bool) => g_chain_Path.j1 l at' x12_1 = some r) ?_ ?_
 ·refine awp_region (sys _ _ []) 8 72 hU rfl rfl ?_
  refine go_ ?_
  rcases bc_ hg with ⟨h2, hg⟩ | ⟨h2, hg⟩
  ·refine go_ ?_
   refine ch_n fun hU => ?_
   exact ⟨true, hg, sub_ []⟩
  ·refine go_ ?_
   refine ch_n fun hU => ?_
   exact ⟨decide ((l.length : Int) ≤ at'), hg, sub_ []⟩
 ·rintro x12_1 hg
  replace hg : g_chain_Path.j1 l at' x12_1 = some r := hg
  show awp _ _ _ _ (mk _ _ _)
  unfold g_chain_Path.j1 at hg
  refine cg_ rfl hg (fun h5 hg => ?_) fun h5 hg => ?_
  ·refine awp_seq ?_
   refine awp_region (sys _ _ []) 0 8 mk_U rfl rfl ?_
   refine go_ ?_
   refine ch_n fun hU => ?_
   refine aw_r ?_
   obtain rfl := Option.some.inj hg
   exact fin_ [] ⟨rfl, rfl⟩
  ·refine awp_skip ?_
   repeat first | refine st_ ?_ | refine sn_ ?_
   refine sr_ 0 160 mk_U ?_
   refine go_ ?_
   rcases bc_ hg with ⟨h7, hg⟩ | ⟨h7, hg⟩
   ·refine go_ ?_
    refine ch_n fun hU => ?_
    refine aw_r ?_
    obtain rfl := Option.some.inj hg
    exact fin_ [] ⟨rfl, rfl⟩
   ·refine go_ ?_
    obtain ⟨e, he, hg⟩ := bind_some hg
    refine go_ ?_
    refine c0_ (gdv_t rfl rfl h7) rfl (r_fieldE fd40_8 ty4 (by decide) (enc_lt api_Certificate.enc_len (getI_at he) (o := 10) (by decide) rfl)) rfl rfl ?_
    refine c0_ (gdv_t rfl rfl h7) rfl (r_loadE1 ty4 (enc_cell api_Certificate.enc_len (getI_at he) (o := 10) (c := .bool e.Authority) rfl rfl)) rfl rfl ?_
    refine go_ ?_
    rcases bc_ hg with ⟨h9, hg⟩ | ⟨h9, hg⟩
    ·refine go_ ?_
     refine c0_ (gdv_t rfl rfl h9) rfl (r_fieldE fd40_9 ty3 (by decide) (enc_lt api_Certificate.enc_len (getI_at he) (o := 11) (by decide) rfl)) rfl rfl ?_
     refine c0_ (gdv_t rfl rfl h9) rfl (r_loadE1 ty3 (enc_cell api_Certificate.enc_len (getI_at he) (o := 11) (c := .int .i64 e.Path) rfl rfl)) rfl rfl ?_
     refine go_ ?_
     refine ch_n fun hU => ?_
     refine aw_r ?_
     obtain rfl := Option.some.inj hg
     exact fin_ [] ⟨rfl, rfl⟩
    ·refine go_ ?_
     refine ch_n fun hU => ?_
     refine aw_r ?_
     obtain rfl := Option.some.inj hg
     exact fin_ [] ⟨rfl, rfl⟩
theorem w_chain_sealer (l : (List api_Certificate)) (at' : Int) (r : Int) (hg : g_chain_sealer l at' = some r) : Fn Try.prog 42 0 [.sl 15 (encL api_Certificate.enc l), .val (.int .i64 at')] [] (fun d b => d = .val (.int .i64 r) ∧ b = []) := by
 unfold g_chain_sealer at hg
 refine Fn.of Try.func42 rfl rfl rfl fun w0 I ρ0 => ?_
 show awp _ ⟨w0, I, ρ0, 0, 0, 22⟩ _ _ _
 refine sr_ 0 8 mk_U ?_
 refine go_ ?_
 refine ch_n fun hU => ?_
 refine awp_seq ?_
 refine sr_ 8 48 hU ?_
 refine go_ ?_
 refine ch_n fun hU => ?_
 refine cg_ rfl hg (fun h3 hg => ?_) fun h3 hg => ?_
 ·refine awp_seq ?_
  refine awp_region (sys _ _ []) 48 104 hU rfl rfl ?_
  refine go_ ?_
  obtain ⟨e, he, hg⟩ := bind_some hg
  refine go_ ?_
  refine c0_ rfl rfl (r_fieldE fd40_4 ty3 (by decide) (enc_lt api_Certificate.enc_len (getI_at he) (o := 5) (by decide) rfl)) rfl rfl ?_
  refine c0_ rfl rfl (r_loadE1 ty3 (enc_cell api_Certificate.enc_len (getI_at he) (o := 5) (c := .int .i64 e.KeyId) rfl rfl)) rfl rfl ?_
  refine go_ ?_
  refine ch_n fun hU => ?_
  refine aw_r ?_
  obtain rfl := Option.some.inj hg
  exact fin_ [] ⟨rfl, rfl⟩
 ·refine awp_skip ?_
  repeat first | refine st_ ?_ | refine sn_ ?_
  refine sr_ 48 104 hU ?_
  refine go_ ?_
  obtain ⟨e_2, he_2, hg⟩ := bind_some hg
  refine go_ ?_
  refine c0_ rfl rfl (r_fieldE fd40_11 ty38 (by decide) (enc_lt api_Certificate.enc_len (getI_at he_2) (o := 13) (by decide) rfl)) rfl rfl ?_
  refine c0_ rfl rfl (r_fieldE fd38_0 ty3 (by decide) (enc_lt api_Certificate.enc_len (getI_at he_2) (o := 13) (by decide) rfl)) rfl rfl ?_
  refine c0_ rfl rfl (r_loadE1 ty3 (enc_cell api_Certificate.enc_len (getI_at he_2) (o := 13) (c := .int .i64 e_2.Seal.Key) rfl rfl)) rfl rfl ?_
  refine go_ ?_
  refine ch_n fun hU => ?_
  refine aw_r ?_
  obtain rfl := Option.some.inj hg
  exact fin_ [] ⟨rfl, rfl⟩
theorem w_der_Text (s : ByteArray) (r : api_Value) (hg : g_der_Text s = some r) : Fn Try.prog 80 0 [.val (.string s)] [] (fun d b => d = .agg (api_Value.dv r) ∧ b = []) := by
 unfold g_der_Text at hg
 refine Fn.of Try.func80 rfl rfl rfl fun w0 I ρ0 => ?_
 show awp _ ⟨w0, I, ρ0, 0, 0, 6⟩ _ _ _
 refine sr_ 0 8 mk_U ?_
 refine go_ ?_
 refine ch_n fun hU => ?_
 refine sr_ 8 40 hU ?_
 refine go_ ?_
 refine c0_ rfl rfl (r_convB und9 und70 und5) rfl rfl ?_
 refine c0_ rfl rfl (.build (r := [.val (.int .i64 12), .sl 1 (encL e8 (toB s)), .val (.bool false), .val (.slice none 0 0)]) und87 pl87 z87 (by kernel_rfl) rfl) rfl rfl ?_
 refine go_ ?_
 refine ch_n fun hU => ?_
 refine aw_r ?_
 obtain rfl := Option.some.inj hg
 exact fin_ [] ⟨rfl, rfl⟩
theorem w_der_Int (n : Int) (r : api_Value) (hg : g_der_Int n = some r) : Fn Try.prog 82 0 [.val (.int .i64 n)] [] (fun d b => d = .agg (api_Value.dv r) ∧ b = []) := by
 unfold g_der_Int at hg
 refine Fn.of Try.func82 rfl rfl rfl fun w0 I ρ0 => ?_
 show awp _ ⟨w0, I, ρ0, 0, 0, 48⟩ _ _ _
 refine sr_ 0 8 mk_U ?_
 refine go_ ?_
 refine ch_n fun hU => ?_
 refine sr_ 8 16 hU ?_
 refine go_ ?_
 refine ch_n fun hU => ?_
 refine awp_seq ?_
 refine sr_ 16 24 hU ?_
 refine go_ ?_
 refine ch_n fun hU => ?_
 refine awp_block ?_
 refine lp_ (fun ((i_1, b_1) : Int × List UInt8) => mk [(0, .val (.int .i64 n)), (2, .ptr 0 0), (3, .row 1), (4, .val (.int .i64 i_1))] [(0, .box [.val (.int .i64 0), .val (.slice none 0 0), .val (.bool false), .val (.slice none 0 0)] 87), (1, .row 5 1 (encL e8 b_1))] 2) hg (sub_ [(0, 0)]) ?_
 rintro ⟨i_1, b_1⟩ m1 o1 hg hn1
 replace hg : g_der_Int.l1 n i_1 b_1 = some o1 := hg
 show awp _ _ _ _ (mk _ _ _)
 unfold g_der_Int.l1 at hg
 refine awp_seq ?_
 refine sr_ 2 18 mk_U ?_
 refine go_ ?_
 refine ch_n fun hU => ?_
 refine cg_ rfl hg (fun h5 hg => ?_) fun h5 hg => ?_
 ·refine awp_skip ?_
  repeat first | refine st_ ?_ | refine sn_ ?_
  refine awp_seq ?_
  refine awp_block ?_
  refine awp_region (sys _ _ []) 18 90 hU rfl rfl ?_
  refine go_ ?_
  refine c0_ rfl rfl (r_convK und3 und117) rfl rfl ?_
  refine go_ ?_
  obtain ⟨q, hq, hg⟩ := bind_some hg
  refine c0_ rfl rfl (r_shrK hq) rfl rfl ?_
  refine c0_ rfl rfl (r_conv_u8 und117 und5) rfl rfl ?_
  refine c0_ rfl rfl (r_buildFull sl70 z5 (by decide) rfl rfl rfl rfl ck5 (cs := [.int .u8 ((u8 q).toNat : Int)]) (.cons .int .nil) rfl (l := ([(u8 q)] : List UInt8)) (f := e8) rfl) rfl rfl ?_
  obtain ⟨l, hl, hg⟩ := bind_some hg
  refine ch_s (rd := [1, 66]) rfl rfl (r_append sl70 e8_len .row rfl .row rfl hl rfl) rfl rfl ?_
  refine go_ ?_
  refine ch_n fun hU => ?_
  refine awp_region (sys _ _ []) 90 114 hU rfl rfl ?_
  refine go_ ?_
  refine ch_n fun hU => ?_
  obtain rfl := Option.some.inj hg
  exact ⟨((W (i_1 - 8), l), m1), Nat.lt_succ_self _, hn1, sub_ [(0, 0), (1, 74)]⟩
 ·refine awp_exit ?_
  repeat first | refine st_ ?_ | refine sn_ ?_
  replace hg := leave hg hn1
  refine awp_seq ?_
  refine awp_block ?_
  refine lp_ (fun (b_2 : List UInt8) => mk [(2, .ptr 0 0), (3, .sl 1 (encL e8 b_2))] [(0, .box [.val (.int .i64 0), .val (.slice none 0 0), .val (.bool false), .val (.slice none 0 0)] 87)] 1) hg (sub_ [(0, 0)]) ?_
  rintro b_2 m2 o2 hg hn2
  replace hg : g_der_Int.l2 b_2 = some o2 := hg
  show awp _ _ _ _ (mk _ _ _)
  unfold g_der_Int.l2 at hg
  refine awp_seq ?_
  refine awp_cut (ι := Bool) (fun (x43_3 : Bool) => mk [(2, .ptr 0 0), (3, .sl 1 (encL e8 b_2)), (43, .val (.bool x43_3))] [(0, .box [.val (.int .i64 0), .val (.slice none 0 0), .val (.bool false), .val (.slice none 0 0)] 87)] 1) (fun (x43_3 : Bool) => g_der_Int.j3 b_2 x43_3 = some o2) ?_ ?_
  ·refine awp_region (sys _ _ []) 1 217 mk_U rfl rfl ?_
   refine go_ ?_
   rcases bc_ hg with ⟨h8, hg⟩ | ⟨h8, hg⟩
   ·refine go_ ?_
    obtain ⟨e, he, hg⟩ := bind_some hg
    refine go_ ?_
    refine c0_ (gdv_t rfl rfl h8) rfl (r_loadE1 ty5 (enc_cell e8_len (getI_at he) (o := 0) (c := .int .u8 (e.toNat : Int)) rfl rfl)) rfl rfl ?_
    refine go_ ?_
    rcases bc_ hg with ⟨h9, hg⟩ | ⟨h9, hg⟩
    ·refine go_ ?_
     obtain ⟨e_2, he_2, hg⟩ := bind_some hg
     refine go_ ?_
     refine c0_ (gdv_t rfl rfl h9) rfl (r_loadE1 ty5 (enc_cell e8_len (getI_at he_2) (o := 0) (c := .int .u8 (e_2.toNat : Int)) rfl rfl)) rfl rfl ?_
     refine go_ ?_
     rcases bc_ hg with ⟨h10, hg⟩ | ⟨h10, hg⟩
     ·refine go_ ?_
      refine ch_n fun hU => ?_
      exact ⟨true, hg, sub_ [(0, 0)]⟩
     ·refine go_ ?_
      refine c0_ (gdv_t rfl rfl h10) rfl (r_loadE1 ty5 (enc_cell e8_len (getI_at he) (o := 0) (c := .int .u8 (e.toNat : Int)) rfl rfl)) rfl rfl ?_
      refine go_ ?_
      rcases bc_ hg with ⟨h12, hg⟩ | ⟨h12, hg⟩
      ·refine go_ ?_
       refine c0_ (gdv_t rfl rfl h12) rfl (r_loadE1 ty5 (enc_cell e8_len (getI_at he_2) (o := 0) (c := .int .u8 (e_2.toNat : Int)) rfl rfl)) rfl rfl ?_
       refine go_ ?_
       refine ch_n fun hU => ?_
       exact ⟨decide (128 ≤ (e_2.toNat : Int)), hg, sub_ [(0, 0)]⟩
      ·refine go_ ?_
       refine ch_n fun hU => ?_
       exact ⟨false, hg, sub_ [(0, 0)]⟩
    ·refine go_ ?_
     refine c0_ (gdv_t rfl rfl rfl) rfl (r_loadE1 ty5 (enc_cell e8_len (getI_at he) (o := 0) (c := .int .u8 (e.toNat : Int)) rfl rfl)) rfl rfl ?_
     refine go_ ?_
     rcases bc_ hg with ⟨h15, hg⟩ | ⟨h15, hg⟩
     ·refine go_ ?_
      obtain ⟨e_3, he_3, hg⟩ := bind_some hg
      refine go_ ?_
      refine c0_ (gdv_t rfl rfl h15) rfl (r_loadE1 ty5 (enc_cell e8_len (getI_at he_3) (o := 0) (c := .int .u8 (e_3.toNat : Int)) rfl rfl)) rfl rfl ?_
      refine go_ ?_
      refine ch_n fun hU => ?_
      exact ⟨decide (128 ≤ (e_3.toNat : Int)), hg, sub_ [(0, 0)]⟩
     ·refine go_ ?_
      refine ch_n fun hU => ?_
      exact ⟨false, hg, sub_ [(0, 0)]⟩
   ·refine go_ ?_
    refine ch_n fun hU => ?_
    exact ⟨false, hg, sub_ [(0, 0)]⟩
  ·rintro x43_3 hg
   replace hg : g_der_Int.j3 b_2 x43_3 = some o2 := hg
   show awp _ _ _ _ (mk _ _ _)
   unfold g_der_Int.j3 at hg
   refine cg_ rfl hg (fun h19 hg => ?_) fun h19 hg => ?_
   ·refine awp_skip ?_
    repeat first | refine st_ ?_ | refine sn_ ?_
    refine awp_block ?_
    refine awp_region (sys _ _ []) 1 25 mk_U rfl rfl ?_
    refine go_ ?_
    obtain ⟨l_2, hl_2, hg⟩ := bind_some hg
    refine c0_ rfl rfl (r_sliS_lo sl70 e8_len hl_2) rfl rfl ?_
    refine go_ ?_
    refine ch_n fun hU => ?_
    obtain rfl := Option.some.inj hg
    exact ⟨(l_2, m2), Nat.lt_succ_self _, hn2, sub_ [(0, 0)]⟩
   ·refine awp_exit ?_
    repeat first | refine st_ ?_ | refine sn_ ?_
    replace hg := leave hg hn2
    refine sr_ 1 25 mk_U ?_
    refine go_ ?_
    refine c0_ rfl rfl (.build (r := [.val (.int .i64 2), .sl 1 (encL e8 b_2), .val (.bool false), .val (.slice none 0 0)]) und87 pl87 z87 (by kernel_rfl) rfl) rfl rfl ?_
    refine go_ ?_
    refine ch_n fun hU => ?_
    refine aw_r ?_
    obtain rfl := Option.some.inj hg
    exact fin_ [] ⟨rfl, rfl⟩
end Go.Proofs.Ytggimglopfdhiaa
