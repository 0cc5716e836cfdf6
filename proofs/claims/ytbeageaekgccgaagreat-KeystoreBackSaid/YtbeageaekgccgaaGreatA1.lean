/- The program computes the plain functions. -/
import Derived.Test.YtbeageaekgccgaaGreatT1
set_option linter.unusedVariables false
set_option linter.unusedSimpArgs false
set_option maxRecDepth 100000
set_option maxHeartbeats 1600000
namespace Go.Proofs.YtbeageaekgccgaaGreat
open Go.RowKit
theorem w_make_Light (l : (List Int)) (r : Bool) (hg : g_make_Light l = some r) : Fn Tryz.prog 6 0 [.sl 1 (encL eI l)] [] (fun d' b' => d' = .val (.bool r) ∧ b' = []) := by
 unfold g_make_Light at hg
 refine Fn.of Tryz.func6 rfl rfl rfl fun w0 I ρ0 => ?_
 show awp _ ⟨w0, I, ρ0, 0, 0, 6⟩ _ _ _
 refine sr_ 0 8 mk_U ?_
 refine go_ ?_
 refine ch_n fun hU => ?_
 refine sr_ 8 40 hU ?_
 refine go_ ?_
 refine ch_n fun hU => ?_
 refine aw_r ?_
 obtain rfl := Option.some.inj hg
 exact fin_ [] ⟨rfl, rfl⟩
theorem w_catalog_Named (s : ByteArray) (r : Bool) (hg : g_catalog_Named s = some r) : Fn Tryz.prog 43 0 [.val (.string s)] [] (fun d' b' => d' = .val (.bool r) ∧ b' = []) := by
 unfold g_catalog_Named at hg
 refine Fn.of Tryz.func43 rfl rfl rfl fun w0 I ρ0 => ?_
 show awp _ ⟨w0, I, ρ0, 0, 0, 27⟩ _ _ _
 refine sr_ 0 8 mk_U ?_
 refine go_ ?_
 refine ch_n fun hU => ?_
 refine awp_seq ?_
 refine sr_ 8 40 hU ?_
 refine go_ ?_
 refine c0_ rfl rfl (r_convB und9 und29 und5) rfl rfl ?_
 refine go_ ?_
 refine ch_n fun hU => ?_
 refine awp_block ?_
 refine lp_ (fun (x8_1 : Int) => mk [(0, .val (.string s)), (6, .sl 1 (encL e8 (toB s))), (7, .val (.int .i64 ((toB s).length : Int))), (8, .val (.int .i64 x8_1))] [] 0) hg (sub_ []) ?_
 rintro x8_1 m1 o1 hg hn1
 replace hg : g_catalog_Named.l1 s x8_1 = some o1 := hg
 show awp _ _ _ _ (mk _ _ _)
 unfold g_catalog_Named.l1 at hg
 refine sr_ 0 8 mk_U ?_
 refine go_ ?_
 refine ch_n fun hU => ?_
 refine awp_seq ?_
 refine cg_ rfl hg (fun h4 hg => ?_) fun h4 hg => ?_
 ·refine awp_skip ?_
  repeat first | refine st_ ?_ | refine sn_ ?_
  refine awp_seq ?_
  refine awp_block ?_
  refine sr_ 8 32 hU ?_
  obtain ⟨e, he, hg⟩ := bind_some hg
  refine go_ ?_
  refine c0_ rfl rfl (r_loadE1 ty5 (enc_cell e8_len (getI_at he) (o := 0) (c := .int .u8 (e.toNat : Int)) rfl rfl)) rfl rfl ?_
  refine go_ ?_
  refine ch_n fun hU => ?_
  refine awp_cut (ι := Bool) (fun (x17_2 : Bool) => mk [(0, .val (.string s)), (6, .sl 1 (encL e8 (toB s))), (7, .val (.int .i64 ((toB s).length : Int))), (8, .val (.int .i64 x8_1)), (17, .val (.bool x17_2))] [] 0) (fun (x17_2 : Bool) => g_catalog_Named.j2 x8_1 x17_2 = some o1) ?_ ?_
  ·refine awp_region (sys _ _ []) 32 80 hU rfl rfl ?_
   refine go_ ?_
   rcases bc_ hg with ⟨h6, hg⟩ | ⟨h6, hg⟩
   ·refine go_ ?_
    refine ch_n fun hU => ?_
    exact ⟨true, hg, sub_ []⟩
   ·refine go_ ?_
    refine ch_n fun hU => ?_
    exact ⟨decide (126 < (e.toNat : Int)), hg, sub_ []⟩
  ·rintro x17_2 hg
   replace hg : g_catalog_Named.j2 x8_1 x17_2 = some o1 := hg
   show awp _ _ _ _ (mk _ _ _)
   unfold g_catalog_Named.j2 at hg
   refine cg_ rfl hg (fun h9 hg => ?_) fun h9 hg => ?_
   ·refine awp_seq ?_
    refine awp_region (sys _ _ []) 0 8 mk_U rfl rfl ?_
    refine go_ ?_
    refine ch_n fun hU => ?_
    refine aw_r ?_
    replace hg := leave hg hn1
    obtain rfl := Option.some.inj hg
    exact fin_ [] ⟨rfl, rfl⟩
   ·refine awp_skip ?_
    repeat first | refine st_ ?_ | refine sn_ ?_
    refine awp_region (sys _ _ []) 0 16 mk_U rfl rfl ?_
    refine go_ ?_
    refine ch_n fun hU => ?_
    obtain rfl := Option.some.inj hg
    exact ⟨(W (x8_1 + 1), m1), Nat.lt_succ_self _, hn1, sub_ []⟩
 ·refine awp_exit ?_
  repeat first | refine st_ ?_ | refine sn_ ?_
  replace hg := leave hg hn1
  refine sr_ 8 80 hU ?_
  refine go_ ?_
  refine c0_ rfl rfl (r_lenT und9) rfl rfl ?_
  refine go_ ?_
  rcases bc_ hg with ⟨h12, hg⟩ | ⟨h12, hg⟩
  ·refine go_ ?_
   refine c0_ (gdv_t rfl rfl h12) rfl (r_lenT und9) rfl rfl ?_
   refine go_ ?_
   refine ch_n fun hU => ?_
   refine aw_r ?_
   obtain rfl := Option.some.inj hg
   exact fin_ [] ⟨rfl, rfl⟩
  ·refine go_ ?_
   refine ch_n fun hU => ?_
   refine aw_r ?_
   obtain rfl := Option.some.inj hg
   exact fin_ [] ⟨rfl, rfl⟩
theorem w_catalog_rows  (r : (List catalog_row)) (hg : g_catalog_rows = some r) : Fn Tryz.prog 167 0 [] [] (fun d' b' => d' = .agg [.val (.string ((r[0]!).name)), .val (.int .i64 ((r[0]!).kind)), .val (.int .i64 ((r[0]!).way)), .sl 1 (encL eI ((r[0]!).sizes)), .sl 1 (encL eI ((r[0]!).strengths)), .val (.string ((r[1]!).name)), .val (.int .i64 ((r[1]!).kind)), .val (.int .i64 ((r[1]!).way)), .sl 1 (encL eI ((r[1]!).sizes)), .sl 1 (encL eI ((r[1]!).strengths)), .val (.string ((r[2]!).name)), .val (.int .i64 ((r[2]!).kind)), .val (.int .i64 ((r[2]!).way)), .sl 1 (encL eI ((r[2]!).sizes)), .sl 1 (encL eI ((r[2]!).strengths)), .val (.string ((r[3]!).name)), .val (.int .i64 ((r[3]!).kind)), .val (.int .i64 ((r[3]!).way)), .sl 1 (encL eI ((r[3]!).sizes)), .sl 1 (encL eI ((r[3]!).strengths)), .val (.string ((r[4]!).name)), .val (.int .i64 ((r[4]!).kind)), .val (.int .i64 ((r[4]!).way)), .sl 1 (encL eI ((r[4]!).sizes)), .sl 1 (encL eI ((r[4]!).strengths)), .val (.string ((r[5]!).name)), .val (.int .i64 ((r[5]!).kind)), .val (.int .i64 ((r[5]!).way)), .sl 1 (encL eI ((r[5]!).sizes)), .sl 1 (encL eI ((r[5]!).strengths)), .val (.string ((r[6]!).name)), .val (.int .i64 ((r[6]!).kind)), .val (.int .i64 ((r[6]!).way)), .sl 1 (encL eI ((r[6]!).sizes)), .sl 1 (encL eI ((r[6]!).strengths)), .val (.string ((r[7]!).name)), .val (.int .i64 ((r[7]!).kind)), .val (.int .i64 ((r[7]!).way)), .sl 1 (encL eI ((r[7]!).sizes)), .sl 1 (encL eI ((r[7]!).strengths)), .val (.string ((r[8]!).name)), .val (.int .i64 ((r[8]!).kind)), .val (.int .i64 ((r[8]!).way)), .sl 1 (encL eI ((r[8]!).sizes)), .sl 1 (encL eI ((r[8]!).strengths)), .val (.string ((r[9]!).name)), .val (.int .i64 ((r[9]!).kind)), .val (.int .i64 ((r[9]!).way)), .sl 1 (encL eI ((r[9]!).sizes)), .sl 1 (encL eI ((r[9]!).strengths)), .val (.string ((r[10]!).name)), .val (.int .i64 ((r[10]!).kind)), .val (.int .i64 ((r[10]!).way)), .sl 1 (encL eI ((r[10]!).sizes)), .sl 1 (encL eI ((r[10]!).strengths)), .val (.string ((r[11]!).name)), .val (.int .i64 ((r[11]!).kind)), .val (.int .i64 ((r[11]!).way)), .sl 1 (encL eI ((r[11]!).sizes)), .sl 1 (encL eI ((r[11]!).strengths)), .val (.string ((r[12]!).name)), .val (.int .i64 ((r[12]!).kind)), .val (.int .i64 ((r[12]!).way)), .sl 1 (encL eI ((r[12]!).sizes)), .sl 1 (encL eI ((r[12]!).strengths)), .val (.string ((r[13]!).name)), .val (.int .i64 ((r[13]!).kind)), .val (.int .i64 ((r[13]!).way)), .sl 1 (encL eI ((r[13]!).sizes)), .sl 1 (encL eI ((r[13]!).strengths)), .val (.string ((r[14]!).name)), .val (.int .i64 ((r[14]!).kind)), .val (.int .i64 ((r[14]!).way)), .sl 1 (encL eI ((r[14]!).sizes)), .sl 1 (encL eI ((r[14]!).strengths)), .val (.string ((r[15]!).name)), .val (.int .i64 ((r[15]!).kind)), .val (.int .i64 ((r[15]!).way)), .sl 1 (encL eI ((r[15]!).sizes)), .sl 1 (encL eI ((r[15]!).strengths)), .val (.string ((r[16]!).name)), .val (.int .i64 ((r[16]!).kind)), .val (.int .i64 ((r[16]!).way)), .sl 1 (encL eI ((r[16]!).sizes)), .sl 1 (encL eI ((r[16]!).strengths)), .val (.string ((r[17]!).name)), .val (.int .i64 ((r[17]!).kind)), .val (.int .i64 ((r[17]!).way)), .sl 1 (encL eI ((r[17]!).sizes)), .sl 1 (encL eI ((r[17]!).strengths)), .val (.string ((r[18]!).name)), .val (.int .i64 ((r[18]!).kind)), .val (.int .i64 ((r[18]!).way)), .sl 1 (encL eI ((r[18]!).sizes)), .sl 1 (encL eI ((r[18]!).strengths)), .val (.string ((r[19]!).name)), .val (.int .i64 ((r[19]!).kind)), .val (.int .i64 ((r[19]!).way)), .sl 1 (encL eI ((r[19]!).sizes)), .sl 1 (encL eI ((r[19]!).strengths)), .val (.string ((r[20]!).name)), .val (.int .i64 ((r[20]!).kind)), .val (.int .i64 ((r[20]!).way)), .sl 1 (encL eI ((r[20]!).sizes)), .sl 1 (encL eI ((r[20]!).strengths)), .val (.string ((r[21]!).name)), .val (.int .i64 ((r[21]!).kind)), .val (.int .i64 ((r[21]!).way)), .sl 1 (encL eI ((r[21]!).sizes)), .sl 1 (encL eI ((r[21]!).strengths)), .val (.string ((r[22]!).name)), .val (.int .i64 ((r[22]!).kind)), .val (.int .i64 ((r[22]!).way)), .sl 1 (encL eI ((r[22]!).sizes)), .sl 1 (encL eI ((r[22]!).strengths))] ∧ b' = []) := by
 unfold g_catalog_rows at hg
 refine Fn.of Tryz.func167 rfl rfl rfl fun w0 I ρ0 => ?_
 show awp _ ⟨w0, I, ρ0, 0, 0, 46⟩ _ _ _
 refine sr_ 0 8 mk_U ?_
 refine go_ ?_
 refine ch_n fun hU => ?_
 refine sr_ 8 376 hU ?_
 refine c0_ rfl rfl (r_buildFull sl22 z3 (by decide) rfl rfl rfl rfl ck3 (cs := [.int .i64 18]) (.cons .int .nil) rfl (l := ([18] : List Int)) (f := eI) rfl) rfl rfl ?_
 refine c0_ rfl rfl (.build (r := [.val (.string (⟨#[109, 100, 53]⟩ : ByteArray)), .val (.int .i64 1), .val (.int .i64 0), .val (.slice none 0 0), .row 8]) und158 pl158 z158 (by kernel_rfl) rfl) rfl rfl ?_
 refine c0_ rfl rfl (r_buildFull sl22 z3 (by decide) rfl rfl rfl rfl ck3 (cs := [.int .i64 60]) (.cons .int .nil) rfl (l := ([60] : List Int)) (f := eI) rfl) rfl rfl ?_
 refine c0_ rfl rfl (.build (r := [.val (.string (⟨#[115, 104, 97, 49]⟩ : ByteArray)), .val (.int .i64 1), .val (.int .i64 0), .val (.slice none 0 0), .row 24]) und158 pl158 z158 (by kernel_rfl) rfl) rfl rfl ?_
 refine c0_ rfl rfl (r_buildFull sl22 z3 (by decide) rfl rfl rfl rfl ck3 (cs := [.int .i64 128]) (.cons .int .nil) rfl (l := ([128] : List Int)) (f := eI) rfl) rfl rfl ?_
 refine c0_ rfl rfl (.build (r := [.val (.string (⟨#[115, 104, 97, 50, 53, 54]⟩ : ByteArray)), .val (.int .i64 1), .val (.int .i64 0), .val (.slice none 0 0), .row 40]) und158 pl158 z158 (by kernel_rfl) rfl) rfl rfl ?_
 refine c0_ rfl rfl (r_buildFull sl22 z3 (by decide) rfl rfl rfl rfl ck3 (cs := [.int .i64 192]) (.cons .int .nil) rfl (l := ([192] : List Int)) (f := eI) rfl) rfl rfl ?_
 refine c0_ rfl rfl (.build (r := [.val (.string (⟨#[115, 104, 97, 51, 56, 52]⟩ : ByteArray)), .val (.int .i64 1), .val (.int .i64 0), .val (.slice none 0 0), .row 56]) und158 pl158 z158 (by kernel_rfl) rfl) rfl rfl ?_
 refine c0_ rfl rfl (.build (r := [.val (.string (⟨#[114, 115, 97]⟩ : ByteArray)), .val (.int .i64 2), .val (.int .i64 1), .val (.slice none 0 0), .val (.slice none 0 0)]) und158 pl158 z158 (by kernel_rfl) rfl) rfl rfl ?_
 refine c0_ rfl rfl (.build (r := [.val (.string (⟨#[100, 115, 97]⟩ : ByteArray)), .val (.int .i64 2), .val (.int .i64 1), .val (.slice none 0 0), .val (.slice none 0 0)]) und158 pl158 z158 (by kernel_rfl) rfl) rfl rfl ?_
 refine c0_ rfl rfl (.build (r := [.val (.string (⟨#[101, 99, 100, 115, 97]⟩ : ByteArray)), .val (.int .i64 2), .val (.int .i64 2), .val (.slice none 0 0), .val (.slice none 0 0)]) und158 pl158 z158 (by kernel_rfl) rfl) rfl rfl ?_
 refine c0_ rfl rfl (r_buildFull sl22 z3 (by decide) rfl rfl rfl rfl ck3 (cs := [.int .i64 128]) (.cons .int .nil) rfl (l := ([128] : List Int)) (f := eI) rfl) rfl rfl ?_
 refine c0_ rfl rfl (.build (r := [.val (.string (⟨#[101, 100, 50, 53, 53, 49, 57]⟩ : ByteArray)), .val (.int .i64 2), .val (.int .i64 0), .val (.slice none 0 0), .row 96]) und158 pl158 z158 (by kernel_rfl) rfl) rfl rfl ?_
 refine c0_ rfl rfl (r_buildFull sl22 z3 (by decide) rfl rfl rfl rfl ck3 (cs := [.int .i64 44, .int .i64 65, .int .i64 87]) (.cons .int (.cons .int (.cons .int .nil))) rfl (l := ([44, 65, 87] : List Int)) (f := eI) rfl) rfl rfl ?_
 refine c0_ rfl rfl (r_buildFull sl22 z3 (by decide) rfl rfl rfl rfl ck3 (cs := [.int .i64 128, .int .i64 192, .int .i64 256]) (.cons .int (.cons .int (.cons .int .nil))) rfl (l := ([128, 192, 256] : List Int)) (f := eI) rfl) rfl rfl ?_
 refine c0_ rfl rfl (.build (r := [.val (.string (⟨#[109, 108, 100, 115, 97]⟩ : ByteArray)), .val (.int .i64 2), .val (.int .i64 3), .row 112, .row 120]) und158 pl158 z158 (by kernel_rfl) rfl) rfl rfl ?_
 refine c0_ rfl rfl (.build (r := [.val (.string (⟨#[114, 115, 97, 107, 120]⟩ : ByteArray)), .val (.int .i64 3), .val (.int .i64 1), .val (.slice none 0 0), .val (.slice none 0 0)]) und158 pl158 z158 (by kernel_rfl) rfl) rfl rfl ?_
 refine c0_ rfl rfl (.build (r := [.val (.string (⟨#[100, 104, 101]⟩ : ByteArray)), .val (.int .i64 3), .val (.int .i64 1), .val (.slice none 0 0), .val (.slice none 0 0)]) und158 pl158 z158 (by kernel_rfl) rfl) rfl rfl ?_
 refine c0_ rfl rfl (.build (r := [.val (.string (⟨#[101, 99, 100, 104, 101]⟩ : ByteArray)), .val (.int .i64 3), .val (.int .i64 2), .val (.slice none 0 0), .val (.slice none 0 0)]) und158 pl158 z158 (by kernel_rfl) rfl) rfl rfl ?_
 refine c0_ rfl rfl (r_buildFull sl22 z3 (by decide) rfl rfl rfl rfl ck3 (cs := [.int .i64 512, .int .i64 768, .int .i64 1024]) (.cons .int (.cons .int (.cons .int .nil))) rfl (l := ([512, 768, 1024] : List Int)) (f := eI) rfl) rfl rfl ?_
 refine c0_ rfl rfl (r_buildFull sl22 z3 (by decide) rfl rfl rfl rfl ck3 (cs := [.int .i64 128, .int .i64 192, .int .i64 256]) (.cons .int (.cons .int (.cons .int .nil))) rfl (l := ([128, 192, 256] : List Int)) (f := eI) rfl) rfl rfl ?_
 refine c0_ rfl rfl (.build (r := [.val (.string (⟨#[109, 108, 107, 101, 109]⟩ : ByteArray)), .val (.int .i64 3), .val (.int .i64 3), .row 160, .row 168]) und158 pl158 z158 (by kernel_rfl) rfl) rfl rfl ?_
 refine c0_ rfl rfl (r_buildFull sl22 z3 (by decide) rfl rfl rfl rfl ck3 (cs := [.int .i64 40, .int .i64 128]) (.cons .int (.cons .int .nil)) rfl (l := ([40, 128] : List Int)) (f := eI) rfl) rfl rfl ?_
 refine c0_ rfl rfl (r_buildFull sl22 z3 (by decide) rfl rfl rfl rfl ck3 (cs := [.int .i64 40, .int .i64 60]) (.cons .int (.cons .int .nil)) rfl (l := ([40, 60] : List Int)) (f := eI) rfl) rfl rfl ?_
 refine c0_ rfl rfl (.build (r := [.val (.string (⟨#[114, 99, 52]⟩ : ByteArray)), .val (.int .i64 4), .val (.int .i64 3), .row 184, .row 192]) und158 pl158 z158 (by kernel_rfl) rfl) rfl rfl ?_
 refine c0_ rfl rfl (r_buildFull sl22 z3 (by decide) rfl rfl rfl rfl ck3 (cs := [.int .i64 112, .int .i64 168]) (.cons .int (.cons .int .nil)) rfl (l := ([112, 168] : List Int)) (f := eI) rfl) rfl rfl ?_
 refine c0_ rfl rfl (r_buildFull sl22 z3 (by decide) rfl rfl rfl rfl ck3 (cs := [.int .i64 80, .int .i64 112]) (.cons .int (.cons .int .nil)) rfl (l := ([80, 112] : List Int)) (f := eI) rfl) rfl rfl ?_
 refine c0_ rfl rfl (.build (r := [.val (.string (⟨#[100, 101, 115, 51]⟩ : ByteArray)), .val (.int .i64 4), .val (.int .i64 3), .row 208, .row 216]) und158 pl158 z158 (by kernel_rfl) rfl) rfl rfl ?_
 refine c0_ rfl rfl (r_buildFull sl22 z3 (by decide) rfl rfl rfl rfl ck3 (cs := [.int .i64 128, .int .i64 256]) (.cons .int (.cons .int .nil)) rfl (l := ([128, 256] : List Int)) (f := eI) rfl) rfl rfl ?_
 refine c0_ rfl rfl (r_buildFull sl22 z3 (by decide) rfl rfl rfl rfl ck3 (cs := [.int .i64 128, .int .i64 256]) (.cons .int (.cons .int .nil)) rfl (l := ([128, 256] : List Int)) (f := eI) rfl) rfl rfl ?_
 refine c0_ rfl rfl (.build (r := [.val (.string (⟨#[97, 101, 115, 99, 98, 99]⟩ : ByteArray)), .val (.int .i64 4), .val (.int .i64 3), .row 232, .row 240]) und158 pl158 z158 (by kernel_rfl) rfl) rfl rfl ?_
 refine c0_ rfl rfl (r_buildFull sl22 z3 (by decide) rfl rfl rfl rfl ck3 (cs := [.int .i64 128, .int .i64 256]) (.cons .int (.cons .int .nil)) rfl (l := ([128, 256] : List Int)) (f := eI) rfl) rfl rfl ?_
 refine c0_ rfl rfl (r_buildFull sl22 z3 (by decide) rfl rfl rfl rfl ck3 (cs := [.int .i64 128, .int .i64 256]) (.cons .int (.cons .int .nil)) rfl (l := ([128, 256] : List Int)) (f := eI) rfl) rfl rfl ?_
 refine c0_ rfl rfl (.build (r := [.val (.string (⟨#[97, 101, 115, 103, 99, 109]⟩ : ByteArray)), .val (.int .i64 4), .val (.int .i64 3), .row 256, .row 264]) und158 pl158 z158 (by kernel_rfl) rfl) rfl rfl ?_
 refine c0_ rfl rfl (r_buildFull sl22 z3 (by decide) rfl rfl rfl rfl ck3 (cs := [.int .i64 256]) (.cons .int .nil) rfl (l := ([256] : List Int)) (f := eI) rfl) rfl rfl ?_
 refine c0_ rfl rfl (.build (r := [.val (.string (⟨#[99, 104, 97, 99, 104, 97]⟩ : ByteArray)), .val (.int .i64 4), .val (.int .i64 0), .val (.slice none 0 0), .row 280]) und158 pl158 z158 (by kernel_rfl) rfl) rfl rfl ?_
 refine c0_ rfl rfl (r_buildFull sl22 z3 (by decide) rfl rfl rfl rfl ck3 (cs := [.int .i64 64]) (.cons .int .nil) rfl (l := ([64] : List Int)) (f := eI) rfl) rfl rfl ?_
 refine c0_ rfl rfl (.build (r := [.val (.string (⟨#[104, 109, 97, 99, 109, 100, 53]⟩ : ByteArray)), .val (.int .i64 5), .val (.int .i64 0), .val (.slice none 0 0), .row 296]) und158 pl158 z158 (by kernel_rfl) rfl) rfl rfl ?_
 refine c0_ rfl rfl (r_buildFull sl22 z3 (by decide) rfl rfl rfl rfl ck3 (cs := [.int .i64 80]) (.cons .int .nil) rfl (l := ([80] : List Int)) (f := eI) rfl) rfl rfl ?_
 refine c0_ rfl rfl (.build (r := [.val (.string (⟨#[104, 109, 97, 99, 115, 104, 97, 49]⟩ : ByteArray)), .val (.int .i64 5), .val (.int .i64 0), .val (.slice none 0 0), .row 312]) und158 pl158 z158 (by kernel_rfl) rfl) rfl rfl ?_
 refine c0_ rfl rfl (r_buildFull sl22 z3 (by decide) rfl rfl rfl rfl ck3 (cs := [.int .i64 128]) (.cons .int .nil) rfl (l := ([128] : List Int)) (f := eI) rfl) rfl rfl ?_
 refine c0_ rfl rfl (.build (r := [.val (.string (⟨#[104, 109, 97, 99, 115, 104, 97, 50, 53, 54]⟩ : ByteArray)), .val (.int .i64 5), .val (.int .i64 0), .val (.slice none 0 0), .row 328]) und158 pl158 z158 (by kernel_rfl) rfl) rfl rfl ?_
 refine c0_ rfl rfl (r_buildFull sl22 z3 (by decide) rfl rfl rfl rfl ck3 (cs := [.int .i64 256]) (.cons .int .nil) rfl (l := ([256] : List Int)) (f := eI) rfl) rfl rfl ?_
 refine c0_ rfl rfl (.build (r := [.val (.string (⟨#[97, 101, 97, 100]⟩ : ByteArray)), .val (.int .i64 5), .val (.int .i64 0), .val (.slice none 0 0), .row 344]) und158 pl158 z158 (by kernel_rfl) rfl) rfl rfl ?_
 refine c0_ rfl rfl (.buildArr (sz := 5) (r := [.val (.string (⟨#[]⟩ : ByteArray)), .val (.int .i64 0), .val (.int .i64 0), .val (.slice none 0 0), .val (.slice none 0 0), .val (.string (⟨#[109, 100, 53]⟩ : ByteArray)), .val (.int .i64 1), .val (.int .i64 0), .val (.slice none 0 0), .row 8, .val (.string (⟨#[115, 104, 97, 49]⟩ : ByteArray)), .val (.int .i64 1), .val (.int .i64 0), .val (.slice none 0 0), .row 24, .val (.string (⟨#[115, 104, 97, 50, 53, 54]⟩ : ByteArray)), .val (.int .i64 1), .val (.int .i64 0), .val (.slice none 0 0), .row 40, .val (.string (⟨#[115, 104, 97, 51, 56, 52]⟩ : ByteArray)), .val (.int .i64 1), .val (.int .i64 0), .val (.slice none 0 0), .row 56, .val (.string (⟨#[114, 115, 97]⟩ : ByteArray)), .val (.int .i64 2), .val (.int .i64 1), .val (.slice none 0 0), .val (.slice none 0 0), .val (.string (⟨#[100, 115, 97]⟩ : ByteArray)), .val (.int .i64 2), .val (.int .i64 1), .val (.slice none 0 0), .val (.slice none 0 0), .val (.string (⟨#[101, 99, 100, 115, 97]⟩ : ByteArray)), .val (.int .i64 2), .val (.int .i64 2), .val (.slice none 0 0), .val (.slice none 0 0), .val (.string (⟨#[101, 100, 50, 53, 53, 49, 57]⟩ : ByteArray)), .val (.int .i64 2), .val (.int .i64 0), .val (.slice none 0 0), .row 96, .val (.string (⟨#[109, 108, 100, 115, 97]⟩ : ByteArray)), .val (.int .i64 2), .val (.int .i64 3), .row 112, .row 120, .val (.string (⟨#[114, 115, 97, 107, 120]⟩ : ByteArray)), .val (.int .i64 3), .val (.int .i64 1), .val (.slice none 0 0), .val (.slice none 0 0), .val (.string (⟨#[100, 104, 101]⟩ : ByteArray)), .val (.int .i64 3), .val (.int .i64 1), .val (.slice none 0 0), .val (.slice none 0 0), .val (.string (⟨#[101, 99, 100, 104, 101]⟩ : ByteArray)), .val (.int .i64 3), .val (.int .i64 2), .val (.slice none 0 0), .val (.slice none 0 0), .val (.string (⟨#[109, 108, 107, 101, 109]⟩ : ByteArray)), .val (.int .i64 3), .val (.int .i64 3), .row 160, .row 168, .val (.string (⟨#[114, 99, 52]⟩ : ByteArray)), .val (.int .i64 4), .val (.int .i64 3), .row 184, .row 192, .val (.string (⟨#[100, 101, 115, 51]⟩ : ByteArray)), .val (.int .i64 4), .val (.int .i64 3), .row 208, .row 216, .val (.string (⟨#[97, 101, 115, 99, 98, 99]⟩ : ByteArray)), .val (.int .i64 4), .val (.int .i64 3), .row 232, .row 240, .val (.string (⟨#[97, 101, 115, 103, 99, 109]⟩ : ByteArray)), .val (.int .i64 4), .val (.int .i64 3), .row 256, .row 264, .val (.string (⟨#[99, 104, 97, 99, 104, 97]⟩ : ByteArray)), .val (.int .i64 4), .val (.int .i64 0), .val (.slice none 0 0), .row 280, .val (.string (⟨#[104, 109, 97, 99, 109, 100, 53]⟩ : ByteArray)), .val (.int .i64 5), .val (.int .i64 0), .val (.slice none 0 0), .row 296, .val (.string (⟨#[104, 109, 97, 99, 115, 104, 97, 49]⟩ : ByteArray)), .val (.int .i64 5), .val (.int .i64 0), .val (.slice none 0 0), .row 312, .val (.string (⟨#[104, 109, 97, 99, 115, 104, 97, 50, 53, 54]⟩ : ByteArray)), .val (.int .i64 5), .val (.int .i64 0), .val (.slice none 0 0), .row 328, .val (.string (⟨#[97, 101, 97, 100]⟩ : ByteArray)), .val (.int .i64 5), .val (.int .i64 0), .val (.slice none 0 0), .row 344]) und177 (by kernel_rfl) z177 (by kernel_rfl) rfl) rfl rfl ?_
 refine go_ ?_
 refine ch_n fun hU => ?_
 refine aw_r ?_
 obtain rfl := Option.some.inj hg
 exact fin_ [] ⟨rfl, rfl⟩
theorem w_catalog_of (alg : Int) (r : catalog_row × Bool) (hg : g_catalog_of alg = some r) : Fn Tryz.prog 136 0 [.val (.int .i64 alg)] [] (fun d' b' => d' = .tup [.agg (catalog_row.dv r.1), .val (.bool r.2)] ∧ b' = []) := by
 unfold g_catalog_of at hg
 refine Fn.of Tryz.func136 rfl rfl rfl fun w0 I ρ0 => ?_
 show awp _ ⟨w0, I, ρ0, 0, 0, 14⟩ _ _ _
 refine sr_ 0 16 mk_U ?_
 refine go_ ?_
 refine ch_n fun hU => ?_
 refine awp_seq ?_
 refine awp_cut (ι := Bool) (fun (x9_1 : Bool) => mk [(0, .val (.int .i64 alg)), (2, .ptr 0 0), (9, .val (.bool x9_1))] [(0, .box [.val (.string (⟨#[]⟩ : ByteArray)), .val (.int .i64 0), .val (.int .i64 0), .val (.slice none 0 0), .val (.slice none 0 0)] 158)] 1) (fun (x9_1 : Bool) => g_catalog_of.j1 alg x9_1 = some r) ?_ ?_
 ·refine awp_region (sys _ _ []) 16 64 hU rfl rfl ?_
  refine go_ ?_
  rcases bc_ hg with ⟨h2, hg⟩ | ⟨h2, hg⟩
  ·refine go_ ?_
   refine ch_n fun hU => ?_
   exact ⟨true, hg, sub_ [(0, 0)]⟩
  ·refine go_ ?_
   refine ch_n fun hU => ?_
   exact ⟨decide (22 < alg), hg, sub_ [(0, 0)]⟩
 ·rintro x9_1 hg
  replace hg : g_catalog_of.j1 alg x9_1 = some r := hg
  show awp _ _ _ _ (mk _ _ _)
  unfold g_catalog_of.j1 at hg
  refine cg_ rfl hg (fun h5 hg => ?_) fun h5 hg => ?_
  ·refine awp_seq ?_
   refine awp_region (sys _ _ []) 1 25 mk_U rfl rfl ?_
   refine c0_ rfl rfl (.build (r := [.val (.string (⟨#[]⟩ : ByteArray)), .val (.int .i64 0), .val (.int .i64 0), .val (.slice none 0 0), .val (.slice none 0 0)]) und158 pl158 z158 (by kernel_rfl) rfl) rfl rfl ?_
   refine go_ ?_
   refine ch_n fun hU => ?_
   refine aw_r ?_
   obtain rfl := Option.some.inj hg
   exact fin_ [] ⟨rfl, rfl⟩
  ·refine awp_skip ?_
   repeat first | refine st_ ?_ | refine sn_ ?_
   refine sr_ 1 41 mk_U ?_
   obtain ⟨y, hy, hg⟩ := bind_some hg
   refine ca_ (w_catalog_rows _ hy) ?_
   refine go_ ?_
   obtain ⟨e, he, hg⟩ := bind_some hg
   refine c0_ rfl rfl (r_indexAA (f := catalog_row.enc) (L := (arrL 23 y)) und177 ty158 catalog_row.enc_len rfl rfl he (d2 := [.val (.string e.name), .val (.int .i64 e.kind), .val (.int .i64 e.way), .sl 1 (encL eI e.sizes), .sl 1 (encL eI e.strengths)]) rfl) rfl rfl ?_
   refine go_ ?_
   refine ch_n fun hU => ?_
   refine aw_r ?_
   obtain rfl := Option.some.inj hg
   exact fin_ [] ⟨rfl, rfl⟩
theorem w_catalog_modulus (bits : Int) (r : Int) (hg : g_catalog_modulus bits = some r) : Fn Tryz.prog 164 0 [.val (.int .i64 bits)] [] (fun d' b' => d' = .val (.int .i64 r) ∧ b' = []) := by
 unfold g_catalog_modulus at hg
 refine Fn.of Tryz.func164 rfl rfl rfl fun w0 I ρ0 => ?_
 show awp _ ⟨w0, I, ρ0, 0, 0, 21⟩ _ _ _
 refine sr_ 0 8 mk_U ?_
 refine go_ ?_
 refine ch_n fun hU => ?_
 refine awp_seq ?_
 refine sr_ 8 64 hU ?_
 refine c0_ rfl rfl (.buildArr (sz := 1) (r := [.val (.int .i64 1024), .val (.int .i64 56)]) und192 (by kernel_rfl) z192 (by kernel_rfl) rfl) rfl rfl ?_
 refine c0_ rfl rfl (.buildArr (sz := 1) (r := [.val (.int .i64 2048), .val (.int .i64 80)]) und192 (by kernel_rfl) z192 (by kernel_rfl) rfl) rfl rfl ?_
 refine c0_ rfl rfl (.buildArr (sz := 1) (r := [.val (.int .i64 3072), .val (.int .i64 112)]) und192 (by kernel_rfl) z192 (by kernel_rfl) rfl) rfl rfl ?_
 refine c0_ rfl rfl (.buildArr (sz := 1) (r := [.val (.int .i64 7680), .val (.int .i64 128)]) und192 (by kernel_rfl) z192 (by kernel_rfl) rfl) rfl rfl ?_
 refine c0_ rfl rfl (.buildArr (sz := 1) (r := [.val (.int .i64 15360), .val (.int .i64 192)]) und192 (by kernel_rfl) z192 (by kernel_rfl) rfl) rfl rfl ?_
 refine c0_ rfl rfl (.buildArr (sz := 2) (r := [.val (.int .i64 1024), .val (.int .i64 56), .val (.int .i64 2048), .val (.int .i64 80), .val (.int .i64 3072), .val (.int .i64 112), .val (.int .i64 7680), .val (.int .i64 128), .val (.int .i64 15360), .val (.int .i64 192)]) und193 (by kernel_rfl) z193 (by kernel_rfl) rfl) rfl rfl ?_
 refine go_ ?_
 refine ch_n fun hU => ?_
 refine awp_block ?_
 refine lp_ (fun (x11_1 : Int) => mk [(0, .val (.int .i64 bits)), (10, .agg [.val (.int .i64 1024), .val (.int .i64 56), .val (.int .i64 2048), .val (.int .i64 80), .val (.int .i64 3072), .val (.int .i64 112), .val (.int .i64 7680), .val (.int .i64 128), .val (.int .i64 15360), .val (.int .i64 192)]), (11, .val (.int .i64 x11_1))] [] 0) hg (sub_ []) ?_
 rintro x11_1 m1 o1 hg hn1
 replace hg : g_catalog_modulus.l1 bits x11_1 = some o1 := hg
 show awp _ _ _ _ (mk _ _ _)
 unfold g_catalog_modulus.l1 at hg
 refine sr_ 0 8 mk_U ?_
 refine go_ ?_
 refine ch_n fun hU => ?_
 refine awp_seq ?_
 refine cg_ rfl hg (fun h4 hg => ?_) fun h4 hg => ?_
 ·refine awp_skip ?_
  repeat first | refine st_ ?_ | refine sn_ ?_
  refine awp_seq ?_
  refine awp_block ?_
  refine sr_ 8 32 hU ?_
  obtain ⟨e, he, hg⟩ := bind_some hg
  refine c0_ rfl rfl (r_indexAA (f := (eA 2 eI)) (L := ([([1024, 56] : List Int), ([2048, 80] : List Int), ([3072, 112] : List Int), ([7680, 128] : List Int), ([15360, 192] : List Int)] : List (List Int))) und193 ty192 (eA_len eI_len) rfl rfl he (d2 := [.val (.int .i64 (e[0]!)), .val (.int .i64 (e[1]!))]) rfl) rfl rfl ?_
  refine go_ ?_
  refine ch_n fun hU => ?_
  refine sr_ 32 64 hU ?_
  refine go_ ?_
  refine ch_s (rd := [16]) rfl rfl (.idxA (j := 0) und192 ty3 rfl (by decide)) rfl rfl ?_
  refine go_ ?_
  refine ch_n fun hU => ?_
  refine cg_ rfl hg (fun h7 hg => ?_) fun h7 hg => ?_
  ·refine awp_seq ?_
   refine awp_region (sys _ _ []) 64 88 hU rfl rfl ?_
   refine ch_s (rd := [16]) rfl rfl (.idxA (j := 1) und192 ty3 rfl (by decide)) rfl rfl ?_
   refine go_ ?_
   refine ch_n fun hU => ?_
   refine aw_r ?_
   replace hg := leave hg hn1
   obtain rfl := Option.some.inj hg
   exact fin_ [] ⟨rfl, rfl⟩
  ·refine awp_skip ?_
   repeat first | refine st_ ?_ | refine sn_ ?_
   refine awp_region (sys _ _ []) 64 80 hU rfl rfl ?_
   refine go_ ?_
   refine ch_n fun hU => ?_
   obtain rfl := Option.some.inj hg
   exact ⟨(W (x11_1 + 1), m1), Nat.lt_succ_self _, hn1, sub_ []⟩
 ·refine awp_exit ?_
  repeat first | refine st_ ?_ | refine sn_ ?_
  replace hg := leave hg hn1
  refine sr_ 8 16 hU ?_
  refine go_ ?_
  refine ch_n fun hU => ?_
  refine aw_r ?_
  obtain rfl := Option.some.inj hg
  exact fin_ [] ⟨rfl, rfl⟩
theorem w_slices_Index_int (s : (List Int)) (v : Int) (r : Int) (hg : g_slices_Index_int s v = some r) : Fn Tryz.prog 166 0 [.sl 1 (encL eI s), .val (.int .i64 v)] [] (fun d' b' => d' = .val (.int .i64 r) ∧ b' = []) := by
 unfold g_slices_Index_int at hg
 refine Fn.of Tryz.func166 rfl rfl rfl fun w0 I ρ0 => ?_
 show awp _ ⟨w0, I, ρ0, 0, 0, 19⟩ _ _ _
 refine sr_ 0 8 mk_U ?_
 refine go_ ?_
 refine ch_n fun hU => ?_
 refine awp_seq ?_
 refine sr_ 8 32 hU ?_
 refine go_ ?_
 refine ch_n fun hU => ?_
 refine awp_block ?_
 refine lp_ (fun (x8_1 : Int) => mk [(0, .sl 1 (encL eI s)), (1, .val (.int .i64 v)), (7, .val (.int .i64 (s.length : Int))), (8, .val (.int .i64 x8_1))] [] 0) hg (sub_ []) ?_
 rintro x8_1 m1 o1 hg hn1
 replace hg : g_slices_Index_int.l1 s v x8_1 = some o1 := hg
 show awp _ _ _ _ (mk _ _ _)
 unfold g_slices_Index_int.l1 at hg
 refine sr_ 0 8 mk_U ?_
 refine go_ ?_
 refine ch_n fun hU => ?_
 refine awp_seq ?_
 refine cg_ rfl hg (fun h4 hg => ?_) fun h4 hg => ?_
 ·refine awp_skip ?_
  repeat first | refine st_ ?_ | refine sn_ ?_
  refine awp_seq ?_
  refine awp_block ?_
  refine sr_ 8 24 hU ?_
  refine go_ ?_
  refine ch_n fun hU => ?_
  refine sr_ 24 72 hU ?_
  refine go_ ?_
  obtain ⟨e, he, hg⟩ := bind_some hg
  refine go_ ?_
  refine c0_ rfl rfl (r_loadE1 ty3 (enc_cell eI_len (getI_at he) (o := 0) (c := .int .i64 e) rfl rfl)) rfl rfl ?_
  refine go_ ?_
  refine ch_n fun hU => ?_
  refine cg_ rfl hg (fun h7 hg => ?_) fun h7 hg => ?_
  ·refine awp_seq ?_
   refine awp_region (sys _ _ []) 72 88 hU rfl rfl ?_
   refine go_ ?_
   refine ch_n fun hU => ?_
   refine aw_r ?_
   replace hg := leave hg hn1
   obtain rfl := Option.some.inj hg
   exact fin_ [] ⟨rfl, rfl⟩
  ·refine awp_skip ?_
   repeat first | refine st_ ?_ | refine sn_ ?_
   refine awp_region (sys _ _ []) 72 88 hU rfl rfl ?_
   refine go_ ?_
   refine ch_n fun hU => ?_
   obtain rfl := Option.some.inj hg
   exact ⟨(W (x8_1 + 1), m1), Nat.lt_succ_self _, hn1, sub_ []⟩
 ·refine awp_exit ?_
  repeat first | refine st_ ?_ | refine sn_ ?_
  replace hg := leave hg hn1
  refine sr_ 8 16 hU ?_
  refine go_ ?_
  refine ch_n fun hU => ?_
  refine aw_r ?_
  obtain rfl := Option.some.inj hg
  exact fin_ [] ⟨rfl, rfl⟩
theorem w_slices_Contains_int (s : (List Int)) (v : Int) (r : Bool) (hg : g_slices_Contains_int s v = some r) : Fn Tryz.prog 165 0 [.sl 1 (encL eI s), .val (.int .i64 v)] [] (fun d' b' => d' = .val (.bool r) ∧ b' = []) := by
 unfold g_slices_Contains_int at hg
 refine Fn.of Tryz.func165 rfl rfl rfl fun w0 I ρ0 => ?_
 show awp _ ⟨w0, I, ρ0, 0, 0, 9⟩ _ _ _
 refine sr_ 0 8 mk_U ?_
 refine go_ ?_
 refine ch_n fun hU => ?_
 refine sr_ 8 48 hU ?_
 refine go_ ?_
 obtain ⟨y, hy, hg⟩ := bind_some hg
 refine ca_ (w_slices_Index_int _ _ _ hy) ?_
 refine go_ ?_
 refine ch_n fun hU => ?_
 refine aw_r ?_
 obtain rfl := Option.some.inj hg
 exact fin_ [] ⟨rfl, rfl⟩
theorem w_catalog_Strength (u : api_Use) (r : Int) (hg : g_catalog_Strength u = some r) : Fn Tryz.prog 135 0 [.agg [.val (.int .i64 u.Alg), .val (.int .i64 u.Bits)]] [] (fun d' b' => d' = .val (.int .i64 r) ∧ b' = []) := by
 unfold g_catalog_Strength at hg
 refine Fn.of Tryz.func135 rfl rfl rfl fun w0 I ρ0 => ?_
 show awp _ ⟨w0, I, ρ0, 0, 0, 61⟩ _ _ _
 refine sr_ 0 16 mk_U ?_
 refine go_ ?_
 refine ch_n fun hU => ?_
 refine sr_ 16 88 hU ?_
 refine go_ ?_
 obtain ⟨y, hy, hg⟩ := bind_some hg
 refine ca_ (w_catalog_of _ _ hy) ?_
 refine go_ ?_
 refine ch_n fun hU => ?_
 refine awp_seq ?_
 refine sr_ 88 104 hU ?_
 refine go_ ?_
 refine ch_n fun hU => ?_
 refine cg_ rfl hg (fun h4 hg => ?_) fun h4 hg => ?_
 ·refine awp_seq ?_
  refine awp_region (sys _ _ []) 104 112 hU rfl rfl ?_
  refine go_ ?_
  refine ch_n fun hU => ?_
  refine aw_r ?_
  obtain rfl := Option.some.inj hg
  exact fin_ [] ⟨rfl, rfl⟩
 ·refine awp_skip ?_
  repeat first | refine st_ ?_ | refine sn_ ?_
  refine awp_seq ?_
  refine sr_ 104 120 hU ?_
  refine go_ ?_
  refine ch_n fun hU => ?_
  refine awp_block ?_
  refine sr_ 120 136 hU ?_
  refine go_ ?_
  refine ch_n fun hU => ?_
  refine cg_ rfl hg (fun h8 hg => ?_) fun h8 hg => ?_
  ·refine awp_seq ?_
   refine awp_region (sys _ _ []) 136 160 hU rfl rfl ?_
   refine go_ ?_
   refine ch_n fun hU => ?_
   refine cg_ rfl hg (fun h10 hg => ?_) fun h10 hg => ?_
   ·refine awp_seq ?_
    refine awp_region (sys _ _ []) 160 200 hU rfl rfl ?_
    refine go_ ?_
    obtain ⟨e, he, hg⟩ := bind_some hg
    refine go_ ?_
    refine c0_ rfl rfl (r_loadE1 ty3 (enc_cell eI_len (getI_at he) (o := 0) (c := .int .i64 e) rfl rfl)) rfl rfl ?_
    refine go_ ?_
    refine ch_n fun hU => ?_
    refine aw_r ?_
    obtain rfl := Option.some.inj hg
    exact fin_ [] ⟨rfl, rfl⟩
   ·refine awp_skip ?_
    repeat first | refine st_ ?_ | refine sn_ ?_
    refine sr_ 160 168 hU ?_
    refine go_ ?_
    refine ch_n fun hU => ?_
    refine aw_r ?_
    obtain rfl := Option.some.inj hg
    exact fin_ [] ⟨rfl, rfl⟩
  ·refine awp_seq ?_
   refine awp_region (sys _ _ []) 136 152 hU rfl rfl ?_
   refine go_ ?_
   refine ch_n fun hU => ?_
   refine cg_ rfl hg (fun h13 hg => ?_) fun h13 hg => ?_
   ·refine awp_cut (ι := Bool) (fun (x34_1 : Bool) => mk [(1, .ptr 0 0), (34, .val (.bool x34_1))] [(0, .box [.val (.int .i64 u.Alg), .val (.int .i64 u.Bits)] 37)] 1) (fun (x34_1 : Bool) => g_catalog_Strength.j1 u x34_1 = some r) ?_ ?_
    ·refine awp_region (sys _ _ []) 152 216 hU rfl rfl ?_
     refine go_ ?_
     rcases bc_ hg with ⟨h14, hg⟩ | ⟨h14, hg⟩
     ·refine go_ ?_
      refine ch_n fun hU => ?_
      exact ⟨decide (u.Bits ≤ 16384), hg, sub_ [(0, 0)]⟩
     ·refine go_ ?_
      refine ch_n fun hU => ?_
      exact ⟨false, hg, sub_ [(0, 0)]⟩
    ·rintro x34_1 hg
     replace hg : g_catalog_Strength.j1 u x34_1 = some r := hg
     show awp _ _ _ _ (mk _ _ _)
     unfold g_catalog_Strength.j1 at hg
     refine cg_ rfl hg (fun h17 hg => ?_) fun h17 hg => ?_
     ·refine awp_seq ?_
      refine awp_region (sys _ _ []) 1 33 mk_U rfl rfl ?_
      refine go_ ?_
      obtain ⟨y_2, hy_2, hg⟩ := bind_some hg
      refine ca_ (w_catalog_modulus _ _ hy_2) ?_
      refine go_ ?_
      refine ch_n fun hU => ?_
      refine aw_r ?_
      obtain rfl := Option.some.inj hg
      exact fin_ [] ⟨rfl, rfl⟩
     ·refine awp_skip ?_
      repeat first | refine st_ ?_ | refine sn_ ?_
      refine sr_ 1 9 mk_U ?_
      refine go_ ?_
      refine ch_n fun hU => ?_
      refine aw_r ?_
      obtain rfl := Option.some.inj hg
      exact fin_ [] ⟨rfl, rfl⟩
   ·refine awp_seq ?_
    refine awp_region (sys _ _ []) 152 168 hU rfl rfl ?_
    refine go_ ?_
    refine ch_n fun hU => ?_
    refine cg_ rfl hg (fun h20 hg => ?_) fun h20 hg => ?_
    ·refine awp_seq ?_
     refine awp_region (sys _ _ []) 168 200 hU rfl rfl ?_
     refine c0_ rfl rfl (r_buildFull sl22 z3 (by decide) rfl rfl rfl rfl ck3 (cs := [.int .i64 160, .int .i64 224, .int .i64 256, .int .i64 384, .int .i64 521]) (.cons .int (.cons .int (.cons .int (.cons .int (.cons .int .nil))))) rfl (l := ([160, 224, 256, 384, 521] : List Int)) (f := eI) rfl) rfl rfl ?_
     refine go_ ?_
     obtain ⟨y_3, hy_3, hg⟩ := bind_some hg
     refine cb_ [168] [] [] true (w_slices_Contains_int _ _ _ hy_3) ?_
     refine ch_n fun hU => ?_
     refine cg_ rfl hg (fun h22 hg => ?_) fun h22 hg => ?_
     ·refine awp_seq ?_
      refine awp_region (sys _ _ []) 200 232 hU rfl rfl ?_
      refine go_ ?_
      obtain ⟨q, hq, hg⟩ := bind_some hg
      refine c0_ rfl rfl (r_quo hq) rfl rfl ?_
      refine go_ ?_
      refine ch_n fun hU => ?_
      refine aw_r ?_
      obtain rfl := Option.some.inj hg
      exact fin_ [] ⟨rfl, rfl⟩
     ·refine awp_skip ?_
      repeat first | refine st_ ?_ | refine sn_ ?_
      refine sr_ 200 208 hU ?_
      refine go_ ?_
      refine ch_n fun hU => ?_
      refine aw_r ?_
      obtain rfl := Option.some.inj hg
      exact fin_ [] ⟨rfl, rfl⟩
    ·refine awp_seq ?_
     refine awp_region (sys _ _ []) 168 184 hU rfl rfl ?_
     refine go_ ?_
     refine ch_n fun hU => ?_
     refine cg_ rfl hg (fun h25 hg => ?_) fun h25 hg => ?_
     ·refine awp_seq ?_
      refine awp_region (sys _ _ []) 184 232 hU rfl rfl ?_
      refine go_ ?_
      obtain ⟨y_4, hy_4, hg⟩ := bind_some hg
      refine ca_ (w_slices_Index_int _ _ _ hy_4) ?_
      refine go_ ?_
      refine ch_n fun hU => ?_
      refine sr_ 232 248 hU ?_
      refine go_ ?_
      refine ch_n fun hU => ?_
      refine cg_ rfl hg (fun h28 hg => ?_) fun h28 hg => ?_
      ·refine awp_seq ?_
       refine awp_region (sys _ _ []) 248 296 hU rfl rfl ?_
       refine go_ ?_
       obtain ⟨e_2, he_2, hg⟩ := bind_some hg
       refine go_ ?_
       refine c0_ rfl rfl (r_loadE1 ty3 (enc_cell eI_len (getI_at he_2) (o := 0) (c := .int .i64 e_2) rfl rfl)) rfl rfl ?_
       refine go_ ?_
       refine ch_n fun hU => ?_
       refine aw_r ?_
       obtain rfl := Option.some.inj hg
       exact fin_ [] ⟨rfl, rfl⟩
      ·refine awp_skip ?_
       repeat first | refine st_ ?_ | refine sn_ ?_
       refine sr_ 248 256 hU ?_
       refine go_ ?_
       refine ch_n fun hU => ?_
       refine aw_r ?_
       obtain rfl := Option.some.inj hg
       exact fin_ [] ⟨rfl, rfl⟩
     ·refine awp_skip ?_
      repeat first | refine st_ ?_ | refine sn_ ?_
      refine sr_ 184 192 hU ?_
      refine go_ ?_
      refine ch_n fun hU => ?_
      refine aw_r ?_
      obtain rfl := Option.some.inj hg
      exact fin_ [] ⟨rfl, rfl⟩
theorem w_catalog_Valid (u : api_Use) (r : Bool) (hg : g_catalog_Valid u = some r) : Fn Tryz.prog 88 0 [.agg [.val (.int .i64 u.Alg), .val (.int .i64 u.Bits)]] [] (fun d' b' => d' = .val (.bool r) ∧ b' = []) := by
 unfold g_catalog_Valid at hg
 refine Fn.of Tryz.func88 rfl rfl rfl fun w0 I ρ0 => ?_
 show awp _ ⟨w0, I, ρ0, 0, 0, 6⟩ _ _ _
 refine sr_ 0 16 mk_U ?_
 refine go_ ?_
 refine ch_n fun hU => ?_
 refine sr_ 16 48 hU ?_
 refine go_ ?_
 obtain ⟨y, hy, hg⟩ := bind_some hg
 refine ca_ (w_catalog_Strength _ _ hy) ?_
 refine go_ ?_
 refine ch_n fun hU => ?_
 refine aw_r ?_
 obtain rfl := Option.some.inj hg
 exact fin_ [] ⟨rfl, rfl⟩
theorem w_catalog_Kind (alg : Int) (r : Int) (hg : g_catalog_Kind alg = some r) : Fn Tryz.prog 89 0 [.val (.int .i64 alg)] [] (fun d' b' => d' = .val (.int .i64 r) ∧ b' = []) := by
 unfold g_catalog_Kind at hg
 refine Fn.of Tryz.func89 rfl rfl rfl fun w0 I ρ0 => ?_
 show awp _ ⟨w0, I, ρ0, 0, 0, 12⟩ _ _ _
 refine sr_ 0 8 mk_U ?_
 refine go_ ?_
 refine ch_n fun hU => ?_
 refine sr_ 8 72 hU ?_
 refine go_ ?_
 obtain ⟨y, hy, hg⟩ := bind_some hg
 refine ca_ (w_catalog_of _ _ hy) ?_
 refine go_ ?_
 refine ch_n fun hU => ?_
 refine sr_ 72 96 hU ?_
 refine go_ ?_
 refine ch_n fun hU => ?_
 refine aw_r ?_
 obtain rfl := Option.some.inj hg
 exact fin_ [] ⟨rfl, rfl⟩
theorem w_certificate_Key (n : Int) (r : Bool) (hg : g_certificate_Key n = some r) : Fn Tryz.prog 90 0 [.val (.int .i64 n)] [] (fun d' b' => d' = .val (.bool r) ∧ b' = []) := by
 unfold g_certificate_Key at hg
 refine Fn.of Tryz.func90 rfl rfl rfl fun w0 I ρ0 => ?_
 show awp _ ⟨w0, I, ρ0, 0, 0, 9⟩ _ _ _
 refine sr_ 0 8 mk_U ?_
 refine go_ ?_
 refine ch_n fun hU => ?_
 refine sr_ 8 64 hU ?_
 refine go_ ?_
 rcases bc_ hg with ⟨h2, hg⟩ | ⟨h2, hg⟩
 ·refine go_ ?_
  refine ch_n fun hU => ?_
  refine aw_r ?_
  obtain rfl := Option.some.inj hg
  exact fin_ [] ⟨rfl, rfl⟩
 ·refine go_ ?_
  refine ch_n fun hU => ?_
  refine aw_r ?_
  obtain rfl := Option.some.inj hg
  exact fin_ [] ⟨rfl, rfl⟩
theorem w_certificate_named (l : (List ByteArray)) (r : Bool) (hg : g_certificate_named l = some r) : Fn Tryz.prog 168 0 [.sl 1 (encL eS l)] [] (fun d' b' => d' = .val (.bool r) ∧ b' = []) := by
 unfold g_certificate_named at hg
 refine Fn.of Tryz.func168 rfl rfl rfl fun w0 I ρ0 => ?_
 show awp _ ⟨w0, I, ρ0, 0, 0, 32⟩ _ _ _
 refine sr_ 0 8 mk_U ?_
 refine go_ ?_
 refine ch_n fun hU => ?_
 refine awp_seq ?_
 refine sr_ 8 32 hU ?_
 refine go_ ?_
 refine ch_n fun hU => ?_
 refine awp_block ?_
 refine lp_ (fun (x7_1 : Int) => mk [(0, .sl 1 (encL eS l)), (5, .sl 1 (encL eS l)), (6, .val (.int .i64 (l.length : Int))), (7, .val (.int .i64 x7_1))] [] 0) hg (sub_ []) ?_
 rintro x7_1 m1 o1 hg hn1
 replace hg : g_certificate_named.l1 l x7_1 = some o1 := hg
 show awp _ _ _ _ (mk _ _ _)
 unfold g_certificate_named.l1 at hg
 refine sr_ 0 8 mk_U ?_
 refine go_ ?_
 refine ch_n fun hU => ?_
 refine awp_seq ?_
 refine cg_ rfl hg (fun h4 hg => ?_) fun h4 hg => ?_
 ·refine awp_skip ?_
  repeat first | refine st_ ?_ | refine sn_ ?_
  refine awp_seq ?_
  refine awp_block ?_
  refine sr_ 8 48 hU ?_
  refine go_ ?_
  obtain ⟨e, he, hg⟩ := bind_some hg
  refine go_ ?_
  refine c0_ rfl rfl (r_loadE1 ty9 (enc_cell eS_len (getI_at he) (o := 0) (c := .str e) rfl rfl)) rfl rfl ?_
  refine go_ ?_
  refine ch_n fun hU => ?_
  refine awp_cut (ι := Bool) (fun (x27_2 : Bool) => mk [(0, .sl 1 (encL eS l)), (5, .sl 1 (encL eS l)), (6, .val (.int .i64 (l.length : Int))), (7, .val (.int .i64 x7_1)), (27, .val (.bool x27_2))] [] 0) (fun (x27_2 : Bool) => g_certificate_named.j2 x7_1 x27_2 = some o1) ?_ ?_
  ·refine awp_region (sys _ _ []) 48 176 hU rfl rfl ?_
   refine go_ ?_
   obtain ⟨y, hy, hg⟩ := bind_some hg
   refine ca_ (w_catalog_Named _ _ hy) ?_
   refine go_ ?_
   rcases bc_ hg with ⟨h6, hg⟩ | ⟨h6, hg⟩
   ·refine go_ ?_
    refine ch_n fun hU => ?_
    exact ⟨true, hg, sub_ []⟩
   ·refine go_ ?_
    rcases bc_ hg with ⟨h8, hg⟩ | ⟨h8, hg⟩
    ·refine go_ ?_
     obtain ⟨e_2, he_2, hg⟩ := bind_some hg
     refine go_ ?_
     refine c0_ (gdv_t rfl rfl h8) rfl (r_loadE1 ty9 (enc_cell eS_len (getI_at he_2) (o := 0) (c := .str e_2) rfl rfl)) rfl rfl ?_
     refine go_ ?_
     refine c0_ (gdv_t rfl rfl h8) rfl r_sgeq rfl rfl ?_
     refine go_ ?_
     refine ch_n fun hU => ?_
     exact ⟨!ltT (toB e_2) (toB e), hg, sub_ []⟩
    ·refine go_ ?_
     refine ch_n fun hU => ?_
     exact ⟨false, hg, sub_ []⟩
  ·rintro x27_2 hg
   replace hg : g_certificate_named.j2 x7_1 x27_2 = some o1 := hg
   show awp _ _ _ _ (mk _ _ _)
   unfold g_certificate_named.j2 at hg
   refine cg_ rfl hg (fun h11 hg => ?_) fun h11 hg => ?_
   ·refine awp_seq ?_
    refine awp_region (sys _ _ []) 0 8 mk_U rfl rfl ?_
    refine go_ ?_
    refine ch_n fun hU => ?_
    refine aw_r ?_
    replace hg := leave hg hn1
    obtain rfl := Option.some.inj hg
    exact fin_ [] ⟨rfl, rfl⟩
   ·refine awp_skip ?_
    repeat first | refine st_ ?_ | refine sn_ ?_
    refine awp_region (sys _ _ []) 0 16 mk_U rfl rfl ?_
    refine go_ ?_
    refine ch_n fun hU => ?_
    obtain rfl := Option.some.inj hg
    exact ⟨(W (x7_1 + 1), m1), Nat.lt_succ_self _, hn1, sub_ []⟩
 ·refine awp_exit ?_
  repeat first | refine st_ ?_ | refine sn_ ?_
  replace hg := leave hg hn1
  refine sr_ 8 40 hU ?_
  refine go_ ?_
  refine ch_n fun hU => ?_
  refine aw_r ?_
  obtain rfl := Option.some.inj hg
  exact fin_ [] ⟨rfl, rfl⟩
theorem w_certificate_of (u : api_Use) (kind : Int) (r : Bool) (hg : g_certificate_of u kind = some r) : Fn Tryz.prog 169 0 [.agg [.val (.int .i64 u.Alg), .val (.int .i64 u.Bits)], .val (.int .i64 kind)] [] (fun d' b' => d' = .val (.bool r) ∧ b' = []) := by
 unfold g_certificate_of at hg
 refine Fn.of Tryz.func169 rfl rfl rfl fun w0 I ρ0 => ?_
 show awp _ ⟨w0, I, ρ0, 0, 0, 14⟩ _ _ _
 refine sr_ 0 16 mk_U ?_
 refine go_ ?_
 refine ch_n fun hU => ?_
 refine sr_ 16 96 hU ?_
 refine go_ ?_
 obtain ⟨y, hy, hg⟩ := bind_some hg
 refine ca_ (w_catalog_Valid _ _ hy) ?_
 refine go_ ?_
 rcases bc_ hg with ⟨h2, hg⟩ | ⟨h2, hg⟩
 ·refine go_ ?_
  obtain ⟨y_2, hy_2, hg⟩ := bind_some hg
  refine ca_ (w_catalog_Kind _ _ hy_2) ?_
  refine go_ ?_
  refine ch_n fun hU => ?_
  refine aw_r ?_
  obtain rfl := Option.some.inj hg
  exact fin_ [] ⟨rfl, rfl⟩
 ·refine go_ ?_
  refine ch_n fun hU => ?_
  refine aw_r ?_
  obtain rfl := Option.some.inj hg
  exact fin_ [] ⟨rfl, rfl⟩
theorem w_certificate_sum (n : Int) (r : Bool) (hg : g_certificate_sum n = some r) : Fn Tryz.prog 170 0 [.val (.int .i64 n)] [] (fun d' b' => d' = .val (.bool r) ∧ b' = []) := by
 unfold g_certificate_sum at hg
 refine Fn.of Tryz.func170 rfl rfl rfl fun w0 I ρ0 => ?_
 show awp _ ⟨w0, I, ρ0, 0, 0, 9⟩ _ _ _
 refine sr_ 0 8 mk_U ?_
 refine go_ ?_
 refine ch_n fun hU => ?_
 refine sr_ 8 64 hU ?_
 refine go_ ?_
 rcases bc_ hg with ⟨h2, hg⟩ | ⟨h2, hg⟩
 ·refine go_ ?_
  refine ch_n fun hU => ?_
  refine aw_r ?_
  obtain rfl := Option.some.inj hg
  exact fin_ [] ⟨rfl, rfl⟩
 ·refine go_ ?_
  refine ch_n fun hU => ?_
  refine aw_r ?_
  obtain rfl := Option.some.inj hg
  exact fin_ [] ⟨rfl, rfl⟩
theorem w_certificate_valid (c : api_Certificate) (r : Bool) (hg : g_certificate_valid c = some r) : Fn Tryz.prog 137 0 [.agg (api_Certificate.dv c)] [] (fun d' b' => d' = .val (.bool r) ∧ b' = []) := by
 unfold g_certificate_valid at hg
 refine Fn.of Tryz.func137 rfl rfl rfl fun w0 I ρ0 => ?_
 show awp _ ⟨w0, I, ρ0, 0, 0, 91⟩ _ _ _
 refine sr_ 0 16 mk_U ?_
 refine go_ ?_
 refine ch_n fun hU => ?_
 refine awp_seq ?_
 refine awp_cut (ι := Bool) (fun (x28_1 : Bool) => mk [(1, .ptr 0 0), (28, .val (.bool x28_1))] [(0, .box (api_Certificate.dv c) 68)] 1) (fun (x28_1 : Bool) => g_certificate_valid.j1 c x28_1 = some r) ?_ ?_
 ·refine awp_region (sys _ _ []) 16 224 hU rfl rfl ?_
  refine go_ ?_
  rcases bc_ hg with ⟨h2, hg⟩ | ⟨h2, hg⟩
  ·refine go_ ?_
   refine ch_n fun hU => ?_
   exact ⟨true, hg, sub_ [(0, 0)]⟩
  ·refine go_ ?_
   rcases bc_ hg with ⟨h4, hg⟩ | ⟨h4, hg⟩
   ·refine go_ ?_
    refine ch_n fun hU => ?_
    exact ⟨true, hg, sub_ [(0, 0)]⟩
   ·refine go_ ?_
    obtain ⟨y, hy, hg⟩ := bind_some hg
    refine ca_ (w_catalog_Named _ _ hy) ?_
    refine go_ ?_
    rcases bc_ hg with ⟨h6, hg⟩ | ⟨h6, hg⟩
    ·refine go_ ?_
     refine ch_n fun hU => ?_
     exact ⟨true, hg, sub_ [(0, 0)]⟩
    ·refine go_ ?_
     obtain ⟨y_2, hy_2, hg⟩ := bind_some hg
     refine ca_ (w_catalog_Named _ _ hy_2) ?_
     refine go_ ?_
     rcases bc_ hg with ⟨h8, hg⟩ | ⟨h8, hg⟩
     ·refine go_ ?_
      refine ch_n fun hU => ?_
      exact ⟨true, hg, sub_ [(0, 0)]⟩
     ·refine go_ ?_
      obtain ⟨y_3, hy_3, hg⟩ := bind_some hg
      refine ca_ (w_certificate_named _ _ hy_3) ?_
      refine go_ ?_
      refine ch_n fun hU => ?_
      exact ⟨!y_3, hg, sub_ [(0, 0)]⟩
 ·rintro x28_1 hg
  replace hg : g_certificate_valid.j1 c x28_1 = some r := hg
  show awp _ _ _ _ (mk _ _ _)
  unfold g_certificate_valid.j1 at hg
  refine cg_ rfl hg (fun h11 hg => ?_) fun h11 hg => ?_
  ·refine awp_seq ?_
   refine awp_region (sys _ _ []) 1 9 mk_U rfl rfl ?_
   refine go_ ?_
   refine ch_n fun hU => ?_
   refine aw_r ?_
   obtain rfl := Option.some.inj hg
   exact fin_ [] ⟨rfl, rfl⟩
  ·refine awp_skip ?_
   repeat first | refine st_ ?_ | refine sn_ ?_
   refine awp_seq ?_
   refine awp_cut (ι := Bool) (fun (x58_2 : Bool) => mk [(1, .ptr 0 0), (58, .val (.bool x58_2))] [(0, .box (api_Certificate.dv c) 68)] 1) (fun (x58_2 : Bool) => g_certificate_valid.j2 c x58_2 = some r) ?_ ?_
   ·refine awp_region (sys _ _ []) 1 241 mk_U rfl rfl ?_
    refine go_ ?_
    obtain ⟨y_4, hy_4, hg⟩ := bind_some hg
    refine ca_ (w_certificate_of _ _ _ hy_4) ?_
    refine go_ ?_
    rcases bc_ hg with ⟨h13, hg⟩ | ⟨h13, hg⟩
    ·refine go_ ?_
     refine ch_n fun hU => ?_
     exact ⟨true, hg, sub_ [(0, 0)]⟩
    ·refine go_ ?_
     obtain ⟨y_5, hy_5, hg⟩ := bind_some hg
     refine ca_ (w_certificate_Key _ _ hy_5) ?_
     refine go_ ?_
     rcases bc_ hg with ⟨h15, hg⟩ | ⟨h15, hg⟩
     ·refine go_ ?_
      refine ch_n fun hU => ?_
      exact ⟨true, hg, sub_ [(0, 0)]⟩
     ·refine go_ ?_
      obtain ⟨y_6, hy_6, hg⟩ := bind_some hg
      refine ca_ (w_certificate_of _ _ _ hy_6) ?_
      refine go_ ?_
      rcases bc_ hg with ⟨h17, hg⟩ | ⟨h17, hg⟩
      ·refine go_ ?_
       refine ch_n fun hU => ?_
       exact ⟨true, hg, sub_ [(0, 0)]⟩
      ·refine go_ ?_
       obtain ⟨y_7, hy_7, hg⟩ := bind_some hg
       refine ca_ (w_certificate_Key _ _ hy_7) ?_
       refine go_ ?_
       rcases bc_ hg with ⟨h19, hg⟩ | ⟨h19, hg⟩
       ·refine go_ ?_
        refine ch_n fun hU => ?_
        exact ⟨true, hg, sub_ [(0, 0)]⟩
       ·refine go_ ?_
        obtain ⟨y_8, hy_8, hg⟩ := bind_some hg
        refine ca_ (w_certificate_sum _ _ hy_8) ?_
        refine go_ ?_
        refine ch_n fun hU => ?_
        exact ⟨!y_8, hg, sub_ [(0, 0)]⟩
   ·rintro x58_2 hg
    replace hg : g_certificate_valid.j2 c x58_2 = some r := hg
    show awp _ _ _ _ (mk _ _ _)
    unfold g_certificate_valid.j2 at hg
    refine cg_ rfl hg (fun h22 hg => ?_) fun h22 hg => ?_
    ·refine awp_seq ?_
     refine awp_region (sys _ _ []) 1 9 mk_U rfl rfl ?_
     refine go_ ?_
     refine ch_n fun hU => ?_
     refine aw_r ?_
     obtain rfl := Option.some.inj hg
     exact fin_ [] ⟨rfl, rfl⟩
    ·refine awp_skip ?_
     repeat first | refine st_ ?_ | refine sn_ ?_
     refine awp_seq ?_
     refine awp_cut (ι := Bool) (fun (x73_3 : Bool) => mk [(1, .ptr 0 0), (73, .val (.bool x73_3))] [(0, .box (api_Certificate.dv c) 68)] 1) (fun (x73_3 : Bool) => g_certificate_valid.j3 c x73_3 = some r) ?_ ?_
     ·refine awp_region (sys _ _ []) 1 121 mk_U rfl rfl ?_
      refine go_ ?_
      rcases bc_ hg with ⟨h24, hg⟩ | ⟨h24, hg⟩
      ·refine go_ ?_
       refine ch_n fun hU => ?_
       exact ⟨true, hg, sub_ [(0, 0)]⟩
      ·refine go_ ?_
       rcases bc_ hg with ⟨h26, hg⟩ | ⟨h26, hg⟩
       ·refine go_ ?_
        refine ch_n fun hU => ?_
        exact ⟨true, hg, sub_ [(0, 0)]⟩
       ·refine go_ ?_
        refine ch_n fun hU => ?_
        exact ⟨decide (40000 < c.To), hg, sub_ [(0, 0)]⟩
     ·rintro x73_3 hg
      replace hg : g_certificate_valid.j3 c x73_3 = some r := hg
      show awp _ _ _ _ (mk _ _ _)
      unfold g_certificate_valid.j3 at hg
      refine cg_ rfl hg (fun h29 hg => ?_) fun h29 hg => ?_
      ·refine awp_seq ?_
       refine awp_region (sys _ _ []) 1 9 mk_U rfl rfl ?_
       refine go_ ?_
       refine ch_n fun hU => ?_
       refine aw_r ?_
       obtain rfl := Option.some.inj hg
       exact fin_ [] ⟨rfl, rfl⟩
      ·refine awp_skip ?_
       repeat first | refine st_ ?_ | refine sn_ ?_
       refine sr_ 1 145 mk_U ?_
       refine go_ ?_
       rcases bc_ hg with ⟨h31, hg⟩ | ⟨h31, hg⟩
       ·refine go_ ?_
        rcases bc_ hg with ⟨h32, hg⟩ | ⟨h32, hg⟩
        ·refine go_ ?_
         rcases bc_ hg with ⟨h33, hg⟩ | ⟨h33, hg⟩
         ·refine go_ ?_
          refine ch_n fun hU => ?_
          refine aw_r ?_
          obtain rfl := Option.some.inj hg
          exact fin_ [] ⟨rfl, rfl⟩
         ·refine go_ ?_
          refine ch_n fun hU => ?_
          refine aw_r ?_
          obtain rfl := Option.some.inj hg
          exact fin_ [] ⟨rfl, rfl⟩
        ·refine go_ ?_
         refine ch_n fun hU => ?_
         refine aw_r ?_
         obtain rfl := Option.some.inj hg
         exact fin_ [] ⟨rfl, rfl⟩
       ·refine go_ ?_
        refine ch_n fun hU => ?_
        refine aw_r ?_
        obtain rfl := Option.some.inj hg
        exact fin_ [] ⟨rfl, rfl⟩
theorem w_certificate_Check (c : api_Certificate) (r : Int) (hg : g_certificate_Check c = some r) : Fn Tryz.prog 91 0 [.agg (api_Certificate.dv c)] [] (fun d' b' => d' = .val (.int .i64 r) ∧ b' = []) := by
 unfold g_certificate_Check at hg
 refine Fn.of Tryz.func91 rfl rfl rfl fun w0 I ρ0 => ?_
 show awp _ ⟨w0, I, ρ0, 0, 0, 6⟩ _ _ _
 refine sr_ 0 16 mk_U ?_
 refine go_ ?_
 refine ch_n fun hU => ?_
 refine awp_seq ?_
 refine sr_ 16 40 hU ?_
 refine go_ ?_
 obtain ⟨y, hy, hg⟩ := bind_some hg
 refine ca_ (w_certificate_valid _ _ hy) ?_
 refine go_ ?_
 refine ch_n fun hU => ?_
 refine cg_ rfl hg (fun h3 hg => ?_) fun h3 hg => ?_
 ·refine awp_seq ?_
  refine awp_region (sys _ _ []) 40 48 hU rfl rfl ?_
  refine go_ ?_
  refine ch_n fun hU => ?_
  refine aw_r ?_
  obtain rfl := Option.some.inj hg
  exact fin_ [] ⟨rfl, rfl⟩
 ·refine awp_skip ?_
  repeat first | refine st_ ?_ | refine sn_ ?_
  refine sr_ 40 48 hU ?_
  refine go_ ?_
  refine ch_n fun hU => ?_
  refine aw_r ?_
  obtain rfl := Option.some.inj hg
  exact fin_ [] ⟨rfl, rfl⟩
theorem w_keystore_Shows (key : api_Use) (id : Int) (l : (List api_Certificate)) (r : Bool) (hg : g_keystore_Shows key id l = some r) : Fn Tryz.prog 44 0 [.agg [.val (.int .i64 key.Alg), .val (.int .i64 key.Bits)], .val (.int .i64 id), .sl 15 (encL api_Certificate.enc l)] [] (fun d' b' => d' = .val (.bool r) ∧ b' = []) := by
 unfold g_keystore_Shows at hg
 refine Fn.of Tryz.func44 rfl rfl rfl fun w0 I ρ0 => ?_
 show awp _ ⟨w0, I, ρ0, 0, 0, 57⟩ _ _ _
 refine sr_ 0 16 mk_U ?_
 refine go_ ?_
 refine ch_n fun hU => ?_
 refine awp_seq ?_
 refine awp_cut (ι := Bool) (fun (x27_1 : Bool) => mk [(1, .val (.int .i64 id)), (2, .sl 15 (encL api_Certificate.enc l)), (3, .ptr 0 0), (27, .val (.bool x27_1))] [(0, .box [.val (.int .i64 key.Alg), .val (.int .i64 key.Bits)] 37)] 1) (fun (x27_1 : Bool) => g_keystore_Shows.j1 key id l x27_1 = some r) ?_ ?_
 ·refine awp_region (sys _ _ []) 16 168 hU rfl rfl ?_
  refine go_ ?_
  obtain ⟨y, hy, hg⟩ := bind_some hg
  refine ca_ (w_catalog_Valid _ _ hy) ?_
  refine go_ ?_
  rcases bc_ hg with ⟨h2, hg⟩ | ⟨h2, hg⟩
  ·refine go_ ?_
   refine ch_n fun hU => ?_
   exact ⟨true, hg, sub_ [(0, 0)]⟩
  ·refine go_ ?_
   obtain ⟨y_2, hy_2, hg⟩ := bind_some hg
   refine ca_ (w_catalog_Kind _ _ hy_2) ?_
   refine go_ ?_
   rcases bc_ hg with ⟨h4, hg⟩ | ⟨h4, hg⟩
   ·refine go_ ?_
    refine ch_n fun hU => ?_
    exact ⟨true, hg, sub_ [(0, 0)]⟩
   ·refine go_ ?_
    obtain ⟨y_3, hy_3, hg⟩ := bind_some hg
    refine ca_ (w_certificate_Key _ _ hy_3) ?_
    refine go_ ?_
    rcases bc_ hg with ⟨h6, hg⟩ | ⟨h6, hg⟩
    ·refine go_ ?_
     refine ch_n fun hU => ?_
     exact ⟨true, hg, sub_ [(0, 0)]⟩
    ·refine go_ ?_
     refine ch_n fun hU => ?_
     exact ⟨decide (8 < (l.length : Int)), hg, sub_ [(0, 0)]⟩
 ·rintro x27_1 hg
  replace hg : g_keystore_Shows.j1 key id l x27_1 = some r := hg
  show awp _ _ _ _ (mk _ _ _)
  unfold g_keystore_Shows.j1 at hg
  refine cg_ rfl hg (fun h9 hg => ?_) fun h9 hg => ?_
  ·refine awp_seq ?_
   refine awp_region (sys _ _ []) 1 9 mk_U rfl rfl ?_
   refine go_ ?_
   refine ch_n fun hU => ?_
   refine aw_r ?_
   obtain rfl := Option.some.inj hg
   exact fin_ [] ⟨rfl, rfl⟩
  ·refine awp_skip ?_
   repeat first | refine st_ ?_ | refine sn_ ?_
   refine awp_seq ?_
   refine sr_ 1 25 mk_U ?_
   refine go_ ?_
   refine ch_n fun hU => ?_
   refine awp_block ?_
   refine lp_ (fun (x30_2 : Int) => mk [(1, .val (.int .i64 id)), (2, .sl 15 (encL api_Certificate.enc l)), (3, .ptr 0 0), (28, .sl 15 (encL api_Certificate.enc l)), (29, .val (.int .i64 (l.length : Int))), (30, .val (.int .i64 x30_2))] [(0, .box [.val (.int .i64 key.Alg), .val (.int .i64 key.Bits)] 37)] 1) hg (sub_ [(0, 0)]) ?_
   rintro x30_2 m2 o2 hg hn2
   replace hg : g_keystore_Shows.l2 key id l x30_2 = some o2 := hg
   show awp _ _ _ _ (mk _ _ _)
   unfold g_keystore_Shows.l2 at hg
   refine sr_ 1 9 mk_U ?_
   refine go_ ?_
   refine ch_n fun hU => ?_
   refine awp_seq ?_
   refine cg_ rfl hg (fun h13 hg => ?_) fun h13 hg => ?_
   ·refine awp_skip ?_
    repeat first | refine st_ ?_ | refine sn_ ?_
    refine awp_seq ?_
    refine awp_block ?_
    refine sr_ 9 41 hU ?_
    obtain ⟨e, he, hg⟩ := bind_some hg
    refine go_ ?_
    refine c0_ rfl rfl (r_loadEA ty68 (enc_cells api_Certificate.enc_len (getI_at he) (o := 0) (m := 15) (cs := [.int .i64 e.Serial, .str e.Issuer, .str e.Subject, .int .i64 e.Key.Alg, .int .i64 e.Key.Bits, .int .i64 e.KeyId, .int .i64 e.Hash.Alg, .int .i64 e.Hash.Bits, .int .i64 e.From, .int .i64 e.To, .bool e.Authority, .int .i64 e.Path, .sl 1 (encL eS e.Names), .int .i64 e.Seal.Key, .int .i64 e.Seal.Sum]) rfl (by decide) rfl) (enc_cells_le api_Certificate.enc_len (getI_at he) (o := 0) (m := 15) (by decide) rfl)) rfl rfl ?_
    refine go_ ?_
    refine ch_n fun hU => ?_
    refine sr_ 41 65 hU ?_
    refine go_ ?_
    obtain ⟨y_4, hy_4, hg⟩ := bind_some hg
    refine ca_ (w_certificate_Check _ _ hy_4) ?_
    refine go_ ?_
    refine ch_n fun hU => ?_
    refine cg_ rfl hg (fun h16 hg => ?_) fun h16 hg => ?_
    ·refine awp_seq ?_
     refine awp_region (sys _ _ []) 65 73 hU rfl rfl ?_
     refine go_ ?_
     refine ch_n fun hU => ?_
     refine aw_r ?_
     replace hg := leave hg hn2
     obtain rfl := Option.some.inj hg
     exact fin_ [] ⟨rfl, rfl⟩
    ·refine awp_skip ?_
     repeat first | refine st_ ?_ | refine sn_ ?_
     refine awp_region (sys _ _ []) 65 81 hU rfl rfl ?_
     refine go_ ?_
     refine ch_n fun hU => ?_
     obtain rfl := Option.some.inj hg
     exact ⟨(W (x30_2 + 1), m2), Nat.lt_succ_self _, hn2, sub_ [(0, 0)]⟩
   ·refine awp_exit ?_
    repeat first | refine st_ ?_ | refine sn_ ?_
    replace hg := leave hg hn2
    refine awp_seq ?_
    refine awp_draw (sys _ _ []) (by kernel_rfl) [0, 1, 3, 7, 15, 31, 63, 127, 15, 511, 1023, 2047, 4095, 8191, 16383, 2047, 65535, 131071, 262143, 524287] 9 169 hU rfl rfl (by kernel_rfl) ?_
    refine go_ ?_
    rcases bc_ hg with ⟨h19, hg⟩ | ⟨h19, hg⟩
    ·refine go_ ?_
     refine ch_n fun hU => ?_
     refine aw_r ?_
     obtain rfl := Option.some.inj hg
     exact fin_ [] ⟨rfl, rfl⟩
    ·refine go_ ?_
     obtain ⟨e_2, he_2, hg⟩ := bind_some hg
     refine go_ ?_
     refine c0_ (gdv_t rfl rfl h19) rfl (r_fieldE fd68_3 ty37 (by decide) (enc_lt api_Certificate.enc_len (getI_at he_2) (o := 3) (by decide) rfl)) rfl rfl ?_
     refine c0_ (gdv_t rfl rfl h19) rfl (r_loadEA ty37 (enc_cells api_Certificate.enc_len (getI_at he_2) (o := 3) (m := 2) (cs := [.int .i64 e_2.Key.Alg, .int .i64 e_2.Key.Bits]) rfl (by decide) rfl) (enc_cells_le api_Certificate.enc_len (getI_at he_2) (o := 3) (m := 2) (by decide) rfl)) rfl rfl ?_
     refine go_ ?_
     refine c0_ (gdv_t rfl rfl h19) rfl (steq37_eql e_2.Key key) rfl rfl ?_
     refine go_ ?_
     rcases bc_ hg with ⟨h21, hg⟩ | ⟨h21, hg⟩
     ·refine go_ ?_
      refine c0_ (gdv_t rfl rfl h21) rfl (r_fieldE fd68_4 ty3 (by decide) (enc_lt api_Certificate.enc_len (getI_at he_2) (o := 5) (by decide) rfl)) rfl rfl ?_
      refine c0_ (gdv_t rfl rfl h21) rfl (r_loadE1 ty3 (enc_cell api_Certificate.enc_len (getI_at he_2) (o := 5) (c := .int .i64 e_2.KeyId) rfl rfl)) rfl rfl ?_
      refine go_ ?_
      refine ch_n fun hU => ?_
      refine aw_r ?_
      obtain rfl := Option.some.inj hg
      exact fin_ [] ⟨rfl, rfl⟩
     ·refine go_ ?_
      refine ch_n fun hU => ?_
      refine aw_r ?_
      obtain rfl := Option.some.inj hg
      exact fin_ [] ⟨rfl, rfl⟩
end Go.Proofs.YtbeageaekgccgaaGreat
