/- The program computes the plain functions. -/
import Derived.Test.YtfkgbfhpibiheaaT1
set_option linter.unusedVariables false
set_option linter.unusedSimpArgs false
set_option maxRecDepth 100000
set_option maxHeartbeats 1600000
namespace Go.Proofs.Ytfkgbfhpibiheaa
open Go.RowKit
theorem w_make_Light (l : (List Int)) (r : Bool) (hg : g_make_Light l = some r) : Fn Try.prog 8 0 [.sl 1 (encL eI l)] [] (fun d' b' => d' = .val (.bool r) ∧ b' = []) := by
 unfold g_make_Light at hg
 refine Fn.of Try.func8 rfl rfl rfl fun w0 I ρ0 => ?_
 show awp _ ⟨w0, I, ρ0, 0, 0, 6⟩ _ _ _
 refine sr_ 0 8 mk_U ?_
 refine go_ ?_
 refine ch_n fun hU => ?_
 refine sr_ 8 40 hU ?_
 refine go_ ?_
 refine ch_n fun hU => ?_
 refine aw_r ?_
 obtain rfl := Option.some.inj hg
 exact fin_ [] ⟨rfl, rfl⟩
theorem w_catalog_rows  (r : (List catalog_row)) (hg : g_catalog_rows = some r) : Fn Try.prog 98 0 [] [] (fun d' b' => d' = .agg [.val (.string ((r[0]!).name)), .val (.int .i64 ((r[0]!).kind)), .val (.int .i64 ((r[0]!).way)), .sl 1 (encL eI ((r[0]!).sizes)), .sl 1 (encL eI ((r[0]!).strengths)), .val (.string ((r[1]!).name)), .val (.int .i64 ((r[1]!).kind)), .val (.int .i64 ((r[1]!).way)), .sl 1 (encL eI ((r[1]!).sizes)), .sl 1 (encL eI ((r[1]!).strengths)), .val (.string ((r[2]!).name)), .val (.int .i64 ((r[2]!).kind)), .val (.int .i64 ((r[2]!).way)), .sl 1 (encL eI ((r[2]!).sizes)), .sl 1 (encL eI ((r[2]!).strengths)), .val (.string ((r[3]!).name)), .val (.int .i64 ((r[3]!).kind)), .val (.int .i64 ((r[3]!).way)), .sl 1 (encL eI ((r[3]!).sizes)), .sl 1 (encL eI ((r[3]!).strengths)), .val (.string ((r[4]!).name)), .val (.int .i64 ((r[4]!).kind)), .val (.int .i64 ((r[4]!).way)), .sl 1 (encL eI ((r[4]!).sizes)), .sl 1 (encL eI ((r[4]!).strengths)), .val (.string ((r[5]!).name)), .val (.int .i64 ((r[5]!).kind)), .val (.int .i64 ((r[5]!).way)), .sl 1 (encL eI ((r[5]!).sizes)), .sl 1 (encL eI ((r[5]!).strengths)), .val (.string ((r[6]!).name)), .val (.int .i64 ((r[6]!).kind)), .val (.int .i64 ((r[6]!).way)), .sl 1 (encL eI ((r[6]!).sizes)), .sl 1 (encL eI ((r[6]!).strengths)), .val (.string ((r[7]!).name)), .val (.int .i64 ((r[7]!).kind)), .val (.int .i64 ((r[7]!).way)), .sl 1 (encL eI ((r[7]!).sizes)), .sl 1 (encL eI ((r[7]!).strengths)), .val (.string ((r[8]!).name)), .val (.int .i64 ((r[8]!).kind)), .val (.int .i64 ((r[8]!).way)), .sl 1 (encL eI ((r[8]!).sizes)), .sl 1 (encL eI ((r[8]!).strengths)), .val (.string ((r[9]!).name)), .val (.int .i64 ((r[9]!).kind)), .val (.int .i64 ((r[9]!).way)), .sl 1 (encL eI ((r[9]!).sizes)), .sl 1 (encL eI ((r[9]!).strengths)), .val (.string ((r[10]!).name)), .val (.int .i64 ((r[10]!).kind)), .val (.int .i64 ((r[10]!).way)), .sl 1 (encL eI ((r[10]!).sizes)), .sl 1 (encL eI ((r[10]!).strengths)), .val (.string ((r[11]!).name)), .val (.int .i64 ((r[11]!).kind)), .val (.int .i64 ((r[11]!).way)), .sl 1 (encL eI ((r[11]!).sizes)), .sl 1 (encL eI ((r[11]!).strengths)), .val (.string ((r[12]!).name)), .val (.int .i64 ((r[12]!).kind)), .val (.int .i64 ((r[12]!).way)), .sl 1 (encL eI ((r[12]!).sizes)), .sl 1 (encL eI ((r[12]!).strengths)), .val (.string ((r[13]!).name)), .val (.int .i64 ((r[13]!).kind)), .val (.int .i64 ((r[13]!).way)), .sl 1 (encL eI ((r[13]!).sizes)), .sl 1 (encL eI ((r[13]!).strengths)), .val (.string ((r[14]!).name)), .val (.int .i64 ((r[14]!).kind)), .val (.int .i64 ((r[14]!).way)), .sl 1 (encL eI ((r[14]!).sizes)), .sl 1 (encL eI ((r[14]!).strengths)), .val (.string ((r[15]!).name)), .val (.int .i64 ((r[15]!).kind)), .val (.int .i64 ((r[15]!).way)), .sl 1 (encL eI ((r[15]!).sizes)), .sl 1 (encL eI ((r[15]!).strengths)), .val (.string ((r[16]!).name)), .val (.int .i64 ((r[16]!).kind)), .val (.int .i64 ((r[16]!).way)), .sl 1 (encL eI ((r[16]!).sizes)), .sl 1 (encL eI ((r[16]!).strengths)), .val (.string ((r[17]!).name)), .val (.int .i64 ((r[17]!).kind)), .val (.int .i64 ((r[17]!).way)), .sl 1 (encL eI ((r[17]!).sizes)), .sl 1 (encL eI ((r[17]!).strengths)), .val (.string ((r[18]!).name)), .val (.int .i64 ((r[18]!).kind)), .val (.int .i64 ((r[18]!).way)), .sl 1 (encL eI ((r[18]!).sizes)), .sl 1 (encL eI ((r[18]!).strengths)), .val (.string ((r[19]!).name)), .val (.int .i64 ((r[19]!).kind)), .val (.int .i64 ((r[19]!).way)), .sl 1 (encL eI ((r[19]!).sizes)), .sl 1 (encL eI ((r[19]!).strengths)), .val (.string ((r[20]!).name)), .val (.int .i64 ((r[20]!).kind)), .val (.int .i64 ((r[20]!).way)), .sl 1 (encL eI ((r[20]!).sizes)), .sl 1 (encL eI ((r[20]!).strengths)), .val (.string ((r[21]!).name)), .val (.int .i64 ((r[21]!).kind)), .val (.int .i64 ((r[21]!).way)), .sl 1 (encL eI ((r[21]!).sizes)), .sl 1 (encL eI ((r[21]!).strengths)), .val (.string ((r[22]!).name)), .val (.int .i64 ((r[22]!).kind)), .val (.int .i64 ((r[22]!).way)), .sl 1 (encL eI ((r[22]!).sizes)), .sl 1 (encL eI ((r[22]!).strengths))] ∧ b' = []) := by
 unfold g_catalog_rows at hg
 refine Fn.of Try.func98 rfl rfl rfl fun w0 I ρ0 => ?_
 show awp _ ⟨w0, I, ρ0, 0, 0, 46⟩ _ _ _
 refine sr_ 0 8 mk_U ?_
 refine go_ ?_
 refine ch_n fun hU => ?_
 refine sr_ 8 376 hU ?_
 refine c0_ rfl rfl (r_buildFull sl22 z3 (by decide) rfl rfl rfl rfl ck3 (cs := [.int .i64 18]) (.cons .int .nil) rfl (l := ([18] : List Int)) (f := eI) rfl) rfl rfl ?_
 refine c0_ rfl rfl (.build (r := [.val (.string (⟨#[109, 100, 53]⟩ : ByteArray)), .val (.int .i64 1), .val (.int .i64 0), .val (.slice none 0 0), .row 8]) und114 pl114 z114 (by kernel_rfl) rfl) rfl rfl ?_
 refine c0_ rfl rfl (r_buildFull sl22 z3 (by decide) rfl rfl rfl rfl ck3 (cs := [.int .i64 60]) (.cons .int .nil) rfl (l := ([60] : List Int)) (f := eI) rfl) rfl rfl ?_
 refine c0_ rfl rfl (.build (r := [.val (.string (⟨#[115, 104, 97, 49]⟩ : ByteArray)), .val (.int .i64 1), .val (.int .i64 0), .val (.slice none 0 0), .row 24]) und114 pl114 z114 (by kernel_rfl) rfl) rfl rfl ?_
 refine c0_ rfl rfl (r_buildFull sl22 z3 (by decide) rfl rfl rfl rfl ck3 (cs := [.int .i64 128]) (.cons .int .nil) rfl (l := ([128] : List Int)) (f := eI) rfl) rfl rfl ?_
 refine c0_ rfl rfl (.build (r := [.val (.string (⟨#[115, 104, 97, 50, 53, 54]⟩ : ByteArray)), .val (.int .i64 1), .val (.int .i64 0), .val (.slice none 0 0), .row 40]) und114 pl114 z114 (by kernel_rfl) rfl) rfl rfl ?_
 refine c0_ rfl rfl (r_buildFull sl22 z3 (by decide) rfl rfl rfl rfl ck3 (cs := [.int .i64 192]) (.cons .int .nil) rfl (l := ([192] : List Int)) (f := eI) rfl) rfl rfl ?_
 refine c0_ rfl rfl (.build (r := [.val (.string (⟨#[115, 104, 97, 51, 56, 52]⟩ : ByteArray)), .val (.int .i64 1), .val (.int .i64 0), .val (.slice none 0 0), .row 56]) und114 pl114 z114 (by kernel_rfl) rfl) rfl rfl ?_
 refine c0_ rfl rfl (.build (r := [.val (.string (⟨#[114, 115, 97]⟩ : ByteArray)), .val (.int .i64 2), .val (.int .i64 1), .val (.slice none 0 0), .val (.slice none 0 0)]) und114 pl114 z114 (by kernel_rfl) rfl) rfl rfl ?_
 refine c0_ rfl rfl (.build (r := [.val (.string (⟨#[100, 115, 97]⟩ : ByteArray)), .val (.int .i64 2), .val (.int .i64 1), .val (.slice none 0 0), .val (.slice none 0 0)]) und114 pl114 z114 (by kernel_rfl) rfl) rfl rfl ?_
 refine c0_ rfl rfl (.build (r := [.val (.string (⟨#[101, 99, 100, 115, 97]⟩ : ByteArray)), .val (.int .i64 2), .val (.int .i64 2), .val (.slice none 0 0), .val (.slice none 0 0)]) und114 pl114 z114 (by kernel_rfl) rfl) rfl rfl ?_
 refine c0_ rfl rfl (r_buildFull sl22 z3 (by decide) rfl rfl rfl rfl ck3 (cs := [.int .i64 128]) (.cons .int .nil) rfl (l := ([128] : List Int)) (f := eI) rfl) rfl rfl ?_
 refine c0_ rfl rfl (.build (r := [.val (.string (⟨#[101, 100, 50, 53, 53, 49, 57]⟩ : ByteArray)), .val (.int .i64 2), .val (.int .i64 0), .val (.slice none 0 0), .row 96]) und114 pl114 z114 (by kernel_rfl) rfl) rfl rfl ?_
 refine c0_ rfl rfl (r_buildFull sl22 z3 (by decide) rfl rfl rfl rfl ck3 (cs := [.int .i64 44, .int .i64 65, .int .i64 87]) (.cons .int (.cons .int (.cons .int .nil))) rfl (l := ([44, 65, 87] : List Int)) (f := eI) rfl) rfl rfl ?_
 refine c0_ rfl rfl (r_buildFull sl22 z3 (by decide) rfl rfl rfl rfl ck3 (cs := [.int .i64 128, .int .i64 192, .int .i64 256]) (.cons .int (.cons .int (.cons .int .nil))) rfl (l := ([128, 192, 256] : List Int)) (f := eI) rfl) rfl rfl ?_
 refine c0_ rfl rfl (.build (r := [.val (.string (⟨#[109, 108, 100, 115, 97]⟩ : ByteArray)), .val (.int .i64 2), .val (.int .i64 3), .row 112, .row 120]) und114 pl114 z114 (by kernel_rfl) rfl) rfl rfl ?_
 refine c0_ rfl rfl (.build (r := [.val (.string (⟨#[114, 115, 97, 107, 120]⟩ : ByteArray)), .val (.int .i64 3), .val (.int .i64 1), .val (.slice none 0 0), .val (.slice none 0 0)]) und114 pl114 z114 (by kernel_rfl) rfl) rfl rfl ?_
 refine c0_ rfl rfl (.build (r := [.val (.string (⟨#[100, 104, 101]⟩ : ByteArray)), .val (.int .i64 3), .val (.int .i64 1), .val (.slice none 0 0), .val (.slice none 0 0)]) und114 pl114 z114 (by kernel_rfl) rfl) rfl rfl ?_
 refine c0_ rfl rfl (.build (r := [.val (.string (⟨#[101, 99, 100, 104, 101]⟩ : ByteArray)), .val (.int .i64 3), .val (.int .i64 2), .val (.slice none 0 0), .val (.slice none 0 0)]) und114 pl114 z114 (by kernel_rfl) rfl) rfl rfl ?_
 refine c0_ rfl rfl (r_buildFull sl22 z3 (by decide) rfl rfl rfl rfl ck3 (cs := [.int .i64 512, .int .i64 768, .int .i64 1024]) (.cons .int (.cons .int (.cons .int .nil))) rfl (l := ([512, 768, 1024] : List Int)) (f := eI) rfl) rfl rfl ?_
 refine c0_ rfl rfl (r_buildFull sl22 z3 (by decide) rfl rfl rfl rfl ck3 (cs := [.int .i64 128, .int .i64 192, .int .i64 256]) (.cons .int (.cons .int (.cons .int .nil))) rfl (l := ([128, 192, 256] : List Int)) (f := eI) rfl) rfl rfl ?_
 refine c0_ rfl rfl (.build (r := [.val (.string (⟨#[109, 108, 107, 101, 109]⟩ : ByteArray)), .val (.int .i64 3), .val (.int .i64 3), .row 160, .row 168]) und114 pl114 z114 (by kernel_rfl) rfl) rfl rfl ?_
 refine c0_ rfl rfl (r_buildFull sl22 z3 (by decide) rfl rfl rfl rfl ck3 (cs := [.int .i64 40, .int .i64 128]) (.cons .int (.cons .int .nil)) rfl (l := ([40, 128] : List Int)) (f := eI) rfl) rfl rfl ?_
 refine c0_ rfl rfl (r_buildFull sl22 z3 (by decide) rfl rfl rfl rfl ck3 (cs := [.int .i64 40, .int .i64 60]) (.cons .int (.cons .int .nil)) rfl (l := ([40, 60] : List Int)) (f := eI) rfl) rfl rfl ?_
 refine c0_ rfl rfl (.build (r := [.val (.string (⟨#[114, 99, 52]⟩ : ByteArray)), .val (.int .i64 4), .val (.int .i64 3), .row 184, .row 192]) und114 pl114 z114 (by kernel_rfl) rfl) rfl rfl ?_
 refine c0_ rfl rfl (r_buildFull sl22 z3 (by decide) rfl rfl rfl rfl ck3 (cs := [.int .i64 112, .int .i64 168]) (.cons .int (.cons .int .nil)) rfl (l := ([112, 168] : List Int)) (f := eI) rfl) rfl rfl ?_
 refine c0_ rfl rfl (r_buildFull sl22 z3 (by decide) rfl rfl rfl rfl ck3 (cs := [.int .i64 80, .int .i64 112]) (.cons .int (.cons .int .nil)) rfl (l := ([80, 112] : List Int)) (f := eI) rfl) rfl rfl ?_
 refine c0_ rfl rfl (.build (r := [.val (.string (⟨#[100, 101, 115, 51]⟩ : ByteArray)), .val (.int .i64 4), .val (.int .i64 3), .row 208, .row 216]) und114 pl114 z114 (by kernel_rfl) rfl) rfl rfl ?_
 refine c0_ rfl rfl (r_buildFull sl22 z3 (by decide) rfl rfl rfl rfl ck3 (cs := [.int .i64 128, .int .i64 256]) (.cons .int (.cons .int .nil)) rfl (l := ([128, 256] : List Int)) (f := eI) rfl) rfl rfl ?_
 refine c0_ rfl rfl (r_buildFull sl22 z3 (by decide) rfl rfl rfl rfl ck3 (cs := [.int .i64 128, .int .i64 256]) (.cons .int (.cons .int .nil)) rfl (l := ([128, 256] : List Int)) (f := eI) rfl) rfl rfl ?_
 refine c0_ rfl rfl (.build (r := [.val (.string (⟨#[97, 101, 115, 99, 98, 99]⟩ : ByteArray)), .val (.int .i64 4), .val (.int .i64 3), .row 232, .row 240]) und114 pl114 z114 (by kernel_rfl) rfl) rfl rfl ?_
 refine c0_ rfl rfl (r_buildFull sl22 z3 (by decide) rfl rfl rfl rfl ck3 (cs := [.int .i64 128, .int .i64 256]) (.cons .int (.cons .int .nil)) rfl (l := ([128, 256] : List Int)) (f := eI) rfl) rfl rfl ?_
 refine c0_ rfl rfl (r_buildFull sl22 z3 (by decide) rfl rfl rfl rfl ck3 (cs := [.int .i64 128, .int .i64 256]) (.cons .int (.cons .int .nil)) rfl (l := ([128, 256] : List Int)) (f := eI) rfl) rfl rfl ?_
 refine c0_ rfl rfl (.build (r := [.val (.string (⟨#[97, 101, 115, 103, 99, 109]⟩ : ByteArray)), .val (.int .i64 4), .val (.int .i64 3), .row 256, .row 264]) und114 pl114 z114 (by kernel_rfl) rfl) rfl rfl ?_
 refine c0_ rfl rfl (r_buildFull sl22 z3 (by decide) rfl rfl rfl rfl ck3 (cs := [.int .i64 256]) (.cons .int .nil) rfl (l := ([256] : List Int)) (f := eI) rfl) rfl rfl ?_
 refine c0_ rfl rfl (.build (r := [.val (.string (⟨#[99, 104, 97, 99, 104, 97]⟩ : ByteArray)), .val (.int .i64 4), .val (.int .i64 0), .val (.slice none 0 0), .row 280]) und114 pl114 z114 (by kernel_rfl) rfl) rfl rfl ?_
 refine c0_ rfl rfl (r_buildFull sl22 z3 (by decide) rfl rfl rfl rfl ck3 (cs := [.int .i64 64]) (.cons .int .nil) rfl (l := ([64] : List Int)) (f := eI) rfl) rfl rfl ?_
 refine c0_ rfl rfl (.build (r := [.val (.string (⟨#[104, 109, 97, 99, 109, 100, 53]⟩ : ByteArray)), .val (.int .i64 5), .val (.int .i64 0), .val (.slice none 0 0), .row 296]) und114 pl114 z114 (by kernel_rfl) rfl) rfl rfl ?_
 refine c0_ rfl rfl (r_buildFull sl22 z3 (by decide) rfl rfl rfl rfl ck3 (cs := [.int .i64 80]) (.cons .int .nil) rfl (l := ([80] : List Int)) (f := eI) rfl) rfl rfl ?_
 refine c0_ rfl rfl (.build (r := [.val (.string (⟨#[104, 109, 97, 99, 115, 104, 97, 49]⟩ : ByteArray)), .val (.int .i64 5), .val (.int .i64 0), .val (.slice none 0 0), .row 312]) und114 pl114 z114 (by kernel_rfl) rfl) rfl rfl ?_
 refine c0_ rfl rfl (r_buildFull sl22 z3 (by decide) rfl rfl rfl rfl ck3 (cs := [.int .i64 128]) (.cons .int .nil) rfl (l := ([128] : List Int)) (f := eI) rfl) rfl rfl ?_
 refine c0_ rfl rfl (.build (r := [.val (.string (⟨#[104, 109, 97, 99, 115, 104, 97, 50, 53, 54]⟩ : ByteArray)), .val (.int .i64 5), .val (.int .i64 0), .val (.slice none 0 0), .row 328]) und114 pl114 z114 (by kernel_rfl) rfl) rfl rfl ?_
 refine c0_ rfl rfl (r_buildFull sl22 z3 (by decide) rfl rfl rfl rfl ck3 (cs := [.int .i64 256]) (.cons .int .nil) rfl (l := ([256] : List Int)) (f := eI) rfl) rfl rfl ?_
 refine c0_ rfl rfl (.build (r := [.val (.string (⟨#[97, 101, 97, 100]⟩ : ByteArray)), .val (.int .i64 5), .val (.int .i64 0), .val (.slice none 0 0), .row 344]) und114 pl114 z114 (by kernel_rfl) rfl) rfl rfl ?_
 refine c0_ rfl rfl (.buildArr (sz := 5) (r := [.val (.string (⟨#[]⟩ : ByteArray)), .val (.int .i64 0), .val (.int .i64 0), .val (.slice none 0 0), .val (.slice none 0 0), .val (.string (⟨#[109, 100, 53]⟩ : ByteArray)), .val (.int .i64 1), .val (.int .i64 0), .val (.slice none 0 0), .row 8, .val (.string (⟨#[115, 104, 97, 49]⟩ : ByteArray)), .val (.int .i64 1), .val (.int .i64 0), .val (.slice none 0 0), .row 24, .val (.string (⟨#[115, 104, 97, 50, 53, 54]⟩ : ByteArray)), .val (.int .i64 1), .val (.int .i64 0), .val (.slice none 0 0), .row 40, .val (.string (⟨#[115, 104, 97, 51, 56, 52]⟩ : ByteArray)), .val (.int .i64 1), .val (.int .i64 0), .val (.slice none 0 0), .row 56, .val (.string (⟨#[114, 115, 97]⟩ : ByteArray)), .val (.int .i64 2), .val (.int .i64 1), .val (.slice none 0 0), .val (.slice none 0 0), .val (.string (⟨#[100, 115, 97]⟩ : ByteArray)), .val (.int .i64 2), .val (.int .i64 1), .val (.slice none 0 0), .val (.slice none 0 0), .val (.string (⟨#[101, 99, 100, 115, 97]⟩ : ByteArray)), .val (.int .i64 2), .val (.int .i64 2), .val (.slice none 0 0), .val (.slice none 0 0), .val (.string (⟨#[101, 100, 50, 53, 53, 49, 57]⟩ : ByteArray)), .val (.int .i64 2), .val (.int .i64 0), .val (.slice none 0 0), .row 96, .val (.string (⟨#[109, 108, 100, 115, 97]⟩ : ByteArray)), .val (.int .i64 2), .val (.int .i64 3), .row 112, .row 120, .val (.string (⟨#[114, 115, 97, 107, 120]⟩ : ByteArray)), .val (.int .i64 3), .val (.int .i64 1), .val (.slice none 0 0), .val (.slice none 0 0), .val (.string (⟨#[100, 104, 101]⟩ : ByteArray)), .val (.int .i64 3), .val (.int .i64 1), .val (.slice none 0 0), .val (.slice none 0 0), .val (.string (⟨#[101, 99, 100, 104, 101]⟩ : ByteArray)), .val (.int .i64 3), .val (.int .i64 2), .val (.slice none 0 0), .val (.slice none 0 0), .val (.string (⟨#[109, 108, 107, 101, 109]⟩ : ByteArray)), .val (.int .i64 3), .val (.int .i64 3), .row 160, .row 168, .val (.string (⟨#[114, 99, 52]⟩ : ByteArray)), .val (.int .i64 4), .val (.int .i64 3), .row 184, .row 192, .val (.string (⟨#[100, 101, 115, 51]⟩ : ByteArray)), .val (.int .i64 4), .val (.int .i64 3), .row 208, .row 216, .val (.string (⟨#[97, 101, 115, 99, 98, 99]⟩ : ByteArray)), .val (.int .i64 4), .val (.int .i64 3), .row 232, .row 240, .val (.string (⟨#[97, 101, 115, 103, 99, 109]⟩ : ByteArray)), .val (.int .i64 4), .val (.int .i64 3), .row 256, .row 264, .val (.string (⟨#[99, 104, 97, 99, 104, 97]⟩ : ByteArray)), .val (.int .i64 4), .val (.int .i64 0), .val (.slice none 0 0), .row 280, .val (.string (⟨#[104, 109, 97, 99, 109, 100, 53]⟩ : ByteArray)), .val (.int .i64 5), .val (.int .i64 0), .val (.slice none 0 0), .row 296, .val (.string (⟨#[104, 109, 97, 99, 115, 104, 97, 49]⟩ : ByteArray)), .val (.int .i64 5), .val (.int .i64 0), .val (.slice none 0 0), .row 312, .val (.string (⟨#[104, 109, 97, 99, 115, 104, 97, 50, 53, 54]⟩ : ByteArray)), .val (.int .i64 5), .val (.int .i64 0), .val (.slice none 0 0), .row 328, .val (.string (⟨#[97, 101, 97, 100]⟩ : ByteArray)), .val (.int .i64 5), .val (.int .i64 0), .val (.slice none 0 0), .row 344]) und135 (by kernel_rfl) z135 (by kernel_rfl) rfl) rfl rfl ?_
 refine go_ ?_
 refine ch_n fun hU => ?_
 refine aw_r ?_
 obtain rfl := Option.some.inj hg
 exact fin_ [] ⟨rfl, rfl⟩
theorem w_catalog_of (alg : Int) (r : catalog_row × Bool) (hg : g_catalog_of alg = some r) : Fn Try.prog 73 0 [.val (.int .i64 alg)] [] (fun d' b' => d' = .tup [.agg (catalog_row.dv r.1), .val (.bool r.2)] ∧ b' = []) := by
 unfold g_catalog_of at hg
 refine Fn.of Try.func73 rfl rfl rfl fun w0 I ρ0 => ?_
 show awp _ ⟨w0, I, ρ0, 0, 0, 14⟩ _ _ _
 refine sr_ 0 16 mk_U ?_
 refine go_ ?_
 refine ch_n fun hU => ?_
 refine awp_seq ?_
 refine awp_cut (ι := Bool) (fun (x9_1 : Bool) => mk [(0, .val (.int .i64 alg)), (2, .ptr 0 0), (9, .val (.bool x9_1))] [(0, .box [.val (.string (⟨#[]⟩ : ByteArray)), .val (.int .i64 0), .val (.int .i64 0), .val (.slice none 0 0), .val (.slice none 0 0)] 114)] 1) (fun (x9_1 : Bool) => g_catalog_of.j1 alg x9_1 = some r) ?_ ?_
 ·refine awp_region (sys _ _ []) 16 64 hU rfl rfl ?_
  refine go_ ?_
  rcases bc_ hg with ⟨h2, hg⟩ | ⟨h2, hg⟩
  ·refine go_ ?_
   refine ch_n fun hU => ?_
   exact ⟨true, hg, sub_ [(0, 0)]⟩
  ·refine go_ ?_
   refine ch_n fun hU => ?_
   exact ⟨decide (22 < alg), hg, sub_ [(0, 0)]⟩
 ·rintro x9_1 hg
  replace hg : g_catalog_of.j1 alg x9_1 = some r := hg
  show awp _ _ _ _ (mk _ _ _)
  unfold g_catalog_of.j1 at hg
  refine cg_ rfl hg (fun h5 hg => ?_) fun h5 hg => ?_
  ·refine awp_seq ?_
   refine awp_region (sys _ _ []) 1 25 mk_U rfl rfl ?_
   refine c0_ rfl rfl (.build (r := [.val (.string (⟨#[]⟩ : ByteArray)), .val (.int .i64 0), .val (.int .i64 0), .val (.slice none 0 0), .val (.slice none 0 0)]) und114 pl114 z114 (by kernel_rfl) rfl) rfl rfl ?_
   refine go_ ?_
   refine ch_n fun hU => ?_
   refine aw_r ?_
   obtain rfl := Option.some.inj hg
   exact fin_ [] ⟨rfl, rfl⟩
  ·refine awp_skip ?_
   repeat first | refine st_ ?_ | refine sn_ ?_
   refine sr_ 1 41 mk_U ?_
   obtain ⟨y, hy, hg⟩ := bind_some hg
   refine ca_ (w_catalog_rows _ hy) ?_
   refine go_ ?_
   obtain ⟨e, he, hg⟩ := bind_some hg
   refine c0_ rfl rfl (r_indexAA (f := catalog_row.enc) (L := (arrL 23 y)) und135 ty114 catalog_row.enc_len rfl rfl he (d2 := [.val (.string e.name), .val (.int .i64 e.kind), .val (.int .i64 e.way), .sl 1 (encL eI e.sizes), .sl 1 (encL eI e.strengths)]) rfl) rfl rfl ?_
   refine go_ ?_
   refine ch_n fun hU => ?_
   refine aw_r ?_
   obtain rfl := Option.some.inj hg
   exact fin_ [] ⟨rfl, rfl⟩
theorem w_catalog_modulus (bits : Int) (r : Int) (hg : g_catalog_modulus bits = some r) : Fn Try.prog 74 0 [.val (.int .i64 bits)] [] (fun d' b' => d' = .val (.int .i64 r) ∧ b' = []) := by
 unfold g_catalog_modulus at hg
 refine Fn.of Try.func74 rfl rfl rfl fun w0 I ρ0 => ?_
 show awp _ ⟨w0, I, ρ0, 0, 0, 21⟩ _ _ _
 refine sr_ 0 8 mk_U ?_
 refine go_ ?_
 refine ch_n fun hU => ?_
 refine awp_seq ?_
 refine sr_ 8 64 hU ?_
 refine c0_ rfl rfl (.buildArr (sz := 1) (r := [.val (.int .i64 1024), .val (.int .i64 56)]) und137 (by kernel_rfl) z137 (by kernel_rfl) rfl) rfl rfl ?_
 refine c0_ rfl rfl (.buildArr (sz := 1) (r := [.val (.int .i64 2048), .val (.int .i64 80)]) und137 (by kernel_rfl) z137 (by kernel_rfl) rfl) rfl rfl ?_
 refine c0_ rfl rfl (.buildArr (sz := 1) (r := [.val (.int .i64 3072), .val (.int .i64 112)]) und137 (by kernel_rfl) z137 (by kernel_rfl) rfl) rfl rfl ?_
 refine c0_ rfl rfl (.buildArr (sz := 1) (r := [.val (.int .i64 7680), .val (.int .i64 128)]) und137 (by kernel_rfl) z137 (by kernel_rfl) rfl) rfl rfl ?_
 refine c0_ rfl rfl (.buildArr (sz := 1) (r := [.val (.int .i64 15360), .val (.int .i64 192)]) und137 (by kernel_rfl) z137 (by kernel_rfl) rfl) rfl rfl ?_
 refine c0_ rfl rfl (.buildArr (sz := 2) (r := [.val (.int .i64 1024), .val (.int .i64 56), .val (.int .i64 2048), .val (.int .i64 80), .val (.int .i64 3072), .val (.int .i64 112), .val (.int .i64 7680), .val (.int .i64 128), .val (.int .i64 15360), .val (.int .i64 192)]) und138 (by kernel_rfl) z138 (by kernel_rfl) rfl) rfl rfl ?_
 refine go_ ?_
 refine ch_n fun hU => ?_
 refine awp_block ?_
 refine lp_ (fun (x11_1 : Int) => mk [(0, .val (.int .i64 bits)), (10, .agg [.val (.int .i64 1024), .val (.int .i64 56), .val (.int .i64 2048), .val (.int .i64 80), .val (.int .i64 3072), .val (.int .i64 112), .val (.int .i64 7680), .val (.int .i64 128), .val (.int .i64 15360), .val (.int .i64 192)]), (11, .val (.int .i64 x11_1))] [] 0) hg (sub_ []) ?_
 rintro x11_1 m1 o1 hg hn1
 replace hg : g_catalog_modulus.l1 bits x11_1 = some o1 := hg
 show awp _ _ _ _ (mk _ _ _)
 unfold g_catalog_modulus.l1 at hg
 refine sr_ 0 8 mk_U ?_
 refine go_ ?_
 refine ch_n fun hU => ?_
 refine awp_seq ?_
 refine cg_ rfl hg (fun h4 hg => ?_) fun h4 hg => ?_
 ·refine awp_skip ?_
  repeat first | refine st_ ?_ | refine sn_ ?_
  refine awp_seq ?_
  refine awp_block ?_
  refine sr_ 8 32 hU ?_
  obtain ⟨e, he, hg⟩ := bind_some hg
  refine c0_ rfl rfl (r_indexAA (f := (eA 2 eI)) (L := ([([1024, 56] : List Int), ([2048, 80] : List Int), ([3072, 112] : List Int), ([7680, 128] : List Int), ([15360, 192] : List Int)] : List (List Int))) und138 ty137 (eA_len eI_len) rfl rfl he (d2 := [.val (.int .i64 (e[0]!)), .val (.int .i64 (e[1]!))]) rfl) rfl rfl ?_
  refine go_ ?_
  refine ch_n fun hU => ?_
  refine sr_ 32 64 hU ?_
  refine go_ ?_
  refine ch_s (rd := [16]) rfl rfl (.idxA (j := 0) und137 ty3 rfl (by decide)) rfl rfl ?_
  refine go_ ?_
  refine ch_n fun hU => ?_
  refine cg_ rfl hg (fun h7 hg => ?_) fun h7 hg => ?_
  ·refine awp_seq ?_
   refine awp_region (sys _ _ []) 64 88 hU rfl rfl ?_
   refine ch_s (rd := [16]) rfl rfl (.idxA (j := 1) und137 ty3 rfl (by decide)) rfl rfl ?_
   refine go_ ?_
   refine ch_n fun hU => ?_
   refine aw_r ?_
   replace hg := leave hg hn1
   obtain rfl := Option.some.inj hg
   exact fin_ [] ⟨rfl, rfl⟩
  ·refine awp_skip ?_
   repeat first | refine st_ ?_ | refine sn_ ?_
   refine awp_region (sys _ _ []) 64 80 hU rfl rfl ?_
   refine go_ ?_
   refine ch_n fun hU => ?_
   obtain rfl := Option.some.inj hg
   exact ⟨(W (x11_1 + 1), m1), Nat.lt_succ_self _, hn1, sub_ []⟩
 ·refine awp_exit ?_
  repeat first | refine st_ ?_ | refine sn_ ?_
  replace hg := leave hg hn1
  refine sr_ 8 16 hU ?_
  refine go_ ?_
  refine ch_n fun hU => ?_
  refine aw_r ?_
  obtain rfl := Option.some.inj hg
  exact fin_ [] ⟨rfl, rfl⟩
theorem w_slices_Index_int (s : (List Int)) (v : Int) (r : Int) (hg : g_slices_Index_int s v = some r) : Fn Try.prog 76 0 [.sl 1 (encL eI s), .val (.int .i64 v)] [] (fun d' b' => d' = .val (.int .i64 r) ∧ b' = []) := by
 unfold g_slices_Index_int at hg
 refine Fn.of Try.func76 rfl rfl rfl fun w0 I ρ0 => ?_
 show awp _ ⟨w0, I, ρ0, 0, 0, 19⟩ _ _ _
 refine sr_ 0 8 mk_U ?_
 refine go_ ?_
 refine ch_n fun hU => ?_
 refine awp_seq ?_
 refine sr_ 8 32 hU ?_
 refine go_ ?_
 refine ch_n fun hU => ?_
 refine awp_block ?_
 refine lp_ (fun (x8_1 : Int) => mk [(0, .sl 1 (encL eI s)), (1, .val (.int .i64 v)), (7, .val (.int .i64 (s.length : Int))), (8, .val (.int .i64 x8_1))] [] 0) hg (sub_ []) ?_
 rintro x8_1 m1 o1 hg hn1
 replace hg : g_slices_Index_int.l1 s v x8_1 = some o1 := hg
 show awp _ _ _ _ (mk _ _ _)
 unfold g_slices_Index_int.l1 at hg
 refine sr_ 0 8 mk_U ?_
 refine go_ ?_
 refine ch_n fun hU => ?_
 refine awp_seq ?_
 refine cg_ rfl hg (fun h4 hg => ?_) fun h4 hg => ?_
 ·refine awp_skip ?_
  repeat first | refine st_ ?_ | refine sn_ ?_
  refine awp_seq ?_
  refine awp_block ?_
  refine sr_ 8 24 hU ?_
  refine go_ ?_
  refine ch_n fun hU => ?_
  refine sr_ 24 72 hU ?_
  refine go_ ?_
  obtain ⟨e, he, hg⟩ := bind_some hg
  refine go_ ?_
  refine c0_ rfl rfl (r_loadE1 ty3 (enc_cell eI_len (getI_at he) (o := 0) (c := .int .i64 e) rfl rfl)) rfl rfl ?_
  refine go_ ?_
  refine ch_n fun hU => ?_
  refine cg_ rfl hg (fun h7 hg => ?_) fun h7 hg => ?_
  ·refine awp_seq ?_
   refine awp_region (sys _ _ []) 72 88 hU rfl rfl ?_
   refine go_ ?_
   refine ch_n fun hU => ?_
   refine aw_r ?_
   replace hg := leave hg hn1
   obtain rfl := Option.some.inj hg
   exact fin_ [] ⟨rfl, rfl⟩
  ·refine awp_skip ?_
   repeat first | refine st_ ?_ | refine sn_ ?_
   refine awp_region (sys _ _ []) 72 88 hU rfl rfl ?_
   refine go_ ?_
   refine ch_n fun hU => ?_
   obtain rfl := Option.some.inj hg
   exact ⟨(W (x8_1 + 1), m1), Nat.lt_succ_self _, hn1, sub_ []⟩
 ·refine awp_exit ?_
  repeat first | refine st_ ?_ | refine sn_ ?_
  replace hg := leave hg hn1
  refine sr_ 8 16 hU ?_
  refine go_ ?_
  refine ch_n fun hU => ?_
  refine aw_r ?_
  obtain rfl := Option.some.inj hg
  exact fin_ [] ⟨rfl, rfl⟩
theorem w_slices_Contains_int (s : (List Int)) (v : Int) (r : Bool) (hg : g_slices_Contains_int s v = some r) : Fn Try.prog 75 0 [.sl 1 (encL eI s), .val (.int .i64 v)] [] (fun d' b' => d' = .val (.bool r) ∧ b' = []) := by
 unfold g_slices_Contains_int at hg
 refine Fn.of Try.func75 rfl rfl rfl fun w0 I ρ0 => ?_
 show awp _ ⟨w0, I, ρ0, 0, 0, 9⟩ _ _ _
 refine sr_ 0 8 mk_U ?_
 refine go_ ?_
 refine ch_n fun hU => ?_
 refine sr_ 8 48 hU ?_
 refine go_ ?_
 obtain ⟨y, hy, hg⟩ := bind_some hg
 refine ca_ (w_slices_Index_int _ _ _ hy) ?_
 refine go_ ?_
 refine ch_n fun hU => ?_
 refine aw_r ?_
 obtain rfl := Option.some.inj hg
 exact fin_ [] ⟨rfl, rfl⟩
theorem w_catalog_Strength (u : api_Use) (r : Int) (hg : g_catalog_Strength u = some r) : Fn Try.prog 54 0 [.agg [.val (.int .i64 u.Alg), .val (.int .i64 u.Bits)]] [] (fun d' b' => d' = .val (.int .i64 r) ∧ b' = []) := by
 unfold g_catalog_Strength at hg
 refine Fn.of Try.func54 rfl rfl rfl fun w0 I ρ0 => ?_
 show awp _ ⟨w0, I, ρ0, 0, 0, 61⟩ _ _ _
 refine sr_ 0 16 mk_U ?_
 refine go_ ?_
 refine ch_n fun hU => ?_
 refine sr_ 16 88 hU ?_
 refine go_ ?_
 obtain ⟨y, hy, hg⟩ := bind_some hg
 refine ca_ (w_catalog_of _ _ hy) ?_
 refine go_ ?_
 refine ch_n fun hU => ?_
 refine awp_seq ?_
 refine sr_ 88 104 hU ?_
 refine go_ ?_
 refine ch_n fun hU => ?_
 refine cg_ rfl hg (fun h4 hg => ?_) fun h4 hg => ?_
 ·refine awp_seq ?_
  refine awp_region (sys _ _ []) 104 112 hU rfl rfl ?_
  refine go_ ?_
  refine ch_n fun hU => ?_
  refine aw_r ?_
  obtain rfl := Option.some.inj hg
  exact fin_ [] ⟨rfl, rfl⟩
 ·refine awp_skip ?_
  repeat first | refine st_ ?_ | refine sn_ ?_
  refine awp_seq ?_
  refine sr_ 104 120 hU ?_
  refine go_ ?_
  refine ch_n fun hU => ?_
  refine awp_block ?_
  refine sr_ 120 136 hU ?_
  refine go_ ?_
  refine ch_n fun hU => ?_
  refine cg_ rfl hg (fun h8 hg => ?_) fun h8 hg => ?_
  ·refine awp_seq ?_
   refine awp_region (sys _ _ []) 136 160 hU rfl rfl ?_
   refine go_ ?_
   refine ch_n fun hU => ?_
   refine cg_ rfl hg (fun h10 hg => ?_) fun h10 hg => ?_
   ·refine awp_seq ?_
    refine awp_region (sys _ _ []) 160 200 hU rfl rfl ?_
    refine go_ ?_
    obtain ⟨e, he, hg⟩ := bind_some hg
    refine go_ ?_
    refine c0_ rfl rfl (r_loadE1 ty3 (enc_cell eI_len (getI_at he) (o := 0) (c := .int .i64 e) rfl rfl)) rfl rfl ?_
    refine go_ ?_
    refine ch_n fun hU => ?_
    refine aw_r ?_
    obtain rfl := Option.some.inj hg
    exact fin_ [] ⟨rfl, rfl⟩
   ·refine awp_skip ?_
    repeat first | refine st_ ?_ | refine sn_ ?_
    refine sr_ 160 168 hU ?_
    refine go_ ?_
    refine ch_n fun hU => ?_
    refine aw_r ?_
    obtain rfl := Option.some.inj hg
    exact fin_ [] ⟨rfl, rfl⟩
  ·refine awp_seq ?_
   refine awp_region (sys _ _ []) 136 152 hU rfl rfl ?_
   refine go_ ?_
   refine ch_n fun hU => ?_
   refine cg_ rfl hg (fun h13 hg => ?_) fun h13 hg => ?_
   ·refine awp_cut (ι := Bool) (fun (x34_1 : Bool) => mk [(1, .ptr 0 0), (34, .val (.bool x34_1))] [(0, .box [.val (.int .i64 u.Alg), .val (.int .i64 u.Bits)] 43)] 1) (fun (x34_1 : Bool) => g_catalog_Strength.j1 u x34_1 = some r) ?_ ?_
    ·refine awp_region (sys _ _ []) 152 216 hU rfl rfl ?_
     refine go_ ?_
     rcases bc_ hg with ⟨h14, hg⟩ | ⟨h14, hg⟩
     ·refine go_ ?_
      refine ch_n fun hU => ?_
      exact ⟨decide (u.Bits ≤ 16384), hg, sub_ [(0, 0)]⟩
     ·refine go_ ?_
      refine ch_n fun hU => ?_
      exact ⟨false, hg, sub_ [(0, 0)]⟩
    ·rintro x34_1 hg
     replace hg : g_catalog_Strength.j1 u x34_1 = some r := hg
     show awp _ _ _ _ (mk _ _ _)
     unfold g_catalog_Strength.j1 at hg
     refine cg_ rfl hg (fun h17 hg => ?_) fun h17 hg => ?_
     ·refine awp_seq ?_
      refine awp_region (sys _ _ []) 1 33 mk_U rfl rfl ?_
      refine go_ ?_
      obtain ⟨y_2, hy_2, hg⟩ := bind_some hg
      refine ca_ (w_catalog_modulus _ _ hy_2) ?_
      refine go_ ?_
      refine ch_n fun hU => ?_
      refine aw_r ?_
      obtain rfl := Option.some.inj hg
      exact fin_ [] ⟨rfl, rfl⟩
     ·refine awp_skip ?_
      repeat first | refine st_ ?_ | refine sn_ ?_
      refine sr_ 1 9 mk_U ?_
      refine go_ ?_
      refine ch_n fun hU => ?_
      refine aw_r ?_
      obtain rfl := Option.some.inj hg
      exact fin_ [] ⟨rfl, rfl⟩
   ·refine awp_seq ?_
    refine awp_region (sys _ _ []) 152 168 hU rfl rfl ?_
    refine go_ ?_
    refine ch_n fun hU => ?_
    refine cg_ rfl hg (fun h20 hg => ?_) fun h20 hg => ?_
    ·refine awp_seq ?_
     refine awp_region (sys _ _ []) 168 200 hU rfl rfl ?_
     refine c0_ rfl rfl (r_buildFull sl22 z3 (by decide) rfl rfl rfl rfl ck3 (cs := [.int .i64 160, .int .i64 224, .int .i64 256, .int .i64 384, .int .i64 521]) (.cons .int (.cons .int (.cons .int (.cons .int (.cons .int .nil))))) rfl (l := ([160, 224, 256, 384, 521] : List Int)) (f := eI) rfl) rfl rfl ?_
     refine go_ ?_
     obtain ⟨y_3, hy_3, hg⟩ := bind_some hg
     refine cb_ [168] [] [] true (w_slices_Contains_int _ _ _ hy_3) ?_
     refine ch_n fun hU => ?_
     refine cg_ rfl hg (fun h22 hg => ?_) fun h22 hg => ?_
     ·refine awp_seq ?_
      refine awp_region (sys _ _ []) 200 232 hU rfl rfl ?_
      refine go_ ?_
      obtain ⟨q, hq, hg⟩ := bind_some hg
      refine c0_ rfl rfl (r_quo hq) rfl rfl ?_
      refine go_ ?_
      refine ch_n fun hU => ?_
      refine aw_r ?_
      obtain rfl := Option.some.inj hg
      exact fin_ [] ⟨rfl, rfl⟩
     ·refine awp_skip ?_
      repeat first | refine st_ ?_ | refine sn_ ?_
      refine sr_ 200 208 hU ?_
      refine go_ ?_
      refine ch_n fun hU => ?_
      refine aw_r ?_
      obtain rfl := Option.some.inj hg
      exact fin_ [] ⟨rfl, rfl⟩
    ·refine awp_seq ?_
     refine awp_region (sys _ _ []) 168 184 hU rfl rfl ?_
     refine go_ ?_
     refine ch_n fun hU => ?_
     refine cg_ rfl hg (fun h25 hg => ?_) fun h25 hg => ?_
     ·refine awp_seq ?_
      refine awp_region (sys _ _ []) 184 232 hU rfl rfl ?_
      refine go_ ?_
      obtain ⟨y_4, hy_4, hg⟩ := bind_some hg
      refine ca_ (w_slices_Index_int _ _ _ hy_4) ?_
      refine go_ ?_
      refine ch_n fun hU => ?_
      refine sr_ 232 248 hU ?_
      refine go_ ?_
      refine ch_n fun hU => ?_
      refine cg_ rfl hg (fun h28 hg => ?_) fun h28 hg => ?_
      ·refine awp_seq ?_
       refine awp_region (sys _ _ []) 248 296 hU rfl rfl ?_
       refine go_ ?_
       obtain ⟨e_2, he_2, hg⟩ := bind_some hg
       refine go_ ?_
       refine c0_ rfl rfl (r_loadE1 ty3 (enc_cell eI_len (getI_at he_2) (o := 0) (c := .int .i64 e_2) rfl rfl)) rfl rfl ?_
       refine go_ ?_
       refine ch_n fun hU => ?_
       refine aw_r ?_
       obtain rfl := Option.some.inj hg
       exact fin_ [] ⟨rfl, rfl⟩
      ·refine awp_skip ?_
       repeat first | refine st_ ?_ | refine sn_ ?_
       refine sr_ 248 256 hU ?_
       refine go_ ?_
       refine ch_n fun hU => ?_
       refine aw_r ?_
       obtain rfl := Option.some.inj hg
       exact fin_ [] ⟨rfl, rfl⟩
     ·refine awp_skip ?_
      repeat first | refine st_ ?_ | refine sn_ ?_
      refine sr_ 184 192 hU ?_
      refine go_ ?_
      refine ch_n fun hU => ?_
      refine aw_r ?_
      obtain rfl := Option.some.inj hg
      exact fin_ [] ⟨rfl, rfl⟩
theorem w_catalog_Valid (u : api_Use) (r : Bool) (hg : g_catalog_Valid u = some r) : Fn Try.prog 39 0 [.agg [.val (.int .i64 u.Alg), .val (.int .i64 u.Bits)]] [] (fun d' b' => d' = .val (.bool r) ∧ b' = []) := by
 unfold g_catalog_Valid at hg
 refine Fn.of Try.func39 rfl rfl rfl fun w0 I ρ0 => ?_
 show awp _ ⟨w0, I, ρ0, 0, 0, 6⟩ _ _ _
 refine sr_ 0 16 mk_U ?_
 refine go_ ?_
 refine ch_n fun hU => ?_
 refine sr_ 16 48 hU ?_
 refine go_ ?_
 obtain ⟨y, hy, hg⟩ := bind_some hg
 refine ca_ (w_catalog_Strength _ _ hy) ?_
 refine go_ ?_
 refine ch_n fun hU => ?_
 refine aw_r ?_
 obtain rfl := Option.some.inj hg
 exact fin_ [] ⟨rfl, rfl⟩
theorem w_pattern_Check (p : (List api_Pattern)) (r : Int) (hg : g_pattern_Check p = some r) : Fn Try.prog 17 0 [.sl 3 (encL api_Pattern.enc p)] [] (fun d' b' => d' = .val (.int .i64 r) ∧ b' = []) := by
 unfold g_pattern_Check at hg
 refine Fn.of Try.func17 rfl rfl rfl fun w0 I ρ0 => ?_
 show awp _ ⟨w0, I, ρ0, 0, 0, 31⟩ _ _ _
 refine sr_ 0 8 mk_U ?_
 refine go_ ?_
 refine ch_n fun hU => ?_
 refine awp_seq ?_
 refine sr_ 8 32 hU ?_
 refine go_ ?_
 refine ch_n fun hU => ?_
 refine awp_block ?_
 refine lp_ (fun (x7_1 : Int) => mk [(0, .sl 3 (encL api_Pattern.enc p)), (5, .sl 3 (encL api_Pattern.enc p)), (6, .val (.int .i64 (p.length : Int))), (7, .val (.int .i64 x7_1))] [] 0) hg (sub_ []) ?_
 rintro x7_1 m1 o1 hg hn1
 replace hg : g_pattern_Check.l1 p x7_1 = some o1 := hg
 show awp _ _ _ _ (mk _ _ _)
 unfold g_pattern_Check.l1 at hg
 refine sr_ 0 8 mk_U ?_
 refine go_ ?_
 refine ch_n fun hU => ?_
 refine awp_seq ?_
 refine cg_ rfl hg (fun h4 hg => ?_) fun h4 hg => ?_
 ·refine awp_skip ?_
  repeat first | refine st_ ?_ | refine sn_ ?_
  refine awp_seq ?_
  refine awp_block ?_
  refine sr_ 8 40 hU ?_
  obtain ⟨e, he, hg⟩ := bind_some hg
  refine go_ ?_
  refine c0_ rfl rfl (r_loadEA ty45 (enc_cells api_Pattern.enc_len (getI_at he) (o := 0) (m := 3) (cs := [.int .i64 e.Use.Alg, .int .i64 e.Use.Bits, .sl 1 (encL e8 e.Bytes)]) rfl (by decide) rfl) (enc_cells_le api_Pattern.enc_len (getI_at he) (o := 0) (m := 3) (by decide) rfl)) rfl rfl ?_
  refine go_ ?_
  refine ch_n fun hU => ?_
  refine awp_cut (ι := Bool) (fun (x26_2 : Bool) => mk [(0, .sl 3 (encL api_Pattern.enc p)), (5, .sl 3 (encL api_Pattern.enc p)), (6, .val (.int .i64 (p.length : Int))), (7, .val (.int .i64 x7_1)), (26, .val (.bool x26_2))] [] 0) (fun (x26_2 : Bool) => g_pattern_Check.j2 x7_1 x26_2 = some o1) ?_ ?_
  ·refine awp_region (sys _ _ []) 40 168 hU rfl rfl ?_
   refine go_ ?_
   rcases bc_ hg with ⟨h6, hg⟩ | ⟨h6, hg⟩
   ·refine go_ ?_
    refine ch_n fun hU => ?_
    exact ⟨true, hg, sub_ []⟩
   ·refine go_ ?_
    rcases bc_ hg with ⟨h8, hg⟩ | ⟨h8, hg⟩
    ·refine go_ ?_
     refine ch_n fun hU => ?_
     exact ⟨true, hg, sub_ []⟩
    ·refine go_ ?_
     obtain ⟨y, hy, hg⟩ := bind_some hg
     refine ca_ (w_catalog_Valid _ _ hy) ?_
     refine go_ ?_
     refine ch_n fun hU => ?_
     exact ⟨!y, hg, sub_ []⟩
  ·rintro x26_2 hg
   replace hg : g_pattern_Check.j2 x7_1 x26_2 = some o1 := hg
   show awp _ _ _ _ (mk _ _ _)
   unfold g_pattern_Check.j2 at hg
   refine cg_ rfl hg (fun h11 hg => ?_) fun h11 hg => ?_
   ·refine awp_seq ?_
    refine awp_region (sys _ _ []) 0 8 mk_U rfl rfl ?_
    refine go_ ?_
    refine ch_n fun hU => ?_
    refine aw_r ?_
    replace hg := leave hg hn1
    obtain rfl := Option.some.inj hg
    exact fin_ [] ⟨rfl, rfl⟩
   ·refine awp_skip ?_
    repeat first | refine st_ ?_ | refine sn_ ?_
    refine awp_region (sys _ _ []) 0 16 mk_U rfl rfl ?_
    refine go_ ?_
    refine ch_n fun hU => ?_
    obtain rfl := Option.some.inj hg
    exact ⟨(W (x7_1 + 1), m1), Nat.lt_succ_self _, hn1, sub_ []⟩
 ·refine awp_exit ?_
  repeat first | refine st_ ?_ | refine sn_ ?_
  replace hg := leave hg hn1
  refine awp_seq ?_
  refine sr_ 8 32 hU ?_
  refine go_ ?_
  refine ch_n fun hU => ?_
  refine cg_ rfl hg (fun h15 hg => ?_) fun h15 hg => ?_
  ·refine awp_seq ?_
   refine awp_region (sys _ _ []) 32 40 hU rfl rfl ?_
   refine go_ ?_
   refine ch_n fun hU => ?_
   refine aw_r ?_
   obtain rfl := Option.some.inj hg
   exact fin_ [] ⟨rfl, rfl⟩
  ·refine awp_skip ?_
   repeat first | refine st_ ?_ | refine sn_ ?_
   refine sr_ 32 40 hU ?_
   refine go_ ?_
   refine ch_n fun hU => ?_
   refine aw_r ?_
   obtain rfl := Option.some.inj hg
   exact fin_ [] ⟨rfl, rfl⟩
theorem w_pattern_early (p : (List api_Pattern)) (b : (List UInt8)) (r : Int) (hg : g_pattern_early p b = some r) : Fn Try.prog 30 0 [.sl 3 (encL api_Pattern.enc p), .sl 1 (encL e8 b)] [] (fun d' b' => d' = .val (.int .i64 r) ∧ b' = []) := by
 unfold g_pattern_early at hg
 refine Fn.of Try.func30 rfl rfl rfl fun w0 I ρ0 => ?_
 show awp _ ⟨w0, I, ρ0, 0, 0, 14⟩ _ _ _
 refine sr_ 0 8 mk_U ?_
 refine go_ ?_
 refine ch_n fun hU => ?_
 refine awp_seq ?_
 refine sr_ 8 32 hU ?_
 refine go_ ?_
 obtain ⟨y, hy, hg⟩ := bind_some hg
 refine ca_ (w_pattern_Check _ _ hy) ?_
 refine go_ ?_
 refine ch_n fun hU => ?_
 refine sr_ 32 48 hU ?_
 refine go_ ?_
 refine ch_n fun hU => ?_
 refine cg_ rfl hg (fun h4 hg => ?_) fun h4 hg => ?_
 ·refine awp_seq ?_
  refine awp_region (sys _ _ []) 48 64 hU rfl rfl ?_
  refine go_ ?_
  refine ch_n fun hU => ?_
  refine aw_r ?_
  obtain rfl := Option.some.inj hg
  exact fin_ [] ⟨rfl, rfl⟩
 ·refine awp_skip ?_
  repeat first | refine st_ ?_ | refine sn_ ?_
  refine awp_seq ?_
  refine sr_ 48 72 hU ?_
  refine go_ ?_
  refine ch_n fun hU => ?_
  refine cg_ rfl hg (fun h7 hg => ?_) fun h7 hg => ?_
  ·refine awp_seq ?_
   refine awp_region (sys _ _ []) 72 80 hU rfl rfl ?_
   refine go_ ?_
   refine ch_n fun hU => ?_
   refine aw_r ?_
   obtain rfl := Option.some.inj hg
   exact fin_ [] ⟨rfl, rfl⟩
  ·refine awp_skip ?_
   repeat first | refine st_ ?_ | refine sn_ ?_
   refine sr_ 72 80 hU ?_
   refine go_ ?_
   refine ch_n fun hU => ?_
   refine aw_r ?_
   obtain rfl := Option.some.inj hg
   exact fin_ [] ⟨rfl, rfl⟩
theorem w_pattern_tree_c1  (r : pattern_state) (hg : g_pattern_tree_c1 = some r) : Fn Try.prog 92 0 [] [] (fun d' b' => d' = .agg (aD .i16 256 r.next ++ [.val (.int .i16 r.back), .row 0]) ∧ b' = [.row 3 1 (encL eI r.ends)]) := by
 unfold g_pattern_tree_c1 at hg
 refine Fn.of Try.func92 rfl rfl rfl fun w0 I ρ0 => ?_
 show awp _ ⟨w0, I, ρ0, 0, 0, 11⟩ _ _ _
 refine sr_ 0 8 mk_U ?_
 refine c0_ rfl rfl (r_allocA (ds := (aD .i16 256 (List.replicate 256 (0 : Int)) ++ [.val (.int .i16 0), .val (.slice none 0 0)])) z88 (by kernel_rfl)) rfl rfl ?_
 refine ch_n fun hU => ?_
 refine sr_ 8 16 hU ?_
 refine c0_ rfl rfl (r_allocA (ds := (aD .i16 256 (List.replicate 256 (0 : Int)) ++ [.val (.int .i16 0), .val (.slice none 0 0)])) z88 (by kernel_rfl)) rfl rfl ?_
 refine ch_n fun hU => ?_
 refine awp_seq ?_
 refine sr_ 16 24 hU ?_
 refine go_ ?_
 refine ch_n fun hU => ?_
 refine awp_block ?_
 refine lp_ (fun ((x3_1, s_1) : Int × List Int) => mk [(0, .ptr 0 0), (1, .ptr 1 0), (3, .val (.int .i64 x3_1))] [(0, .box (aD .i16 256 (List.replicate 256 (0 : Int)) ++ [.val (.int .i16 0), .val (.slice none 0 0)]) 88), (1, .box (aD .i16 256 s_1 ++ [.val (.int .i16 0), .val (.slice none 0 0)]) 88)] 2) hg ((by exact Sub.lists [(0, 0), (1, 8)] (by kernel_rfl) rfl ⟨⟨_, rfl, .ptr rfl⟩, ⟨_, rfl, .ptr rfl⟩, ⟨_, rfl, .val _⟩, trivial⟩ ⟨.inl ⟨0, _, rfl, rfl, ⟨rfl, cvA_ (.cons (.val _) (.cons (.val _) .nil))⟩⟩, .inl ⟨8, _, rfl, rfl, ⟨rfl, cvA_ (.cons (.val _) (.cons (.val _) .nil))⟩⟩, trivial⟩)) ?_
 rintro ⟨x3_1, s_1⟩ m1 o1 hg hn1
 replace hg : g_pattern_tree_c1.l1 x3_1 s_1 = some o1 := hg
 show awp _ _ _ _ (mk _ _ _)
 unfold g_pattern_tree_c1.l1 at hg
 refine sr_ 2 10 mk_U ?_
 refine go_ ?_
 refine ch_n fun hU => ?_
 refine awp_seq ?_
 refine cg_ rfl hg (fun h5 hg => ?_) fun h5 hg => ?_
 ·refine awp_skip ?_
  repeat first | refine st_ ?_ | refine sn_ ?_
  refine awp_seq ?_
  refine awp_block ?_
  refine sr_ 10 26 hU ?_
  refine go_ ?_
  refine ch_n fun hU => ?_
  refine awp_region (sys _ _ []) 26 58 hU rfl rfl ?_
  refine go_ ?_
  obtain ⟨e, he, hg⟩ := bind_some hg
  refine ch_s (rd := [1]) rfl rfl (.idxA (j := ((x3_1).toNat)) und86 ty85 (getI_ix he) (arrL_lt (getI_at he))) rfl rfl ?_
  refine ch_s (rd := [1]) rfl rfl (r_storeBA ty85 (getI_at he)) rfl rfl ?_
  refine ch_n fun hU => ?_
  refine awp_region (sys _ _ []) 58 74 hU rfl rfl ?_
  refine go_ ?_
  refine ch_n fun hU => ?_
  obtain rfl := Option.some.inj hg
  exact ⟨((W (x3_1 + 1), setI (arrL 256 s_1) ((x3_1).toNat) (-1)), m1), Nat.lt_succ_self _, hn1, (by exact Sub.lists [(0, 0), (1, 1)] (by kernel_rfl) rfl ⟨⟨_, rfl, .ptr rfl⟩, ⟨_, rfl, .ptr rfl⟩, ⟨_, rfl, .val _⟩, trivial⟩ ⟨.inl ⟨0, _, rfl, rfl, ⟨rfl, cvA_ (.cons (.val _) (.cons (.val _) .nil))⟩⟩, .inl ⟨1, _, rfl, rfl, ⟨rfl, cvA_ (.cons (.val _) (.cons (.val _) .nil))⟩⟩, trivial⟩)⟩
 ·refine awp_exit ?_
  repeat first | refine st_ ?_ | refine sn_ ?_
  replace hg := leave hg hn1
  refine sr_ 10 26 hU ?_
  refine ch_s (rd := [1]) rfl rfl (r_loadBA_ ty88 lenD) rfl rfl ?_
  refine ch_s (rd := [0]) rfl rfl (r_storeBW ty88 lenD lenD (all_okA rfl)) (by kernel_rfl) rfl ?_
  refine ch_n fun hU => ?_
  refine aw_r ?_
  obtain rfl := Option.some.inj hg
  exact ⟨[_], _, [_], [], .cons (.cellA rfl rfl ty88 rfl) .nil, ⟨rfl, rfl⟩, .agg (cvA_ (.cons (.val _) (.cons (.nil rfl) .nil))), ⟨.inr ⟨rfl, _, _, rfl⟩, trivial⟩, (by kernel_rfl), rfl, rfl, rfl, rfl⟩
theorem w_pattern_tree (p : (List api_Pattern)) (r : (List pattern_state)) (hg : g_pattern_tree p = some r) : Fn Try.prog 62 0 [.sl 3 (encL api_Pattern.enc p)] [] (fun d' b' => d' = .row 0 ∧ b' = [.tree 88 258 257 3 1 1 none (encL pattern_state.enc r), .gho]) := by
 unfold g_pattern_tree at hg
 refine Fn.of Try.func62 rfl rfl rfl fun w0 I ρ0 => ?_
 show awp _ ⟨w0, I, ρ0, 0, 0, 71⟩ _ _ _
 refine sr_ 0 8 mk_U ?_
 refine go_ ?_
 refine ch_n fun hU => ?_
 refine sr_ 8 16 hU ?_
 refine go_ ?_
 refine ch_n fun hU => ?_
 refine sr_ 16 48 hU ?_
 refine go_ ?_
 obtain ⟨y, hy, hg⟩ := bind_some hg
 refine ch_callV (rd := []) (ps := []) (gs := []) false rfl rfl (w_pattern_tree_c1 _ hy) rfl rfl .nil rfl rfl (by intro h; cases h) rfl (by intro h; first | (cases h; done) | exact ⟨_, _, ⟨rfl, rfl⟩, by simp, by simp⟩) ?_
 rintro _ _ ⟨rfl, rfl⟩
 refine ch_x (rd := [24]) rfl rfl (x_buildT (o := 257) (r := (aD .i16 256 y.next ++ [.val (.int .i16 y.back), .row 24])) (pre := (aD .i16 256 y.next ++ [.val (.int .i16 y.back)])) (post := []) (ck1 := (List.replicate 256 none ++ [none])) (ck2 := []) (cs1 := encL pattern_state.enc ([y] : List pattern_state)) sl83 z88 (by decide) (by kernel_rfl) (by kernel_rfl) (by kernel_rfl) lenD (dcA_ (.cons .int .nil)) .nil (List.Mem.head _) rfl (by kernel_rfl)) (by kernel_rfl) rfl (fun _ => ⟨_, rfl⟩) ?_
 rintro _ rfl
 refine go_ ?_
 refine ch_n fun hU => ?_
 refine awp_seq ?_
 refine sr_ 48 72 hU ?_
 refine go_ ?_
 refine ch_n fun hU => ?_
 refine awp_block ?_
 refine lp_ (fun ((x15_1, states_1) : Int × List pattern_state) => mk [(3, .val (.func (.func 92) #[] #[])), (4, .row 0), (13, .sl 3 (encL api_Pattern.enc p)), (14, .val (.int .i64 (p.length : Int))), (15, .val (.int .i64 x15_1))] [(0, .tree 88 258 257 3 1 1 none (encL pattern_state.enc states_1)), (1, .gho)] 2) hg (sub_ [(0, 32), (1, 33)]) ?_
 rintro ⟨x15_1, states_1⟩ m1 o1 hg hn1
 replace hg : g_pattern_tree.l1 p x15_1 states_1 = some o1 := hg
 show awp _ _ _ _ (mk _ _ _)
 unfold g_pattern_tree.l1 at hg
 refine sr_ 2 10 mk_U ?_
 refine go_ ?_
 refine ch_n fun hU => ?_
 refine awp_seq ?_
 refine cg_ rfl hg (fun h6 hg => ?_) fun h6 hg => ?_
 ·refine awp_skip ?_
  repeat first | refine st_ ?_ | refine sn_ ?_
  refine awp_seq ?_
  refine awp_block ?_
  refine sr_ 10 58 hU ?_
  refine go_ ?_
  obtain ⟨e, he, hg⟩ := bind_some hg
  refine go_ ?_
  refine c0_ rfl rfl (r_loadEA ty45 (enc_cells api_Pattern.enc_len (getI_at he) (o := 0) (m := 3) (cs := [.int .i64 e.Use.Alg, .int .i64 e.Use.Bits, .sl 1 (encL e8 e.Bytes)]) rfl (by decide) rfl) (enc_cells_le api_Pattern.enc_len (getI_at he) (o := 0) (m := 3) (by decide) rfl)) rfl rfl ?_
  refine go_ ?_
  refine ch_n fun hU => ?_
  refine sr_ 58 66 hU ?_
  refine go_ ?_
  refine ch_n fun hU => ?_
  refine awp_seq ?_
  refine sr_ 66 98 hU ?_
  refine go_ ?_
  refine ch_n fun hU => ?_
  refine awp_block ?_
  refine lp_ (fun ((at_2, x23_2, states_2) : Int × Int × List pattern_state) => mk [(3, .val (.func (.func 92) #[] #[])), (4, .row 0), (5, .val (.int .i64 x15_1)), (7, .val (.int .i16 at_2)), (13, .sl 3 (encL api_Pattern.enc p)), (14, .val (.int .i64 (p.length : Int))), (15, .val (.int .i64 x15_1)), (21, .sl 1 (encL e8 e.Bytes)), (22, .val (.int .i64 (e.Bytes.length : Int))), (23, .val (.int .i64 x23_2))] [(0, .tree 88 258 257 3 1 1 none (encL pattern_state.enc states_2)), (1, .gho)] 2) hg (sub_ [(0, 0), (1, 1)]) ?_
  rintro ⟨at_2, x23_2, states_2⟩ m2 o2 hg hn2
  replace hg : g_pattern_tree.l2 x15_1 e at_2 x23_2 states_2 = some o2 := hg
  show awp _ _ _ _ (mk _ _ _)
  unfold g_pattern_tree.l2 at hg
  refine sr_ 2 10 mk_U ?_
  refine go_ ?_
  refine ch_n fun hU => ?_
  refine awp_seq ?_
  refine cg_ rfl hg (fun h11 hg => ?_) fun h11 hg => ?_
  ·refine awp_skip ?_
   repeat first | refine st_ ?_ | refine sn_ ?_
   refine awp_seq ?_
   refine awp_block ?_
   refine sr_ 10 34 hU ?_
   obtain ⟨e_2, he_2, hg⟩ := bind_some hg
   refine go_ ?_
   refine c0_ rfl rfl (r_loadE1 ty5 (enc_cell e8_len (getI_at he_2) (o := 0) (c := .int .u8 (e_2.toNat : Int)) rfl rfl)) rfl rfl ?_
   refine go_ ?_
   refine ch_n fun hU => ?_
   refine awp_cut (ι := List pattern_state) (fun (states_3 : List pattern_state) => mk [(3, .val (.func (.func 92) #[] #[])), (4, .row 0), (5, .val (.int .i64 x15_1)), (7, .val (.int .i16 at_2)), (9, .val (.int .u8 (e_2.toNat : Int))), (13, .sl 3 (encL api_Pattern.enc p)), (14, .val (.int .i64 (p.length : Int))), (15, .val (.int .i64 x15_1)), (21, .sl 1 (encL e8 e.Bytes)), (22, .val (.int .i64 (e.Bytes.length : Int))), (23, .val (.int .i64 x23_2))] [(0, .tree 88 258 257 3 1 1 none (encL pattern_state.enc states_3)), (1, .gho)] 2) (fun (states_3 : List pattern_state) => g_pattern_tree.j3 at_2 x23_2 e_2 states_3 = some o2) ?_ ?_
   ·refine awp_seq ?_
    refine awp_region (sys _ _ []) 34 98 hU rfl rfl ?_
    refine go_ ?_
    obtain ⟨e_3, he_3, hg⟩ := bind_some hg
    refine ch_s (rd := [0]) rfl rfl (.idxT sl83 (getI_ix he_3) (enc_le pattern_state.enc_len (getI_at he_3))) rfl rfl ?_
    refine go_ ?_
    obtain ⟨e_4, he_4, hg⟩ := bind_some hg
    refine ch_s (rd := [0]) rfl rfl (.idxA (j := (((e_2.toNat : Int)).toNat)) und86 ty85 (getI_ix he_4) (arrL_lt (getI_at he_4))) rfl rfl ?_
    refine ch_s (rd := [0]) rfl rfl (.loadT1 ty85 (at_modA (getI_at he_4) (by decide) (by decide)) (enc_cellA pattern_state.enc_len (getI_at he_3) rfl (getI_at he_4))) rfl rfl ?_
    refine go_ ?_
    refine ch_n fun hU => ?_
    refine cg_ rfl hg (fun h14 hg => ?_) fun h14 hg => ?_
    ·refine awp_seq ?_
     refine awp_region (sys _ _ []) 98 178 hU rfl rfl ?_
     refine go_ ?_
     refine ch_s (rd := [0]) rfl rfl (.len sl83.elem (.rowT (by decide) (encL_len pattern_state.enc_len _))) rfl rfl ?_
     refine c0_ rfl rfl (r_convK und3 und85) rfl rfl ?_
     refine ch_s (rd := [0]) rfl rfl (.idxT sl83 (getI_ix he_3) (enc_le pattern_state.enc_len (getI_at he_3))) rfl rfl ?_
     refine go_ ?_
     refine ch_s (rd := [0]) rfl rfl (.idxA (j := (((e_2.toNat : Int)).toNat)) und86 ty85 (getI_ix he_4) (arrL_lt (getI_at he_4))) rfl rfl ?_
     refine ch_x (rd := [0]) rfl rfl (x_storeTA (y' := (pattern_state.mk (setI (arrL 256 e_3.next) (((e_2.toNat : Int)).toNat) (IntKind.wrap .i16 (states_2.length : Int))) e_3.back e_3.ends)) pattern_state.enc_len ty85 (getI_at he_3) rfl (getI_at he_4) (by decide) (by decide) (List.Mem.head _) rfl) rfl rfl (fun _ => ⟨_, rfl⟩) ?_
     rintro _ rfl
     refine ch_n fun hU => ?_
     refine awp_region (sys _ _ []) 178 226 hU rfl rfl ?_
     refine go_ ?_
     obtain ⟨y_2, hy_2, hg⟩ := bind_some hg
     refine ch_callV (rd := []) (ps := []) (gs := []) false rfl rfl (w_pattern_tree_c1 _ hy_2) rfl rfl .nil rfl rfl (by intro h; cases h) rfl (by intro h; first | (cases h; done) | exact ⟨_, _, ⟨rfl, rfl⟩, by simp, by simp⟩) ?_
     rintro _ _ ⟨rfl, rfl⟩
     refine ch_x (rd := [194]) rfl rfl (x_buildT (o := 257) (r := (aD .i16 256 y_2.next ++ [.val (.int .i16 y_2.back), .row 194])) (pre := (aD .i16 256 y_2.next ++ [.val (.int .i16 y_2.back)])) (post := []) (ck1 := (List.replicate 256 none ++ [none])) (ck2 := []) (cs1 := encL pattern_state.enc ([y_2] : List pattern_state)) sl83 z88 (by decide) (by kernel_rfl) (by kernel_rfl) (by kernel_rfl) lenD (dcA_ (.cons .int .nil)) .nil (List.Mem.head _) rfl (by kernel_rfl)) (by kernel_rfl) rfl (fun _ => ⟨_, rfl⟩) ?_
     rintro _ rfl
     obtain ⟨l, hl, hg⟩ := bind_some hg
     refine ch_x (rd := [0, 202]) rfl rfl (x_appT sl83 pattern_state.enc_len (List.Mem.head _) (List.Mem.tail _ (List.Mem.head _)) rfl hl rfl rfl rfl) rfl rfl (fun _ => ⟨_, rfl⟩) ?_
     rintro _ rfl
     refine go_ ?_
     refine ch_n fun hU => ?_
     exact ⟨l, hg, sub_ [(0, 210), (1, 211)]⟩
    ·refine awp_skip ?_
     repeat first | refine st_ ?_ | refine sn_ ?_
     exact ⟨states_2, hg, sub_ [(0, 0), (1, 1)]⟩
   ·rintro states_3 hg
    replace hg : g_pattern_tree.j3 at_2 x23_2 e_2 states_3 = some o2 := hg
    show awp _ _ _ _ (mk _ _ _)
    unfold g_pattern_tree.j3 at hg
    refine awp_region (sys _ _ []) 2 66 mk_U rfl rfl ?_
    refine go_ ?_
    obtain ⟨e_5, he_5, hg⟩ := bind_some hg
    refine ch_s (rd := [0]) rfl rfl (.idxT sl83 (getI_ix he_5) (enc_le pattern_state.enc_len (getI_at he_5))) rfl rfl ?_
    refine go_ ?_
    obtain ⟨e_6, he_6, hg⟩ := bind_some hg
    refine ch_s (rd := [0]) rfl rfl (.idxA (j := (((e_2.toNat : Int)).toNat)) und86 ty85 (getI_ix he_6) (arrL_lt (getI_at he_6))) rfl rfl ?_
    refine ch_s (rd := [0]) rfl rfl (.loadT1 ty85 (at_modA (getI_at he_6) (by decide) (by decide)) (enc_cellA pattern_state.enc_len (getI_at he_5) rfl (getI_at he_6))) rfl rfl ?_
    refine go_ ?_
    refine ch_n fun hU => ?_
    refine awp_region (sys _ _ []) 66 82 hU rfl rfl ?_
    refine go_ ?_
    refine ch_n fun hU => ?_
    obtain rfl := Option.some.inj hg
    exact ⟨((e_6, W (x23_2 + 1), states_3), m2), Nat.lt_succ_self _, hn2, sub_ [(0, 0), (1, 1)]⟩
  ·refine awp_exit ?_
   repeat first | refine st_ ?_ | refine sn_ ?_
   replace hg := leave hg hn2
   refine awp_region (sys _ _ []) 10 114 hU rfl rfl ?_
   refine go_ ?_
   obtain ⟨e_7, he_7, hg⟩ := bind_some hg
   refine ch_s (rd := [0]) rfl rfl (.idxT sl83 (getI_ix he_7) (enc_le pattern_state.enc_len (getI_at he_7))) rfl rfl ?_
   refine go_ ?_
   refine ch_s (rd := [0]) rfl rfl (.loadTN ty22 (by decide) rfl no_hole (enc_lt pattern_state.enc_len (getI_at he_7) (o := 257) (by decide) rfl)) rfl rfl ?_
   refine go_ ?_
   refine c0_ rfl rfl (r_buildFull sl22 z3 (by decide) rfl rfl rfl rfl ck3 (cs := [.int .i64 x15_1]) (.cons .int .nil) rfl (l := ([x15_1] : List Int)) (f := eI) rfl) rfl rfl ?_
   obtain ⟨l_2, hl_2, hg⟩ := bind_some hg
   refine ch_x (rd := [0, 1, 74]) rfl rfl (x_appN (l := e_7.ends) (l' := ([x15_1] : List Int)) sl22 eI_len (enc_cell pattern_state.enc_len (getI_at he_7) (o := 257) (c := .sl 1 (encL eI e_7.ends)) (aC_past (i := 1) rfl) rfl) rfl .row rfl hl_2 rfl (List.Mem.head _) rfl) rfl rfl (fun _ => ⟨_, rfl⟩) ?_
   rintro _ rfl
   refine ch_s (rd := [0]) rfl rfl (.idxT sl83 (getI_ix he_7) (enc_le pattern_state.enc_len (getI_at he_7))) rfl rfl ?_
   refine go_ ?_
   refine ch_x (rd := [0, 82]) rfl rfl (x_stoH ty22 rfl (enc_lt pattern_state.enc_len (getI_at he_7) (o := 257) (by decide) rfl) (List.Mem.head _) (List.Mem.tail _ (List.Mem.head _)) rfl rfl (enc_set pattern_state.enc_len (getI_at he_7) (o := 257) (x' := (pattern_state.mk e_7.next e_7.back l_2)) (by decide) (aC_set_past (i := 1) rfl) rfl)) rfl rfl (fun _ => ⟨_, rfl⟩) ?_
   rintro _ rfl
   refine ch_n fun hU => ?_
   refine awp_region (sys _ _ []) 114 130 hU rfl rfl ?_
   refine go_ ?_
   refine ch_n fun hU => ?_
   obtain rfl := Option.some.inj hg
   exact ⟨((W (x15_1 + 1), setI states_2 ((at_2).toNat) (pattern_state.mk e_7.next e_7.back l_2)), m1), Nat.lt_succ_self _, hn1, sub_ [(0, 0), (1, 106)]⟩
 ·refine awp_exit ?_
  repeat first | refine st_ ?_ | refine sn_ ?_
  replace hg := leave hg hn1
  refine sr_ 10 26 hU ?_
  refine go_ ?_
  refine ch_n fun hU => ?_
  refine aw_r ?_
  obtain rfl := Option.some.inj hg
  exact fin_ [(0, 0), (1, 1)] ⟨rfl, rfl⟩
theorem w_pattern_machine (p : (List api_Pattern)) (r : (List pattern_state)) (hg : g_pattern_machine p = some r) : Fn Try.prog 49 0 [.sl 3 (encL api_Pattern.enc p)] [] (fun d' b' => d' = .sl 258 (encL pattern_state.enc r) ∧ b' = []) := by
 unfold g_pattern_machine at hg
 refine Fn.of Try.func49 rfl rfl rfl fun w0 I ρ0 => ?_
 show awp _ ⟨w0, I, ρ0, 0, 0, 82⟩ _ _ _
 refine sr_ 0 8 mk_U ?_
 refine go_ ?_
 refine ch_n fun hU => ?_
 refine sr_ 8 32 hU ?_
 refine go_ ?_
 obtain ⟨y, hy, hg⟩ := bind_some hg
 refine ch_call (rd := []) (ps := []) (gs := []) false rfl (w_pattern_tree _ _ hy) rfl rfl (.cons .sl .nil) rfl rfl (by intro h; cases h) rfl (by intro h; first | (cases h; done) | exact ⟨_, _, ⟨rfl, rfl⟩, by simp, by simp⟩) ?_
 rintro _ _ ⟨rfl, rfl⟩
 refine go_ ?_
 refine ch_n fun hU => ?_
 refine sr_ 32 48 hU ?_
 refine c0_ rfl rfl (r_buildFull sl100 z85 (by decide) rfl rfl rfl rfl ck85 (cs := [.int .i16 0]) (.cons .int .nil) rfl (l := ([0] : List Int)) (f := (eK .i16)) rfl) rfl rfl ?_
 refine go_ ?_
 refine ch_n fun hU => ?_
 refine awp_seq ?_
 refine awp_block ?_
 refine lp_ (fun ((states_1, queue_1) : List pattern_state × List Int) => mk [(3, .row 0), (4, .row 1)] [(0, .tree 88 258 257 3 1 2 none (encL pattern_state.enc states_1)), (1, .que 85 1 (encL (eK .i16) queue_1)), (2, .gho)] 3) hg (sub_ [(0, 16), (1, 32), (2, 17)]) ?_
 rintro ⟨states_1, queue_1⟩ m1 o1 hg hn1
 replace hg : g_pattern_machine.l1 states_1 queue_1 = some o1 := hg
 show awp _ _ _ _ (mk _ _ _)
 unfold g_pattern_machine.l1 at hg
 refine awp_seq ?_
 refine sr_ 3 27 mk_U ?_
 refine go_ ?_
 refine ch_x (rd := [1]) rfl rfl (x_lenQ sl100 (eK_len _)) rfl rfl (fun _ => ⟨_, rfl⟩) ?_
 rintro _ rfl
 refine go_ ?_
 refine ch_n fun hU => ?_
 refine cg_ rfl hg (fun h5 hg => ?_) fun h5 hg => ?_
 ·refine awp_skip ?_
  repeat first | refine st_ ?_ | refine sn_ ?_
  refine awp_block ?_
  refine sr_ 27 59 hU ?_
  refine go_ ?_
  obtain ⟨e, he, hg⟩ := bind_some hg
  refine ch_x (rd := [1]) rfl rfl (x_idxQ sl100 (eK_len _) (getI_ix he) (getI_at he)) rfl rfl (fun _ => ⟨_, rfl⟩) ?_
  rintro _ rfl
  refine ch_x (rd := [1]) rfl rfl (.loadQ ty85 (enc_cell (eK_len _) (getI_at he) (o := 0) (c := .int .i16 e) rfl rfl)) rfl rfl (fun _ => ⟨_, rfl⟩) ?_
  rintro _ rfl
  refine go_ ?_
  refine ch_n fun hU => ?_
  refine sr_ 59 83 hU ?_
  refine go_ ?_
  obtain ⟨l, hl, hg⟩ := bind_some hg
  refine ch_x (rd := [1]) rfl rfl (x_sliQ sl100 (eK_len _) hl (.head _) rfl) rfl rfl (fun _ => ⟨_, rfl⟩) ?_
  rintro _ rfl
  refine go_ ?_
  refine ch_n fun hU => ?_
  refine sr_ 83 131 hU ?_
  refine go_ ?_
  obtain ⟨e_2, he_2, hg⟩ := bind_some hg
  refine ch_s (rd := [0]) rfl rfl (.idxT sl83 (getI_ix he_2) (enc_le pattern_state.enc_len (getI_at he_2))) rfl rfl ?_
  refine go_ ?_
  refine ch_s (rd := [0]) rfl rfl (.loadT1 ty85 (at_mod (of := 256) (by decide) (by decide) rfl) (enc_cell pattern_state.enc_len (getI_at he_2) (o := 256) (c := .int .i16 e_2.back) (aC_past (i := 0) rfl) rfl)) rfl rfl ?_
  refine go_ ?_
  refine ch_n fun hU => ?_
  refine awp_cut (ι := List pattern_state) (fun (states_2 : List pattern_state) => mk [(3, .row 0), (4, .row 1), (5, .val (.int .i16 e)), (6, .val (.int .i16 e_2.back))] [(0, .tree 88 258 257 3 1 2 none (encL pattern_state.enc states_2)), (1, .que 85 1 (encL (eK .i16) l)), (2, .gho)] 3) (fun (states_2 : List pattern_state) => g_pattern_machine.j2 e l e_2 states_2 = some o1) ?_ ?_
  ·refine awp_seq ?_
   refine awp_region (sys _ _ []) 131 147 hU rfl rfl ?_
   refine go_ ?_
   refine ch_n fun hU => ?_
   refine cg_ rfl hg (fun h10 hg => ?_) fun h10 hg => ?_
   ·refine awp_draw (sys _ _ []) (by kernel_rfl) [0, 0, 0, 0, 12, 28, 60, 0, 0, 384, 896, 1920, 4092, 8191, 16383, 32767] 147 275 hU rfl rfl (by kernel_rfl) ?_
    refine go_ ?_
    refine ch_s (rd := [0]) rfl rfl (.idxT sl83 (getI_ix he_2) (enc_le pattern_state.enc_len (getI_at he_2))) rfl rfl ?_
    refine go_ ?_
    refine ch_s (rd := [0]) rfl rfl (.loadTN ty22 (by decide) rfl no_hole (enc_lt pattern_state.enc_len (getI_at he_2) (o := 257) (by decide) rfl)) rfl rfl ?_
    refine go_ ?_
    obtain ⟨e_3, he_3, hg⟩ := bind_some hg
    refine ch_s (rd := [0]) rfl rfl (.idxT sl83 (getI_ix he_3) (enc_le pattern_state.enc_len (getI_at he_3))) rfl rfl ?_
    refine go_ ?_
    refine ch_s (rd := [0]) rfl rfl (.loadTN ty22 (by decide) rfl no_hole (enc_lt pattern_state.enc_len (getI_at he_3) (o := 257) (by decide) rfl)) rfl rfl ?_
    obtain ⟨l_2, hl_2, hg⟩ := bind_some hg
    refine ch_x (rd := [0, 2, 0, 2]) rfl rfl (x_appN (l := e_2.ends) (l' := e_3.ends) sl22 eI_len (enc_cell pattern_state.enc_len (getI_at he_2) (o := 257) (c := .sl 1 (encL eI e_2.ends)) (aC_past (i := 1) rfl) rfl) rfl (.nst (enc_cell pattern_state.enc_len (getI_at he_3) (o := 257) (c := .sl 1 (encL eI e_3.ends)) (aC_past (i := 1) rfl) rfl) no_hole) rfl hl_2 rfl (List.Mem.head _) rfl) rfl rfl (fun _ => ⟨_, rfl⟩) ?_
    rintro _ rfl
    refine ch_s (rd := [0]) rfl rfl (.idxT sl83 (getI_ix he_2) (enc_le pattern_state.enc_len (getI_at he_2))) rfl rfl ?_
    refine go_ ?_
    refine ch_x (rd := [0, 243]) rfl rfl (x_stoH ty22 rfl (enc_lt pattern_state.enc_len (getI_at he_2) (o := 257) (by decide) rfl) (List.Mem.head _) (List.Mem.tail _ (List.Mem.head _)) rfl rfl (enc_set pattern_state.enc_len (getI_at he_2) (o := 257) (x' := (pattern_state.mk e_2.next e_2.back l_2)) (by decide) (aC_set_past (i := 1) rfl) rfl)) rfl rfl (fun _ => ⟨_, rfl⟩) ?_
    rintro _ rfl
    refine ch_n fun hU => ?_
    exact ⟨setI states_1 ((e).toNat) (pattern_state.mk e_2.next e_2.back l_2), hg, sub_ [(0, 0), (1, 67), (2, 267)]⟩
   ·refine awp_skip ?_
    repeat first | refine st_ ?_ | refine sn_ ?_
    exact ⟨states_1, hg, sub_ [(0, 0), (1, 67), (2, 2)]⟩
  ·rintro states_2 hg
   replace hg : g_pattern_machine.j2 e l e_2 states_2 = some o1 := hg
   show awp _ _ _ _ (mk _ _ _)
   unfold g_pattern_machine.j2 at hg
   refine sr_ 3 11 mk_U ?_
   refine go_ ?_
   refine ch_n fun hU => ?_
   refine awp_block ?_
   refine lp_ (fun ((x43_3, states_3, queue_3) : Int × List pattern_state × List Int) => mk [(3, .row 0), (4, .row 1), (5, .val (.int .i16 e)), (6, .val (.int .i16 e_2.back)), (43, .val (.int .i64 x43_3))] [(0, .tree 88 258 257 3 1 2 none (encL pattern_state.enc states_3)), (1, .que 85 1 (encL (eK .i16) queue_3)), (2, .gho)] 3) hg (sub_ [(0, 0), (1, 1), (2, 2)]) ?_
   rintro ⟨x43_3, states_3, queue_3⟩ m3 o3 hg hn3
   replace hg : g_pattern_machine.l3 e e_2 x43_3 states_3 queue_3 = some o3 := hg
   show awp _ _ _ _ (mk _ _ _)
   unfold g_pattern_machine.l3 at hg
   refine sr_ 3 11 mk_U ?_
   refine go_ ?_
   refine ch_n fun hU => ?_
   refine awp_seq ?_
   refine cg_ rfl hg (fun h14 hg => ?_) fun h14 hg => ?_
   ·refine awp_skip ?_
    repeat first | refine st_ ?_ | refine sn_ ?_
    refine awp_cut (ι := List pattern_state × List Int) (fun ((states_5, queue_5) : List pattern_state × List Int) => mk [(3, .row 0), (4, .row 1), (5, .val (.int .i16 e)), (6, .val (.int .i16 e_2.back)), (43, .val (.int .i64 x43_3))] [(0, .tree 88 258 257 3 1 2 none (encL pattern_state.enc states_5)), (1, .que 85 1 (encL (eK .i16) queue_5)), (2, .gho)] 3) (fun ((states_5, queue_5) : List pattern_state × List Int) => g_pattern_machine.j5 x43_3 states_5 queue_5 = some o3) ?_ ?_
    ·refine awp_block ?_
     refine sr_ 11 27 hU ?_
     refine go_ ?_
     refine ch_n fun hU => ?_
     refine sr_ 27 91 hU ?_
     refine go_ ?_
     obtain ⟨e_4, he_4, hg⟩ := bind_some hg
     refine ch_s (rd := [0]) rfl rfl (.idxT sl83 (getI_ix he_4) (enc_le pattern_state.enc_len (getI_at he_4))) rfl rfl ?_
     refine go_ ?_
     obtain ⟨e_5, he_5, hg⟩ := bind_some hg
     refine ch_s (rd := [0]) rfl rfl (.idxA (j := ((x43_3).toNat)) und86 ty85 (getI_ix he_5) (arrL_lt (getI_at he_5))) rfl rfl ?_
     refine ch_s (rd := [0]) rfl rfl (.loadT1 ty85 (at_modA (getI_at he_5) (by decide) (by decide)) (enc_cellA pattern_state.enc_len (getI_at he_4) rfl (getI_at he_5))) rfl rfl ?_
     refine go_ ?_
     refine ch_n fun hU => ?_
     refine sr_ 91 99 hU ?_
     refine go_ ?_
     refine ch_n fun hU => ?_
     refine awp_cut (ι := Int) (fun (other_4 : Int) => mk [(3, .row 0), (4, .row 1), (5, .val (.int .i16 e)), (6, .val (.int .i16 e_2.back)), (7, .val (.int .i64 x43_3)), (8, .val (.int .i16 e_5)), (9, .val (.int .i16 other_4)), (43, .val (.int .i64 x43_3))] [(0, .tree 88 258 257 3 1 2 none (encL pattern_state.enc states_3)), (1, .que 85 1 (encL (eK .i16) queue_3)), (2, .gho)] 3) (fun (other_4 : Int) => g_pattern_machine.j4 e x43_3 states_3 queue_3 e_4 e_5 other_4 = some o3) ?_ ?_
     ·refine awp_seq ?_
      refine awp_region (sys _ _ []) 99 115 hU rfl rfl ?_
      refine go_ ?_
      refine ch_n fun hU => ?_
      refine cg_ rfl hg (fun h19 hg => ?_) fun h19 hg => ?_
      ·refine awp_region (sys _ _ []) 115 179 hU rfl rfl ?_
       refine go_ ?_
       obtain ⟨e_6, he_6, hg⟩ := bind_some hg
       refine ch_s (rd := [0]) rfl rfl (.idxT sl83 (getI_ix he_6) (enc_le pattern_state.enc_len (getI_at he_6))) rfl rfl ?_
       refine go_ ?_
       obtain ⟨e_7, he_7, hg⟩ := bind_some hg
       refine ch_s (rd := [0]) rfl rfl (.idxA (j := ((x43_3).toNat)) und86 ty85 (getI_ix he_7) (arrL_lt (getI_at he_7))) rfl rfl ?_
       refine ch_s (rd := [0]) rfl rfl (.loadT1 ty85 (at_modA (getI_at he_7) (by decide) (by decide)) (enc_cellA pattern_state.enc_len (getI_at he_6) rfl (getI_at he_7))) rfl rfl ?_
       refine go_ ?_
       refine ch_n fun hU => ?_
       exact ⟨e_7, hg, sub_ [(0, 0), (1, 1), (2, 2)]⟩
      ·refine awp_skip ?_
       repeat first | refine st_ ?_ | refine sn_ ?_
       exact ⟨0, hg, sub_ [(0, 0), (1, 1), (2, 2)]⟩
     ·rintro other_4 hg
      replace hg : g_pattern_machine.j4 e x43_3 states_3 queue_3 e_4 e_5 other_4 = some o3 := hg
      show awp _ _ _ _ (mk _ _ _)
      unfold g_pattern_machine.j4 at hg
      refine awp_seq ?_
      refine sr_ 3 19 mk_U ?_
      refine go_ ?_
      refine ch_n fun hU => ?_
      refine cg_ rfl hg (fun h22 hg => ?_) fun h22 hg => ?_
      ·refine awp_seq ?_
       refine awp_region (sys _ _ []) 19 83 hU rfl rfl ?_
       refine go_ ?_
       refine ch_s (rd := [0]) rfl rfl (.idxT sl83 (getI_ix he_4) (enc_le pattern_state.enc_len (getI_at he_4))) rfl rfl ?_
       refine go_ ?_
       refine ch_s (rd := [0]) rfl rfl (.idxA (j := ((x43_3).toNat)) und86 ty85 (getI_ix he_5) (arrL_lt (getI_at he_5))) rfl rfl ?_
       refine ch_x (rd := [0]) rfl rfl (x_storeTA (y' := (pattern_state.mk (setI (arrL 256 e_4.next) ((x43_3).toNat) other_4) e_4.back e_4.ends)) pattern_state.enc_len ty85 (getI_at he_4) rfl (getI_at he_5) (by decide) (by decide) (List.Mem.head _) rfl) rfl rfl (fun _ => ⟨_, rfl⟩) ?_
       rintro _ rfl
       refine ch_n fun hU => ?_
       refine awp_exit ?_
       repeat first | refine st_ ?_ | refine sn_ ?_
       exact ⟨(setI states_3 ((e).toNat) (pattern_state.mk (setI (arrL 256 e_4.next) ((x43_3).toNat) other_4) e_4.back e_4.ends), queue_3), hg, sub_ [(0, 0), (1, 1), (2, 2)]⟩
      ·refine awp_skip ?_
       repeat first | refine st_ ?_ | refine sn_ ?_
       refine sr_ 19 67 hU ?_
       refine go_ ?_
       obtain ⟨e_8, he_8, hg⟩ := bind_some hg
       refine ch_s (rd := [0]) rfl rfl (.idxT sl83 (getI_ix he_8) (enc_le pattern_state.enc_len (getI_at he_8))) rfl rfl ?_
       refine go_ ?_
       refine ch_x (rd := [0]) rfl rfl (x_storeT ty85 rfl (enc_cells_le pattern_state.enc_len (getI_at he_8) (o := 256) (m := 1) (by decide) rfl) (flat_at (of := 256) (by decide) (by decide) rfl) (ck := [none]) (cs' := [.int .i16 other_4]) (.cons .int .nil) (List.Mem.head _) (enc_splice pattern_state.enc_len (getI_at he_8) (o := 256) (x' := (pattern_state.mk e_8.next other_4 e_8.ends)) (Nat.le_of_ble_eq_true rfl) (aC_splice_past (i := 0) rfl) rfl)) rfl rfl (fun _ => ⟨_, rfl⟩) ?_
       rintro _ rfl
       refine ch_n fun hU => ?_
       refine awp_region (sys _ _ []) 67 107 hU rfl rfl ?_
       refine go_ ?_
       refine c0_ rfl rfl (r_buildFull sl100 z85 (by decide) rfl rfl rfl rfl ck85 (cs := [.int .i16 e_5]) (.cons .int .nil) rfl (l := ([e_5] : List Int)) (f := (eK .i16)) rfl) rfl rfl ?_
       obtain ⟨l_3, hl_3, hg⟩ := bind_some hg
       refine ch_x (rd := [1, 83]) rfl rfl (x_appQ sl100 (eK_len _) .row rfl hl_3 rfl (List.Mem.head _) rfl) rfl rfl (fun _ => ⟨_, rfl⟩) ?_
       rintro _ rfl
       refine go_ ?_
       refine ch_n fun hU => ?_
       exact ⟨(setI states_3 ((e_5).toNat) (pattern_state.mk e_8.next other_4 e_8.ends), l_3), hg, sub_ [(0, 0), (1, 91), (2, 2)]⟩
    ·rintro ⟨states_5, queue_5⟩ hg
     replace hg : g_pattern_machine.j5 x43_3 states_5 queue_5 = some o3 := hg
     show awp _ _ _ _ (mk _ _ _)
     unfold g_pattern_machine.j5 at hg
     refine awp_region (sys _ _ []) 3 19 mk_U rfl rfl ?_
     refine go_ ?_
     refine ch_n fun hU => ?_
     obtain rfl := Option.some.inj hg
     exact ⟨((W (x43_3 + 1), states_5, queue_5), m3), Nat.lt_succ_self _, hn3, sub_ [(0, 0), (1, 1), (2, 2)]⟩
   ·refine awp_exit ?_
    repeat first | refine st_ ?_ | refine sn_ ?_
    replace hg := leave hg hn3
    obtain rfl := Option.some.inj hg
    exact ⟨((states_3, queue_3), m1), Nat.lt_succ_self _, hn1, sub_ [(0, 0), (1, 1), (2, 2)]⟩
 ·refine awp_exit ?_
  repeat first | refine st_ ?_ | refine sn_ ?_
  replace hg := leave hg hn1
  refine sr_ 27 43 hU ?_
  refine go_ ?_
  refine ch_n fun hU => ?_
  refine aw_r ?_
  obtain rfl := Option.some.inj hg
  exact fin_ [] ⟨rfl, rfl⟩
theorem w_pattern_Find_c1 (h' : api_Hit) (c0 : (List api_Hit)) (r : Bool × (List api_Hit)) (hg : g_pattern_Find_c1 h' c0 = some r) : Fn Try.prog 32 1 [.agg [.val (.int .i64 h'.Pattern), .val (.int .i64 h'.At)], .ptr 0 0] [.box [.row 1] 31, .row 47 2 (encL api_Hit.enc c0)] (fun d' b' => d' = .val (.bool r.1) ∧ b' = [.box [.row 1] 31, .row 47 2 (encL api_Hit.enc r.2)]) := by
 unfold g_pattern_Find_c1 at hg
 refine Fn.of Try.func32 rfl rfl rfl fun w0 I ρ0 => ?_
 show awp _ ⟨w0, I, ρ0, 1, 2, 11⟩ _ _ _
 refine sr_ 2 18 mk_U ?_
 refine go_ ?_
 refine ch_n fun hU => ?_
 refine sr_ 18 58 hU ?_
 refine go_ ?_
 refine c0_ rfl rfl (r_buildFull sl31 z47 (by decide) rfl rfl rfl rfl ck47 (cs := [.int .i64 h'.Pattern, .int .i64 h'.At]) (.cons .int (.cons .int .nil)) rfl (l := ([h'] : List api_Hit)) (f := api_Hit.enc) rfl) rfl rfl ?_
 obtain ⟨l, hl, hg⟩ := bind_some hg
 refine ch_s (rd := [1, 34]) rfl rfl (r_append sl31 api_Hit.enc_len .row rfl .row rfl hl rfl) rfl rfl ?_
 refine go_ ?_
 refine ch_n fun hU => ?_
 refine sr_ 58 90 hU ?_
 refine go_ ?_
 refine ch_n fun hU => ?_
 refine aw_r ?_
 obtain rfl := Option.some.inj hg
 exact fin_ [(0, 0), (1, 42)] ⟨rfl, rfl⟩
theorem w_pattern_hits_List_api_Hit_clo_32_0_boxw_31 (p : (List api_Pattern)) (b : (List UInt8)) (yield : api_Hit → (List api_Hit) → Option (Bool × (List api_Hit))) (yield_b0 : (List api_Hit)) (hf_yield : ∀ (x0 : api_Hit) (b0 : (List api_Hit)) (y : Bool × (List api_Hit)), yield x0 b0 = some y → Fn Try.prog 32 1 [.agg [.val (.int .i64 x0.Pattern), .val (.int .i64 x0.At)], .ptr 0 0] [.box [.row 1] 31, .row 47 2 (encL api_Hit.enc b0)] (fun d' b' => d' = .val (.bool y.1) ∧ b' = [.box [.row 1] 31, .row 47 2 (encL api_Hit.enc y.2)])) (r : (List api_Hit)) (hg : g_pattern_hits_List_api_Hit p b yield yield_b0 = some r) : Fn Try.prog 31 1 [.sl 3 (encL api_Pattern.enc p), .sl 1 (encL e8 b), .clo 32 0 [.ptr 0 0]] [.box [.row 1] 31, .row 47 2 (encL api_Hit.enc yield_b0)] (fun d' b' => d' = .tup [] ∧ b' = [.box [.row 1] 31, .row 47 2 (encL api_Hit.enc r)]) := by
 unfold g_pattern_hits_List_api_Hit at hg
 refine Fn.of Try.func31 rfl rfl rfl fun w0 I ρ0 => ?_
 show awp _ ⟨w0, I, ρ0, 1, 2, 54⟩ _ _ _
 refine sr_ 2 26 mk_U ?_
 refine go_ ?_
 obtain ⟨y, hy, hg⟩ := bind_some hg
 refine ca_ (w_pattern_machine _ _ hy) ?_
 refine go_ ?_
 refine ch_n fun hU => ?_
 refine sr_ 26 34 hU ?_
 refine go_ ?_
 refine ch_n fun hU => ?_
 refine sr_ 34 58 hU ?_
 refine go_ ?_
 refine ch_n fun hU => ?_
 refine awp_block ?_
 refine lp_ (fun ((at_1, x16_1, l_1) : Int × Int × List api_Hit) => mk [(0, .sl 3 (encL api_Pattern.enc p)), (2, .clo 32 0 [.ptr 0 0]), (6, .sl 258 (encL pattern_state.enc y)), (7, .val (.int .i16 at_1)), (14, .sl 1 (encL e8 b)), (15, .val (.int .i64 (b.length : Int))), (16, .val (.int .i64 x16_1))] [(0, .box [.row 1] 31), (1, .row 47 2 (encL api_Hit.enc l_1))] 2) hg (sub_ [(0, 0), (1, 1)]) ?_
 rintro ⟨at_1, x16_1, l_1⟩ m1 o1 hg hn1
 replace hg : g_pattern_hits_List_api_Hit.l1 p b yield y at_1 x16_1 l_1 = some o1 := hg
 show awp _ _ _ _ (mk _ _ _)
 unfold g_pattern_hits_List_api_Hit.l1 at hg
 refine sr_ 2 10 mk_U ?_
 refine go_ ?_
 refine ch_n fun hU => ?_
 refine awp_seq ?_
 refine cg_ rfl hg (fun h5 hg => ?_) fun h5 hg => ?_
 ·refine awp_skip ?_
  repeat first | refine st_ ?_ | refine sn_ ?_
  refine awp_seq ?_
  refine awp_block ?_
  refine sr_ 10 50 hU ?_
  refine go_ ?_
  obtain ⟨e, he, hg⟩ := bind_some hg
  refine go_ ?_
  refine c0_ rfl rfl (r_loadE1 ty5 (enc_cell e8_len (getI_at he) (o := 0) (c := .int .u8 (e.toNat : Int)) rfl rfl)) rfl rfl ?_
  refine go_ ?_
  refine ch_n fun hU => ?_
  refine sr_ 50 114 hU ?_
  refine go_ ?_
  obtain ⟨e_2, he_2, hg⟩ := bind_some hg
  refine go_ ?_
  refine c0_ rfl rfl (r_fieldE fd88_0 ty86 (by decide) (enc_lt pattern_state.enc_len (getI_at he_2) (o := 0) (by decide) rfl)) rfl rfl ?_
  obtain ⟨e_3, he_3, hg⟩ := bind_some hg
  refine ch_x (rd := []) rfl rfl (.idxA (j := (((e.toNat : Int)).toNat)) und86 ty85 (getI_ix he_3) (arrL_lt (getI_at he_3))) rfl rfl (fun _ => ⟨_, rfl⟩) ?_
  rintro _ rfl
  refine c0_ rfl rfl (r_loadE1 ty85 (enc_cellE pattern_state.enc_len (getI_at he_2) rfl (getI_at he_3))) rfl rfl ?_
  refine go_ ?_
  refine ch_n fun hU => ?_
  refine sr_ 114 170 hU ?_
  refine go_ ?_
  obtain ⟨e_4, he_4, hg⟩ := bind_some hg
  refine go_ ?_
  refine c0_ rfl rfl (r_fieldE fd88_2 ty22 (by decide) (enc_lt pattern_state.enc_len (getI_at he_4) (o := 257) (by decide) rfl)) rfl rfl ?_
  refine c0_ rfl rfl (r_loadE1 ty22 (enc_cell pattern_state.enc_len (getI_at he_4) (o := 257) (c := .sl 1 (encL eI e_4.ends)) (aC_past (i := 1) rfl) rfl)) rfl rfl ?_
  refine go_ ?_
  refine ch_n fun hU => ?_
  refine awp_block ?_
  refine lp_ (fun ((x34_2, l_2) : Int × List api_Hit) => mk [(0, .sl 3 (encL api_Pattern.enc p)), (2, .clo 32 0 [.ptr 0 0]), (6, .sl 258 (encL pattern_state.enc y)), (7, .val (.int .i16 e_3)), (8, .val (.int .i64 x16_1)), (14, .sl 1 (encL e8 b)), (15, .val (.int .i64 (b.length : Int))), (16, .val (.int .i64 x16_1)), (32, .sl 1 (encL eI e_4.ends)), (33, .val (.int .i64 (e_4.ends.length : Int))), (34, .val (.int .i64 x34_2))] [(0, .box [.row 1] 31), (1, .row 47 2 (encL api_Hit.enc l_2))] 2) hg (sub_ [(0, 0), (1, 1)]) ?_
  rintro ⟨x34_2, l_2⟩ m2 o2 hg hn2
  replace hg : g_pattern_hits_List_api_Hit.l2 p yield x16_1 e_3 e_4 x34_2 l_2 = some o2 := hg
  show awp _ _ _ _ (mk _ _ _)
  unfold g_pattern_hits_List_api_Hit.l2 at hg
  refine sr_ 2 10 mk_U ?_
  refine go_ ?_
  refine ch_n fun hU => ?_
  refine awp_seq ?_
  refine cg_ rfl hg (fun h10 hg => ?_) fun h10 hg => ?_
  ·refine awp_skip ?_
   repeat first | refine st_ ?_ | refine sn_ ?_
   refine awp_seq ?_
   refine awp_block ?_
   refine sr_ 10 34 hU ?_
   obtain ⟨e_5, he_5, hg⟩ := bind_some hg
   refine go_ ?_
   refine c0_ rfl rfl (r_loadE1 ty3 (enc_cell eI_len (getI_at he_5) (o := 0) (c := .int .i64 e_5) rfl rfl)) rfl rfl ?_
   refine go_ ?_
   refine ch_n fun hU => ?_
   refine sr_ 34 146 hU ?_
   refine go_ ?_
   obtain ⟨e_6, he_6, hg⟩ := bind_some hg
   refine go_ ?_
   refine c0_ rfl rfl (r_fieldE fd45_1 ty27 (by decide) (enc_lt api_Pattern.enc_len (getI_at he_6) (o := 2) (by decide) rfl)) rfl rfl ?_
   refine c0_ rfl rfl (r_loadE1 ty27 (enc_cell api_Pattern.enc_len (getI_at he_6) (o := 2) (c := .sl 1 (encL e8 e_6.Bytes)) rfl rfl)) rfl rfl ?_
   refine go_ ?_
   refine c0_ rfl rfl (.build (r := [.val (.int .i64 e_5), .val (.int .i64 (W ((W (x16_1 + 1)) - (e_6.Bytes.length : Int))))]) und47 pl47 z47 (by kernel_rfl) rfl) rfl rfl ?_
   obtain ⟨y_2, hy_2, hg⟩ := bind_some hg
   refine ch_callC (rd := [0, 1]) (ps := [0]) (gs := [1]) false rfl rfl (hf_yield (api_Hit.mk e_5 (W ((W (x16_1 + 1)) - (e_6.Bytes.length : Int)))) l_2 _ hy_2) rfl rfl (.cons (.agg (.cons .val (.cons .val .nil))) (.cons (.ptr rfl) .nil)) ⟨_, _, _, rfl, .head _, ⟨_, rfl, (by repeat' (first | exact AgL.nil | apply AgL.cons | exact Ag.val | exact Ag.sl | exact Ag.nils | exact Ag.ptr rfl | exact Ag.rowK rfl))⟩, ⟨_, _, _, rfl, .tail _ (.head _), rfl, rfl⟩⟩ rfl (by intro h; cases h) rfl (by intro h; first | (cases h; done) | exact ⟨_, _, ⟨rfl, rfl⟩, by simp, by simp⟩) ?_
   rintro _ _ ⟨rfl, rfl⟩
   refine go_ ?_
   refine ch_n fun hU => ?_
   refine cg_ rfl hg (fun h13 hg => ?_) fun h13 hg => ?_
   ·refine awp_ret ?_
    repeat first | refine st_ ?_ | refine sn_ ?_
    replace hg := leave hg hn2
    replace hg := leave hg hn1
    obtain rfl := Option.some.inj hg
    exact fin_ [(0, 0), (1, 130)] ⟨rfl, rfl⟩
   ·refine awp_skip ?_
    repeat first | refine st_ ?_ | refine sn_ ?_
    refine awp_region (sys _ _ []) 146 162 hU rfl rfl ?_
    refine go_ ?_
    refine ch_n fun hU => ?_
    obtain rfl := Option.some.inj hg
    exact ⟨((W (x34_2 + 1), y_2.2), m2), Nat.lt_succ_self _, hn2, sub_ [(0, 0), (1, 130)]⟩
  ·refine awp_exit ?_
   repeat first | refine st_ ?_ | refine sn_ ?_
   replace hg := leave hg hn2
   refine awp_region (sys _ _ []) 10 26 hU rfl rfl ?_
   refine go_ ?_
   refine ch_n fun hU => ?_
   obtain rfl := Option.some.inj hg
   exact ⟨((e_3, W (x16_1 + 1), l_2), m1), Nat.lt_succ_self _, hn1, sub_ [(0, 0), (1, 1)]⟩
 ·refine awp_exit ?_
  repeat first | refine st_ ?_ | refine sn_ ?_
  replace hg := leave hg hn1
  obtain rfl := Option.some.inj hg
  exact fin_ [(0, 0), (1, 1)] ⟨rfl, rfl⟩
end Go.Proofs.Ytfkgbfhpibiheaa
