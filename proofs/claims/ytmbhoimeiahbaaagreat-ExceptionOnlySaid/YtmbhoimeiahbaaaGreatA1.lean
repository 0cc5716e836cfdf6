/- The program computes the plain functions. -/
import Derived.Test.YtmbhoimeiahbaaaGreatT1
set_option linter.unusedVariables false
set_option linter.unusedSimpArgs false
set_option maxRecDepth 100000
set_option maxHeartbeats 1600000
namespace Go.Proofs.YtmbhoimeiahbaaaGreat
open Go.RowKit
theorem w_make_Light (l : (List Int)) (r : Bool) (hg : g_make_Light l = some r) : Fn Tryz.prog 5 0 [.sl 1 (encL eI l)] [] (fun d' b' => d' = .val (.bool r) ∧ b' = []) := by
 unfold g_make_Light at hg
 refine Fn.of Tryz.func5 rfl rfl rfl fun w0 I ρ0 => ?_
 show awp _ ⟨w0, I, ρ0, 0, 0, 6, none⟩ _ _ _
 refine sr_ 0 8 mk_U ?_
 refine go_ ?_
 refine ch_n fun hU => ?_
 refine sr_ 8 40 hU ?_
 refine go_ ?_
 refine ch_n fun hU => ?_
 refine aw_r ?_
 obtain rfl := Option.some.inj hg
 exact fin_ [] ⟨rfl, rfl⟩
theorem w_catalog_rows  (r : (List catalog_row)) (hg : g_catalog_rows = some r) : Fn Tryz.prog 126 0 [] [] (fun d' b' => d' = .agg [.val (.string ((r[0]!).name)), .val (.int .i64 ((r[0]!).kind)), .val (.int .i64 ((r[0]!).way)), .sl 1 (encL eI ((r[0]!).sizes)), .sl 1 (encL eI ((r[0]!).strengths)), .val (.string ((r[1]!).name)), .val (.int .i64 ((r[1]!).kind)), .val (.int .i64 ((r[1]!).way)), .sl 1 (encL eI ((r[1]!).sizes)), .sl 1 (encL eI ((r[1]!).strengths)), .val (.string ((r[2]!).name)), .val (.int .i64 ((r[2]!).kind)), .val (.int .i64 ((r[2]!).way)), .sl 1 (encL eI ((r[2]!).sizes)), .sl 1 (encL eI ((r[2]!).strengths)), .val (.string ((r[3]!).name)), .val (.int .i64 ((r[3]!).kind)), .val (.int .i64 ((r[3]!).way)), .sl 1 (encL eI ((r[3]!).sizes)), .sl 1 (encL eI ((r[3]!).strengths)), .val (.string ((r[4]!).name)), .val (.int .i64 ((r[4]!).kind)), .val (.int .i64 ((r[4]!).way)), .sl 1 (encL eI ((r[4]!).sizes)), .sl 1 (encL eI ((r[4]!).strengths)), .val (.string ((r[5]!).name)), .val (.int .i64 ((r[5]!).kind)), .val (.int .i64 ((r[5]!).way)), .sl 1 (encL eI ((r[5]!).sizes)), .sl 1 (encL eI ((r[5]!).strengths)), .val (.string ((r[6]!).name)), .val (.int .i64 ((r[6]!).kind)), .val (.int .i64 ((r[6]!).way)), .sl 1 (encL eI ((r[6]!).sizes)), .sl 1 (encL eI ((r[6]!).strengths)), .val (.string ((r[7]!).name)), .val (.int .i64 ((r[7]!).kind)), .val (.int .i64 ((r[7]!).way)), .sl 1 (encL eI ((r[7]!).sizes)), .sl 1 (encL eI ((r[7]!).strengths)), .val (.string ((r[8]!).name)), .val (.int .i64 ((r[8]!).kind)), .val (.int .i64 ((r[8]!).way)), .sl 1 (encL eI ((r[8]!).sizes)), .sl 1 (encL eI ((r[8]!).strengths)), .val (.string ((r[9]!).name)), .val (.int .i64 ((r[9]!).kind)), .val (.int .i64 ((r[9]!).way)), .sl 1 (encL eI ((r[9]!).sizes)), .sl 1 (encL eI ((r[9]!).strengths)), .val (.string ((r[10]!).name)), .val (.int .i64 ((r[10]!).kind)), .val (.int .i64 ((r[10]!).way)), .sl 1 (encL eI ((r[10]!).sizes)), .sl 1 (encL eI ((r[10]!).strengths)), .val (.string ((r[11]!).name)), .val (.int .i64 ((r[11]!).kind)), .val (.int .i64 ((r[11]!).way)), .sl 1 (encL eI ((r[11]!).sizes)), .sl 1 (encL eI ((r[11]!).strengths)), .val (.string ((r[12]!).name)), .val (.int .i64 ((r[12]!).kind)), .val (.int .i64 ((r[12]!).way)), .sl 1 (encL eI ((r[12]!).sizes)), .sl 1 (encL eI ((r[12]!).strengths)), .val (.string ((r[13]!).name)), .val (.int .i64 ((r[13]!).kind)), .val (.int .i64 ((r[13]!).way)), .sl 1 (encL eI ((r[13]!).sizes)), .sl 1 (encL eI ((r[13]!).strengths)), .val (.string ((r[14]!).name)), .val (.int .i64 ((r[14]!).kind)), .val (.int .i64 ((r[14]!).way)), .sl 1 (encL eI ((r[14]!).sizes)), .sl 1 (encL eI ((r[14]!).strengths)), .val (.string ((r[15]!).name)), .val (.int .i64 ((r[15]!).kind)), .val (.int .i64 ((r[15]!).way)), .sl 1 (encL eI ((r[15]!).sizes)), .sl 1 (encL eI ((r[15]!).strengths)), .val (.string ((r[16]!).name)), .val (.int .i64 ((r[16]!).kind)), .val (.int .i64 ((r[16]!).way)), .sl 1 (encL eI ((r[16]!).sizes)), .sl 1 (encL eI ((r[16]!).strengths)), .val (.string ((r[17]!).name)), .val (.int .i64 ((r[17]!).kind)), .val (.int .i64 ((r[17]!).way)), .sl 1 (encL eI ((r[17]!).sizes)), .sl 1 (encL eI ((r[17]!).strengths)), .val (.string ((r[18]!).name)), .val (.int .i64 ((r[18]!).kind)), .val (.int .i64 ((r[18]!).way)), .sl 1 (encL eI ((r[18]!).sizes)), .sl 1 (encL eI ((r[18]!).strengths)), .val (.string ((r[19]!).name)), .val (.int .i64 ((r[19]!).kind)), .val (.int .i64 ((r[19]!).way)), .sl 1 (encL eI ((r[19]!).sizes)), .sl 1 (encL eI ((r[19]!).strengths)), .val (.string ((r[20]!).name)), .val (.int .i64 ((r[20]!).kind)), .val (.int .i64 ((r[20]!).way)), .sl 1 (encL eI ((r[20]!).sizes)), .sl 1 (encL eI ((r[20]!).strengths)), .val (.string ((r[21]!).name)), .val (.int .i64 ((r[21]!).kind)), .val (.int .i64 ((r[21]!).way)), .sl 1 (encL eI ((r[21]!).sizes)), .sl 1 (encL eI ((r[21]!).strengths)), .val (.string ((r[22]!).name)), .val (.int .i64 ((r[22]!).kind)), .val (.int .i64 ((r[22]!).way)), .sl 1 (encL eI ((r[22]!).sizes)), .sl 1 (encL eI ((r[22]!).strengths))] ∧ b' = []) := by
 unfold g_catalog_rows at hg
 refine Fn.of Tryz.func126 rfl rfl rfl fun w0 I ρ0 => ?_
 show awp _ ⟨w0, I, ρ0, 0, 0, 46, none⟩ _ _ _
 refine sr_ 0 8 mk_U ?_
 refine go_ ?_
 refine ch_n fun hU => ?_
 refine sr_ 8 376 hU ?_
 refine c0_ rfl rfl (r_buildFull sl22 z3 (by decide) rfl rfl rfl rfl ck3 (cs := [.int .i64 18]) (.cons .int .nil) rfl (l := ([18] : List Int)) (f := eI) rfl) rfl rfl ?_
 refine c0_ rfl rfl (.build (r := [.val (.string (⟨#[109, 100, 53]⟩ : ByteArray)), .val (.int .i64 1), .val (.int .i64 0), .val (.slice none 0 0), .row 8]) und140 pl140 z140 (by kernel_rfl) rfl) rfl rfl ?_
 refine c0_ rfl rfl (r_buildFull sl22 z3 (by decide) rfl rfl rfl rfl ck3 (cs := [.int .i64 60]) (.cons .int .nil) rfl (l := ([60] : List Int)) (f := eI) rfl) rfl rfl ?_
 refine c0_ rfl rfl (.build (r := [.val (.string (⟨#[115, 104, 97, 49]⟩ : ByteArray)), .val (.int .i64 1), .val (.int .i64 0), .val (.slice none 0 0), .row 24]) und140 pl140 z140 (by kernel_rfl) rfl) rfl rfl ?_
 refine c0_ rfl rfl (r_buildFull sl22 z3 (by decide) rfl rfl rfl rfl ck3 (cs := [.int .i64 128]) (.cons .int .nil) rfl (l := ([128] : List Int)) (f := eI) rfl) rfl rfl ?_
 refine c0_ rfl rfl (.build (r := [.val (.string (⟨#[115, 104, 97, 50, 53, 54]⟩ : ByteArray)), .val (.int .i64 1), .val (.int .i64 0), .val (.slice none 0 0), .row 40]) und140 pl140 z140 (by kernel_rfl) rfl) rfl rfl ?_
 refine c0_ rfl rfl (r_buildFull sl22 z3 (by decide) rfl rfl rfl rfl ck3 (cs := [.int .i64 192]) (.cons .int .nil) rfl (l := ([192] : List Int)) (f := eI) rfl) rfl rfl ?_
 refine c0_ rfl rfl (.build (r := [.val (.string (⟨#[115, 104, 97, 51, 56, 52]⟩ : ByteArray)), .val (.int .i64 1), .val (.int .i64 0), .val (.slice none 0 0), .row 56]) und140 pl140 z140 (by kernel_rfl) rfl) rfl rfl ?_
 refine c0_ rfl rfl (.build (r := [.val (.string (⟨#[114, 115, 97]⟩ : ByteArray)), .val (.int .i64 2), .val (.int .i64 1), .val (.slice none 0 0), .val (.slice none 0 0)]) und140 pl140 z140 (by kernel_rfl) rfl) rfl rfl ?_
 refine c0_ rfl rfl (.build (r := [.val (.string (⟨#[100, 115, 97]⟩ : ByteArray)), .val (.int .i64 2), .val (.int .i64 1), .val (.slice none 0 0), .val (.slice none 0 0)]) und140 pl140 z140 (by kernel_rfl) rfl) rfl rfl ?_
 refine c0_ rfl rfl (.build (r := [.val (.string (⟨#[101, 99, 100, 115, 97]⟩ : ByteArray)), .val (.int .i64 2), .val (.int .i64 2), .val (.slice none 0 0), .val (.slice none 0 0)]) und140 pl140 z140 (by kernel_rfl) rfl) rfl rfl ?_
 refine c0_ rfl rfl (r_buildFull sl22 z3 (by decide) rfl rfl rfl rfl ck3 (cs := [.int .i64 128]) (.cons .int .nil) rfl (l := ([128] : List Int)) (f := eI) rfl) rfl rfl ?_
 refine c0_ rfl rfl (.build (r := [.val (.string (⟨#[101, 100, 50, 53, 53, 49, 57]⟩ : ByteArray)), .val (.int .i64 2), .val (.int .i64 0), .val (.slice none 0 0), .row 96]) und140 pl140 z140 (by kernel_rfl) rfl) rfl rfl ?_
 refine c0_ rfl rfl (r_buildFull sl22 z3 (by decide) rfl rfl rfl rfl ck3 (cs := [.int .i64 44, .int .i64 65, .int .i64 87]) (.cons .int (.cons .int (.cons .int .nil))) rfl (l := ([44, 65, 87] : List Int)) (f := eI) rfl) rfl rfl ?_
 refine c0_ rfl rfl (r_buildFull sl22 z3 (by decide) rfl rfl rfl rfl ck3 (cs := [.int .i64 128, .int .i64 192, .int .i64 256]) (.cons .int (.cons .int (.cons .int .nil))) rfl (l := ([128, 192, 256] : List Int)) (f := eI) rfl) rfl rfl ?_
 refine c0_ rfl rfl (.build (r := [.val (.string (⟨#[109, 108, 100, 115, 97]⟩ : ByteArray)), .val (.int .i64 2), .val (.int .i64 3), .row 112, .row 120]) und140 pl140 z140 (by kernel_rfl) rfl) rfl rfl ?_
 refine c0_ rfl rfl (.build (r := [.val (.string (⟨#[114, 115, 97, 107, 120]⟩ : ByteArray)), .val (.int .i64 3), .val (.int .i64 1), .val (.slice none 0 0), .val (.slice none 0 0)]) und140 pl140 z140 (by kernel_rfl) rfl) rfl rfl ?_
 refine c0_ rfl rfl (.build (r := [.val (.string (⟨#[100, 104, 101]⟩ : ByteArray)), .val (.int .i64 3), .val (.int .i64 1), .val (.slice none 0 0), .val (.slice none 0 0)]) und140 pl140 z140 (by kernel_rfl) rfl) rfl rfl ?_
 refine c0_ rfl rfl (.build (r := [.val (.string (⟨#[101, 99, 100, 104, 101]⟩ : ByteArray)), .val (.int .i64 3), .val (.int .i64 2), .val (.slice none 0 0), .val (.slice none 0 0)]) und140 pl140 z140 (by kernel_rfl) rfl) rfl rfl ?_
 refine c0_ rfl rfl (r_buildFull sl22 z3 (by decide) rfl rfl rfl rfl ck3 (cs := [.int .i64 512, .int .i64 768, .int .i64 1024]) (.cons .int (.cons .int (.cons .int .nil))) rfl (l := ([512, 768, 1024] : List Int)) (f := eI) rfl) rfl rfl ?_
 refine c0_ rfl rfl (r_buildFull sl22 z3 (by decide) rfl rfl rfl rfl ck3 (cs := [.int .i64 128, .int .i64 192, .int .i64 256]) (.cons .int (.cons .int (.cons .int .nil))) rfl (l := ([128, 192, 256] : List Int)) (f := eI) rfl) rfl rfl ?_
 refine c0_ rfl rfl (.build (r := [.val (.string (⟨#[109, 108, 107, 101, 109]⟩ : ByteArray)), .val (.int .i64 3), .val (.int .i64 3), .row 160, .row 168]) und140 pl140 z140 (by kernel_rfl) rfl) rfl rfl ?_
 refine c0_ rfl rfl (r_buildFull sl22 z3 (by decide) rfl rfl rfl rfl ck3 (cs := [.int .i64 40, .int .i64 128]) (.cons .int (.cons .int .nil)) rfl (l := ([40, 128] : List Int)) (f := eI) rfl) rfl rfl ?_
 refine c0_ rfl rfl (r_buildFull sl22 z3 (by decide) rfl rfl rfl rfl ck3 (cs := [.int .i64 40, .int .i64 60]) (.cons .int (.cons .int .nil)) rfl (l := ([40, 60] : List Int)) (f := eI) rfl) rfl rfl ?_
 refine c0_ rfl rfl (.build (r := [.val (.string (⟨#[114, 99, 52]⟩ : ByteArray)), .val (.int .i64 4), .val (.int .i64 3), .row 184, .row 192]) und140 pl140 z140 (by kernel_rfl) rfl) rfl rfl ?_
 refine c0_ rfl rfl (r_buildFull sl22 z3 (by decide) rfl rfl rfl rfl ck3 (cs := [.int .i64 112, .int .i64 168]) (.cons .int (.cons .int .nil)) rfl (l := ([112, 168] : List Int)) (f := eI) rfl) rfl rfl ?_
 refine c0_ rfl rfl (r_buildFull sl22 z3 (by decide) rfl rfl rfl rfl ck3 (cs := [.int .i64 80, .int .i64 112]) (.cons .int (.cons .int .nil)) rfl (l := ([80, 112] : List Int)) (f := eI) rfl) rfl rfl ?_
 refine c0_ rfl rfl (.build (r := [.val (.string (⟨#[100, 101, 115, 51]⟩ : ByteArray)), .val (.int .i64 4), .val (.int .i64 3), .row 208, .row 216]) und140 pl140 z140 (by kernel_rfl) rfl) rfl rfl ?_
 refine c0_ rfl rfl (r_buildFull sl22 z3 (by decide) rfl rfl rfl rfl ck3 (cs := [.int .i64 128, .int .i64 256]) (.cons .int (.cons .int .nil)) rfl (l := ([128, 256] : List Int)) (f := eI) rfl) rfl rfl ?_
 refine c0_ rfl rfl (r_buildFull sl22 z3 (by decide) rfl rfl rfl rfl ck3 (cs := [.int .i64 128, .int .i64 256]) (.cons .int (.cons .int .nil)) rfl (l := ([128, 256] : List Int)) (f := eI) rfl) rfl rfl ?_
 refine c0_ rfl rfl (.build (r := [.val (.string (⟨#[97, 101, 115, 99, 98, 99]⟩ : ByteArray)), .val (.int .i64 4), .val (.int .i64 3), .row 232, .row 240]) und140 pl140 z140 (by kernel_rfl) rfl) rfl rfl ?_
 refine c0_ rfl rfl (r_buildFull sl22 z3 (by decide) rfl rfl rfl rfl ck3 (cs := [.int .i64 128, .int .i64 256]) (.cons .int (.cons .int .nil)) rfl (l := ([128, 256] : List Int)) (f := eI) rfl) rfl rfl ?_
 refine c0_ rfl rfl (r_buildFull sl22 z3 (by decide) rfl rfl rfl rfl ck3 (cs := [.int .i64 128, .int .i64 256]) (.cons .int (.cons .int .nil)) rfl (l := ([128, 256] : List Int)) (f := eI) rfl) rfl rfl ?_
 refine c0_ rfl rfl (.build (r := [.val (.string (⟨#[97, 101, 115, 103, 99, 109]⟩ : ByteArray)), .val (.int .i64 4), .val (.int .i64 3), .row 256, .row 264]) und140 pl140 z140 (by kernel_rfl) rfl) rfl rfl ?_
 refine c0_ rfl rfl (r_buildFull sl22 z3 (by decide) rfl rfl rfl rfl ck3 (cs := [.int .i64 256]) (.cons .int .nil) rfl (l := ([256] : List Int)) (f := eI) rfl) rfl rfl ?_
 refine c0_ rfl rfl (.build (r := [.val (.string (⟨#[99, 104, 97, 99, 104, 97]⟩ : ByteArray)), .val (.int .i64 4), .val (.int .i64 0), .val (.slice none 0 0), .row 280]) und140 pl140 z140 (by kernel_rfl) rfl) rfl rfl ?_
 refine c0_ rfl rfl (r_buildFull sl22 z3 (by decide) rfl rfl rfl rfl ck3 (cs := [.int .i64 64]) (.cons .int .nil) rfl (l := ([64] : List Int)) (f := eI) rfl) rfl rfl ?_
 refine c0_ rfl rfl (.build (r := [.val (.string (⟨#[104, 109, 97, 99, 109, 100, 53]⟩ : ByteArray)), .val (.int .i64 5), .val (.int .i64 0), .val (.slice none 0 0), .row 296]) und140 pl140 z140 (by kernel_rfl) rfl) rfl rfl ?_
 refine c0_ rfl rfl (r_buildFull sl22 z3 (by decide) rfl rfl rfl rfl ck3 (cs := [.int .i64 80]) (.cons .int .nil) rfl (l := ([80] : List Int)) (f := eI) rfl) rfl rfl ?_
 refine c0_ rfl rfl (.build (r := [.val (.string (⟨#[104, 109, 97, 99, 115, 104, 97, 49]⟩ : ByteArray)), .val (.int .i64 5), .val (.int .i64 0), .val (.slice none 0 0), .row 312]) und140 pl140 z140 (by kernel_rfl) rfl) rfl rfl ?_
 refine c0_ rfl rfl (r_buildFull sl22 z3 (by decide) rfl rfl rfl rfl ck3 (cs := [.int .i64 128]) (.cons .int .nil) rfl (l := ([128] : List Int)) (f := eI) rfl) rfl rfl ?_
 refine c0_ rfl rfl (.build (r := [.val (.string (⟨#[104, 109, 97, 99, 115, 104, 97, 50, 53, 54]⟩ : ByteArray)), .val (.int .i64 5), .val (.int .i64 0), .val (.slice none 0 0), .row 328]) und140 pl140 z140 (by kernel_rfl) rfl) rfl rfl ?_
 refine c0_ rfl rfl (r_buildFull sl22 z3 (by decide) rfl rfl rfl rfl ck3 (cs := [.int .i64 256]) (.cons .int .nil) rfl (l := ([256] : List Int)) (f := eI) rfl) rfl rfl ?_
 refine c0_ rfl rfl (.build (r := [.val (.string (⟨#[97, 101, 97, 100]⟩ : ByteArray)), .val (.int .i64 5), .val (.int .i64 0), .val (.slice none 0 0), .row 344]) und140 pl140 z140 (by kernel_rfl) rfl) rfl rfl ?_
 refine c0_ rfl rfl (.buildArr (sz := 5) (r := [.val (.string (⟨#[]⟩ : ByteArray)), .val (.int .i64 0), .val (.int .i64 0), .val (.slice none 0 0), .val (.slice none 0 0), .val (.string (⟨#[109, 100, 53]⟩ : ByteArray)), .val (.int .i64 1), .val (.int .i64 0), .val (.slice none 0 0), .row 8, .val (.string (⟨#[115, 104, 97, 49]⟩ : ByteArray)), .val (.int .i64 1), .val (.int .i64 0), .val (.slice none 0 0), .row 24, .val (.string (⟨#[115, 104, 97, 50, 53, 54]⟩ : ByteArray)), .val (.int .i64 1), .val (.int .i64 0), .val (.slice none 0 0), .row 40, .val (.string (⟨#[115, 104, 97, 51, 56, 52]⟩ : ByteArray)), .val (.int .i64 1), .val (.int .i64 0), .val (.slice none 0 0), .row 56, .val (.string (⟨#[114, 115, 97]⟩ : ByteArray)), .val (.int .i64 2), .val (.int .i64 1), .val (.slice none 0 0), .val (.slice none 0 0), .val (.string (⟨#[100, 115, 97]⟩ : ByteArray)), .val (.int .i64 2), .val (.int .i64 1), .val (.slice none 0 0), .val (.slice none 0 0), .val (.string (⟨#[101, 99, 100, 115, 97]⟩ : ByteArray)), .val (.int .i64 2), .val (.int .i64 2), .val (.slice none 0 0), .val (.slice none 0 0), .val (.string (⟨#[101, 100, 50, 53, 53, 49, 57]⟩ : ByteArray)), .val (.int .i64 2), .val (.int .i64 0), .val (.slice none 0 0), .row 96, .val (.string (⟨#[109, 108, 100, 115, 97]⟩ : ByteArray)), .val (.int .i64 2), .val (.int .i64 3), .row 112, .row 120, .val (.string (⟨#[114, 115, 97, 107, 120]⟩ : ByteArray)), .val (.int .i64 3), .val (.int .i64 1), .val (.slice none 0 0), .val (.slice none 0 0), .val (.string (⟨#[100, 104, 101]⟩ : ByteArray)), .val (.int .i64 3), .val (.int .i64 1), .val (.slice none 0 0), .val (.slice none 0 0), .val (.string (⟨#[101, 99, 100, 104, 101]⟩ : ByteArray)), .val (.int .i64 3), .val (.int .i64 2), .val (.slice none 0 0), .val (.slice none 0 0), .val (.string (⟨#[109, 108, 107, 101, 109]⟩ : ByteArray)), .val (.int .i64 3), .val (.int .i64 3), .row 160, .row 168, .val (.string (⟨#[114, 99, 52]⟩ : ByteArray)), .val (.int .i64 4), .val (.int .i64 3), .row 184, .row 192, .val (.string (⟨#[100, 101, 115, 51]⟩ : ByteArray)), .val (.int .i64 4), .val (.int .i64 3), .row 208, .row 216, .val (.string (⟨#[97, 101, 115, 99, 98, 99]⟩ : ByteArray)), .val (.int .i64 4), .val (.int .i64 3), .row 232, .row 240, .val (.string (⟨#[97, 101, 115, 103, 99, 109]⟩ : ByteArray)), .val (.int .i64 4), .val (.int .i64 3), .row 256, .row 264, .val (.string (⟨#[99, 104, 97, 99, 104, 97]⟩ : ByteArray)), .val (.int .i64 4), .val (.int .i64 0), .val (.slice none 0 0), .row 280, .val (.string (⟨#[104, 109, 97, 99, 109, 100, 53]⟩ : ByteArray)), .val (.int .i64 5), .val (.int .i64 0), .val (.slice none 0 0), .row 296, .val (.string (⟨#[104, 109, 97, 99, 115, 104, 97, 49]⟩ : ByteArray)), .val (.int .i64 5), .val (.int .i64 0), .val (.slice none 0 0), .row 312, .val (.string (⟨#[104, 109, 97, 99, 115, 104, 97, 50, 53, 54]⟩ : ByteArray)), .val (.int .i64 5), .val (.int .i64 0), .val (.slice none 0 0), .row 328, .val (.string (⟨#[97, 101, 97, 100]⟩ : ByteArray)), .val (.int .i64 5), .val (.int .i64 0), .val (.slice none 0 0), .row 344]) und155 (by kernel_rfl) z155 (by kernel_rfl) rfl) rfl rfl ?_
 refine go_ ?_
 refine ch_n fun hU => ?_
 refine aw_r ?_
 obtain rfl := Option.some.inj hg
 exact fin_ [] ⟨rfl, rfl⟩
theorem w_catalog_of (alg : Int) (r : catalog_row × Bool) (hg : g_catalog_of alg = some r) : Fn Tryz.prog 107 0 [.val (.int .i64 alg)] [] (fun d' b' => d' = .tup [.agg (catalog_row.dv r.1), .val (.bool r.2)] ∧ b' = []) := by
 unfold g_catalog_of at hg
 refine Fn.of Tryz.func107 rfl rfl rfl fun w0 I ρ0 => ?_
 show awp _ ⟨w0, I, ρ0, 0, 0, 14, none⟩ _ _ _
 refine sr_ 0 16 mk_U ?_
 refine go_ ?_
 refine ch_n fun hU => ?_
 refine awp_seq ?_
 refine awp_cut (ι := Bool) (fun (x9_1 : Bool) => mk [(0, .val (.int .i64 alg)), (2, .ptr 0 0), (9, .val (.bool x9_1))] [(0, .box [.val (.string (⟨#[]⟩ : ByteArray)), .val (.int .i64 0), .val (.int .i64 0), .val (.slice none 0 0), .val (.slice none 0 0)] 140)] 1) (fun (x9_1 : Bool) => g_catalog_of.j1 alg x9_1 = some r) ?_ ?_
 ·refine awp_region (sys _ _ []) 16 64 hU rfl rfl ?_
  refine go_ ?_
  rcases bc_ hg with ⟨h2, hg⟩ | ⟨h2, hg⟩
  ·refine go_ ?_
   refine ch_n fun hU => ?_
   exact ⟨true, hg, sub_ [(0, 0)]⟩
  ·refine go_ ?_
   refine ch_n fun hU => ?_
   exact ⟨decide (22 < alg), hg, sub_ [(0, 0)]⟩
 ·rintro x9_1 hg
  replace hg : g_catalog_of.j1 alg x9_1 = some r := hg
  show awp _ _ _ _ (mk _ _ _)
  unfold g_catalog_of.j1 at hg
  refine cg_ rfl hg (fun h5 hg => ?_) fun h5 hg => ?_
  ·refine awp_seq ?_
   refine awp_region (sys _ _ []) 1 25 mk_U rfl rfl ?_
   refine c0_ rfl rfl (.build (r := [.val (.string (⟨#[]⟩ : ByteArray)), .val (.int .i64 0), .val (.int .i64 0), .val (.slice none 0 0), .val (.slice none 0 0)]) und140 pl140 z140 (by kernel_rfl) rfl) rfl rfl ?_
   refine go_ ?_
   refine ch_n fun hU => ?_
   refine aw_r ?_
   obtain rfl := Option.some.inj hg
   exact fin_ [] ⟨rfl, rfl⟩
  ·refine awp_skip ?_
   repeat first | refine st_ ?_ | refine sn_ ?_
   refine sr_ 1 41 mk_U ?_
   obtain ⟨y, hy, hg⟩ := bind_some hg
   refine ca_ (w_catalog_rows _ hy) ?_
   refine go_ ?_
   obtain ⟨e, he, hg⟩ := bind_some hg
   refine c0_ rfl rfl (r_indexAA (f := catalog_row.enc) (L := (arrL 23 y)) und155 ty140 catalog_row.enc_len rfl rfl he (d2 := [.val (.string e.name), .val (.int .i64 e.kind), .val (.int .i64 e.way), .sl 1 (encL eI e.sizes), .sl 1 (encL eI e.strengths)]) rfl) rfl rfl ?_
   refine go_ ?_
   refine ch_n fun hU => ?_
   refine aw_r ?_
   obtain rfl := Option.some.inj hg
   exact fin_ [] ⟨rfl, rfl⟩
theorem w_catalog_modulus (bits : Int) (r : Int) (hg : g_catalog_modulus bits = some r) : Fn Tryz.prog 108 0 [.val (.int .i64 bits)] [] (fun d' b' => d' = .val (.int .i64 r) ∧ b' = []) := by
 unfold g_catalog_modulus at hg
 refine Fn.of Tryz.func108 rfl rfl rfl fun w0 I ρ0 => ?_
 show awp _ ⟨w0, I, ρ0, 0, 0, 21, none⟩ _ _ _
 refine sr_ 0 8 mk_U ?_
 refine go_ ?_
 refine ch_n fun hU => ?_
 refine awp_seq ?_
 refine sr_ 8 64 hU ?_
 refine c0_ rfl rfl (.buildArr (sz := 1) (r := [.val (.int .i64 1024), .val (.int .i64 56)]) und157 (by kernel_rfl) z157 (by kernel_rfl) rfl) rfl rfl ?_
 refine c0_ rfl rfl (.buildArr (sz := 1) (r := [.val (.int .i64 2048), .val (.int .i64 80)]) und157 (by kernel_rfl) z157 (by kernel_rfl) rfl) rfl rfl ?_
 refine c0_ rfl rfl (.buildArr (sz := 1) (r := [.val (.int .i64 3072), .val (.int .i64 112)]) und157 (by kernel_rfl) z157 (by kernel_rfl) rfl) rfl rfl ?_
 refine c0_ rfl rfl (.buildArr (sz := 1) (r := [.val (.int .i64 7680), .val (.int .i64 128)]) und157 (by kernel_rfl) z157 (by kernel_rfl) rfl) rfl rfl ?_
 refine c0_ rfl rfl (.buildArr (sz := 1) (r := [.val (.int .i64 15360), .val (.int .i64 192)]) und157 (by kernel_rfl) z157 (by kernel_rfl) rfl) rfl rfl ?_
 refine c0_ rfl rfl (.buildArr (sz := 2) (r := [.val (.int .i64 1024), .val (.int .i64 56), .val (.int .i64 2048), .val (.int .i64 80), .val (.int .i64 3072), .val (.int .i64 112), .val (.int .i64 7680), .val (.int .i64 128), .val (.int .i64 15360), .val (.int .i64 192)]) und158 (by kernel_rfl) z158 (by kernel_rfl) rfl) rfl rfl ?_
 refine go_ ?_
 refine ch_n fun hU => ?_
 refine awp_block ?_
 refine lp_ (fun (x11_1 : Int) => mk [(0, .val (.int .i64 bits)), (10, .agg [.val (.int .i64 1024), .val (.int .i64 56), .val (.int .i64 2048), .val (.int .i64 80), .val (.int .i64 3072), .val (.int .i64 112), .val (.int .i64 7680), .val (.int .i64 128), .val (.int .i64 15360), .val (.int .i64 192)]), (11, .val (.int .i64 x11_1))] [] 0) hg (sub_ []) ?_
 rintro x11_1 m1 o1 hg hn1
 replace hg : g_catalog_modulus.l1 bits x11_1 = some o1 := hg
 show awp _ _ _ _ (mk _ _ _)
 unfold g_catalog_modulus.l1 at hg
 refine sr_ 0 8 mk_U ?_
 refine go_ ?_
 refine ch_n fun hU => ?_
 refine awp_seq ?_
 refine cg_ rfl hg (fun h4 hg => ?_) fun h4 hg => ?_
 ·refine awp_skip ?_
  repeat first | refine st_ ?_ | refine sn_ ?_
  refine awp_seq ?_
  refine awp_block ?_
  refine sr_ 8 32 hU ?_
  obtain ⟨e, he, hg⟩ := bind_some hg
  refine c0_ rfl rfl (r_indexAA (f := (eA 2 eI)) (L := ([([1024, 56] : List Int), ([2048, 80] : List Int), ([3072, 112] : List Int), ([7680, 128] : List Int), ([15360, 192] : List Int)] : List (List Int))) und158 ty157 (eA_len eI_len) rfl rfl he (d2 := [.val (.int .i64 (e[0]!)), .val (.int .i64 (e[1]!))]) rfl) rfl rfl ?_
  refine go_ ?_
  refine ch_n fun hU => ?_
  refine sr_ 32 64 hU ?_
  refine go_ ?_
  refine ch_s (rd := [16]) rfl rfl (.idxA (j := 0) und157 ty3 rfl (by decide)) rfl rfl ?_
  refine go_ ?_
  refine ch_n fun hU => ?_
  refine cg_ rfl hg (fun h7 hg => ?_) fun h7 hg => ?_
  ·refine awp_seq ?_
   refine awp_region (sys _ _ []) 64 88 hU rfl rfl ?_
   refine ch_s (rd := [16]) rfl rfl (.idxA (j := 1) und157 ty3 rfl (by decide)) rfl rfl ?_
   refine go_ ?_
   refine ch_n fun hU => ?_
   refine aw_r ?_
   replace hg := leave hg hn1
   obtain rfl := Option.some.inj hg
   exact fin_ [] ⟨rfl, rfl⟩
  ·refine awp_skip ?_
   repeat first | refine st_ ?_ | refine sn_ ?_
   refine awp_region (sys _ _ []) 64 80 hU rfl rfl ?_
   refine go_ ?_
   refine ch_n fun hU => ?_
   obtain rfl := Option.some.inj hg
   exact ⟨(W (x11_1 + 1), m1), Nat.lt_succ_self _, hn1, sub_ []⟩
 ·refine awp_exit ?_
  repeat first | refine st_ ?_ | refine sn_ ?_
  replace hg := leave hg hn1
  refine sr_ 8 16 hU ?_
  refine go_ ?_
  refine ch_n fun hU => ?_
  refine aw_r ?_
  obtain rfl := Option.some.inj hg
  exact fin_ [] ⟨rfl, rfl⟩
theorem w_slices_Index_int (s : (List Int)) (v : Int) (r : Int) (hg : g_slices_Index_int s v = some r) : Fn Tryz.prog 70 0 [.sl 1 (encL eI s), .val (.int .i64 v)] [] (fun d' b' => d' = .val (.int .i64 r) ∧ b' = []) := by
 unfold g_slices_Index_int at hg
 refine Fn.of Tryz.func70 rfl rfl rfl fun w0 I ρ0 => ?_
 show awp _ ⟨w0, I, ρ0, 0, 0, 19, none⟩ _ _ _
 refine sr_ 0 8 mk_U ?_
 refine go_ ?_
 refine ch_n fun hU => ?_
 refine awp_seq ?_
 refine sr_ 8 32 hU ?_
 refine go_ ?_
 refine ch_n fun hU => ?_
 refine awp_block ?_
 refine lp_ (fun (x8_1 : Int) => mk [(0, .sl 1 (encL eI s)), (1, .val (.int .i64 v)), (7, .val (.int .i64 (s.length : Int))), (8, .val (.int .i64 x8_1))] [] 0) hg (sub_ []) ?_
 rintro x8_1 m1 o1 hg hn1
 replace hg : g_slices_Index_int.l1 s v x8_1 = some o1 := hg
 show awp _ _ _ _ (mk _ _ _)
 unfold g_slices_Index_int.l1 at hg
 refine sr_ 0 8 mk_U ?_
 refine go_ ?_
 refine ch_n fun hU => ?_
 refine awp_seq ?_
 refine cg_ rfl hg (fun h4 hg => ?_) fun h4 hg => ?_
 ·refine awp_skip ?_
  repeat first | refine st_ ?_ | refine sn_ ?_
  refine awp_seq ?_
  refine awp_block ?_
  refine sr_ 8 24 hU ?_
  refine go_ ?_
  refine ch_n fun hU => ?_
  refine sr_ 24 72 hU ?_
  refine go_ ?_
  obtain ⟨e, he, hg⟩ := bind_some hg
  refine go_ ?_
  refine c0_ rfl rfl (r_loadE1 ty3 (enc_cell eI_len (getI_at he) (o := 0) (c := .int .i64 e) rfl rfl)) rfl rfl ?_
  refine go_ ?_
  refine ch_n fun hU => ?_
  refine cg_ rfl hg (fun h7 hg => ?_) fun h7 hg => ?_
  ·refine awp_seq ?_
   refine awp_region (sys _ _ []) 72 88 hU rfl rfl ?_
   refine go_ ?_
   refine ch_n fun hU => ?_
   refine aw_r ?_
   replace hg := leave hg hn1
   obtain rfl := Option.some.inj hg
   exact fin_ [] ⟨rfl, rfl⟩
  ·refine awp_skip ?_
   repeat first | refine st_ ?_ | refine sn_ ?_
   refine awp_region (sys _ _ []) 72 88 hU rfl rfl ?_
   refine go_ ?_
   refine ch_n fun hU => ?_
   obtain rfl := Option.some.inj hg
   exact ⟨(W (x8_1 + 1), m1), Nat.lt_succ_self _, hn1, sub_ []⟩
 ·refine awp_exit ?_
  repeat first | refine st_ ?_ | refine sn_ ?_
  replace hg := leave hg hn1
  refine sr_ 8 16 hU ?_
  refine go_ ?_
  refine ch_n fun hU => ?_
  refine aw_r ?_
  obtain rfl := Option.some.inj hg
  exact fin_ [] ⟨rfl, rfl⟩
theorem w_slices_Contains_int (s : (List Int)) (v : Int) (r : Bool) (hg : g_slices_Contains_int s v = some r) : Fn Tryz.prog 48 0 [.sl 1 (encL eI s), .val (.int .i64 v)] [] (fun d' b' => d' = .val (.bool r) ∧ b' = []) := by
 unfold g_slices_Contains_int at hg
 refine Fn.of Tryz.func48 rfl rfl rfl fun w0 I ρ0 => ?_
 show awp _ ⟨w0, I, ρ0, 0, 0, 9, none⟩ _ _ _
 refine sr_ 0 8 mk_U ?_
 refine go_ ?_
 refine ch_n fun hU => ?_
 refine sr_ 8 48 hU ?_
 refine go_ ?_
 obtain ⟨y, hy, hg⟩ := bind_some hg
 refine ca_ (w_slices_Index_int _ _ _ hy) ?_
 refine go_ ?_
 refine ch_n fun hU => ?_
 refine aw_r ?_
 obtain rfl := Option.some.inj hg
 exact fin_ [] ⟨rfl, rfl⟩
theorem w_catalog_Strength (u : api_Use) (r : Int) (hg : g_catalog_Strength u = some r) : Fn Tryz.prog 77 0 [.agg [.val (.int .i64 u.Alg), .val (.int .i64 u.Bits)]] [] (fun d' b' => d' = .val (.int .i64 r) ∧ b' = []) := by
 unfold g_catalog_Strength at hg
 refine Fn.of Tryz.func77 rfl rfl rfl fun w0 I ρ0 => ?_
 show awp _ ⟨w0, I, ρ0, 0, 0, 61, none⟩ _ _ _
 refine sr_ 0 16 mk_U ?_
 refine go_ ?_
 refine ch_n fun hU => ?_
 refine sr_ 16 88 hU ?_
 refine go_ ?_
 obtain ⟨y, hy, hg⟩ := bind_some hg
 refine ca_ (w_catalog_of _ _ hy) ?_
 refine go_ ?_
 refine ch_n fun hU => ?_
 refine awp_seq ?_
 refine sr_ 88 104 hU ?_
 refine go_ ?_
 refine ch_n fun hU => ?_
 refine cg_ rfl hg (fun h4 hg => ?_) fun h4 hg => ?_
 ·refine awp_seq ?_
  refine awp_region (sys _ _ []) 104 112 hU rfl rfl ?_
  refine go_ ?_
  refine ch_n fun hU => ?_
  refine aw_r ?_
  obtain rfl := Option.some.inj hg
  exact fin_ [] ⟨rfl, rfl⟩
 ·refine awp_skip ?_
  repeat first | refine st_ ?_ | refine sn_ ?_
  refine awp_seq ?_
  refine sr_ 104 120 hU ?_
  refine go_ ?_
  refine ch_n fun hU => ?_
  refine awp_block ?_
  refine sr_ 120 136 hU ?_
  refine go_ ?_
  refine ch_n fun hU => ?_
  refine cg_ rfl hg (fun h8 hg => ?_) fun h8 hg => ?_
  ·refine awp_seq ?_
   refine awp_region (sys _ _ []) 136 160 hU rfl rfl ?_
   refine go_ ?_
   refine ch_n fun hU => ?_
   refine cg_ rfl hg (fun h10 hg => ?_) fun h10 hg => ?_
   ·refine awp_seq ?_
    refine awp_region (sys _ _ []) 160 200 hU rfl rfl ?_
    refine go_ ?_
    obtain ⟨e, he, hg⟩ := bind_some hg
    refine go_ ?_
    refine c0_ rfl rfl (r_loadE1 ty3 (enc_cell eI_len (getI_at he) (o := 0) (c := .int .i64 e) rfl rfl)) rfl rfl ?_
    refine go_ ?_
    refine ch_n fun hU => ?_
    refine aw_r ?_
    obtain rfl := Option.some.inj hg
    exact fin_ [] ⟨rfl, rfl⟩
   ·refine awp_skip ?_
    repeat first | refine st_ ?_ | refine sn_ ?_
    refine sr_ 160 168 hU ?_
    refine go_ ?_
    refine ch_n fun hU => ?_
    refine aw_r ?_
    obtain rfl := Option.some.inj hg
    exact fin_ [] ⟨rfl, rfl⟩
  ·refine awp_seq ?_
   refine awp_region (sys _ _ []) 136 152 hU rfl rfl ?_
   refine go_ ?_
   refine ch_n fun hU => ?_
   refine cg_ rfl hg (fun h13 hg => ?_) fun h13 hg => ?_
   ·refine awp_cut (ι := Bool) (fun (x34_1 : Bool) => mk [(1, .ptr 0 0), (34, .val (.bool x34_1))] [(0, .box [.val (.int .i64 u.Alg), .val (.int .i64 u.Bits)] 36)] 1) (fun (x34_1 : Bool) => g_catalog_Strength.j1 u x34_1 = some r) ?_ ?_
    ·refine awp_region (sys _ _ []) 152 216 hU rfl rfl ?_
     refine go_ ?_
     rcases bc_ hg with ⟨h14, hg⟩ | ⟨h14, hg⟩
     ·refine go_ ?_
      refine ch_n fun hU => ?_
      exact ⟨decide (u.Bits ≤ 16384), hg, sub_ [(0, 0)]⟩
     ·refine go_ ?_
      refine ch_n fun hU => ?_
      exact ⟨false, hg, sub_ [(0, 0)]⟩
    ·rintro x34_1 hg
     replace hg : g_catalog_Strength.j1 u x34_1 = some r := hg
     show awp _ _ _ _ (mk _ _ _)
     unfold g_catalog_Strength.j1 at hg
     refine cg_ rfl hg (fun h17 hg => ?_) fun h17 hg => ?_
     ·refine awp_seq ?_
      refine awp_region (sys _ _ []) 1 33 mk_U rfl rfl ?_
      refine go_ ?_
      obtain ⟨y_2, hy_2, hg⟩ := bind_some hg
      refine ca_ (w_catalog_modulus _ _ hy_2) ?_
      refine go_ ?_
      refine ch_n fun hU => ?_
      refine aw_r ?_
      obtain rfl := Option.some.inj hg
      exact fin_ [] ⟨rfl, rfl⟩
     ·refine awp_skip ?_
      repeat first | refine st_ ?_ | refine sn_ ?_
      refine sr_ 1 9 mk_U ?_
      refine go_ ?_
      refine ch_n fun hU => ?_
      refine aw_r ?_
      obtain rfl := Option.some.inj hg
      exact fin_ [] ⟨rfl, rfl⟩
   ·refine awp_seq ?_
    refine awp_region (sys _ _ []) 152 168 hU rfl rfl ?_
    refine go_ ?_
    refine ch_n fun hU => ?_
    refine cg_ rfl hg (fun h20 hg => ?_) fun h20 hg => ?_
    ·refine awp_seq ?_
     refine awp_region (sys _ _ []) 168 200 hU rfl rfl ?_
     refine c0_ rfl rfl (r_buildFull sl22 z3 (by decide) rfl rfl rfl rfl ck3 (cs := [.int .i64 160, .int .i64 224, .int .i64 256, .int .i64 384, .int .i64 521]) (.cons .int (.cons .int (.cons .int (.cons .int (.cons .int .nil))))) rfl (l := ([160, 224, 256, 384, 521] : List Int)) (f := eI) rfl) rfl rfl ?_
     refine go_ ?_
     obtain ⟨y_3, hy_3, hg⟩ := bind_some hg
     refine cb_ [168] [] [] true (w_slices_Contains_int _ _ _ hy_3) ?_
     refine ch_n fun hU => ?_
     refine cg_ rfl hg (fun h22 hg => ?_) fun h22 hg => ?_
     ·refine awp_seq ?_
      refine awp_region (sys _ _ []) 200 232 hU rfl rfl ?_
      refine go_ ?_
      obtain ⟨q, hq, hg⟩ := bind_some hg
      refine c0_ rfl rfl (r_quo hq) rfl rfl ?_
      refine go_ ?_
      refine ch_n fun hU => ?_
      refine aw_r ?_
      obtain rfl := Option.some.inj hg
      exact fin_ [] ⟨rfl, rfl⟩
     ·refine awp_skip ?_
      repeat first | refine st_ ?_ | refine sn_ ?_
      refine sr_ 200 208 hU ?_
      refine go_ ?_
      refine ch_n fun hU => ?_
      refine aw_r ?_
      obtain rfl := Option.some.inj hg
      exact fin_ [] ⟨rfl, rfl⟩
    ·refine awp_seq ?_
     refine awp_region (sys _ _ []) 168 184 hU rfl rfl ?_
     refine go_ ?_
     refine ch_n fun hU => ?_
     refine cg_ rfl hg (fun h25 hg => ?_) fun h25 hg => ?_
     ·refine awp_seq ?_
      refine awp_region (sys _ _ []) 184 232 hU rfl rfl ?_
      refine go_ ?_
      obtain ⟨y_4, hy_4, hg⟩ := bind_some hg
      refine ca_ (w_slices_Index_int _ _ _ hy_4) ?_
      refine go_ ?_
      refine ch_n fun hU => ?_
      refine sr_ 232 248 hU ?_
      refine go_ ?_
      refine ch_n fun hU => ?_
      refine cg_ rfl hg (fun h28 hg => ?_) fun h28 hg => ?_
      ·refine awp_seq ?_
       refine awp_region (sys _ _ []) 248 296 hU rfl rfl ?_
       refine go_ ?_
       obtain ⟨e_2, he_2, hg⟩ := bind_some hg
       refine go_ ?_
       refine c0_ rfl rfl (r_loadE1 ty3 (enc_cell eI_len (getI_at he_2) (o := 0) (c := .int .i64 e_2) rfl rfl)) rfl rfl ?_
       refine go_ ?_
       refine ch_n fun hU => ?_
       refine aw_r ?_
       obtain rfl := Option.some.inj hg
       exact fin_ [] ⟨rfl, rfl⟩
      ·refine awp_skip ?_
       repeat first | refine st_ ?_ | refine sn_ ?_
       refine sr_ 248 256 hU ?_
       refine go_ ?_
       refine ch_n fun hU => ?_
       refine aw_r ?_
       obtain rfl := Option.some.inj hg
       exact fin_ [] ⟨rfl, rfl⟩
     ·refine awp_skip ?_
      repeat first | refine st_ ?_ | refine sn_ ?_
      refine sr_ 184 192 hU ?_
      refine go_ ?_
      refine ch_n fun hU => ?_
      refine aw_r ?_
      obtain rfl := Option.some.inj hg
      exact fin_ [] ⟨rfl, rfl⟩
theorem w_catalog_Valid (u : api_Use) (r : Bool) (hg : g_catalog_Valid u = some r) : Fn Tryz.prog 57 0 [.agg [.val (.int .i64 u.Alg), .val (.int .i64 u.Bits)]] [] (fun d' b' => d' = .val (.bool r) ∧ b' = []) := by
 unfold g_catalog_Valid at hg
 refine Fn.of Tryz.func57 rfl rfl rfl fun w0 I ρ0 => ?_
 show awp _ ⟨w0, I, ρ0, 0, 0, 6, none⟩ _ _ _
 refine sr_ 0 16 mk_U ?_
 refine go_ ?_
 refine ch_n fun hU => ?_
 refine sr_ 16 48 hU ?_
 refine go_ ?_
 obtain ⟨y, hy, hg⟩ := bind_some hg
 refine ca_ (w_catalog_Strength _ _ hy) ?_
 refine go_ ?_
 refine ch_n fun hU => ?_
 refine aw_r ?_
 obtain rfl := Option.some.inj hg
 exact fin_ [] ⟨rfl, rfl⟩
theorem w_catalog_Named (s : ByteArray) (r : Bool) (hg : g_catalog_Named s = some r) : Fn Tryz.prog 58 0 [.val (.string s)] [] (fun d' b' => d' = .val (.bool r) ∧ b' = []) := by
 unfold g_catalog_Named at hg
 refine Fn.of Tryz.func58 rfl rfl rfl fun w0 I ρ0 => ?_
 show awp _ ⟨w0, I, ρ0, 0, 0, 27, none⟩ _ _ _
 refine sr_ 0 8 mk_U ?_
 refine go_ ?_
 refine ch_n fun hU => ?_
 refine awp_seq ?_
 refine sr_ 8 40 hU ?_
 refine go_ ?_
 refine c0_ rfl rfl (r_convB und9 und82 und5) rfl rfl ?_
 refine go_ ?_
 refine ch_n fun hU => ?_
 refine awp_block ?_
 refine lp_ (fun (x8_1 : Int) => mk [(0, .val (.string s)), (6, .sl 1 (encL e8 (toB s))), (7, .val (.int .i64 ((toB s).length : Int))), (8, .val (.int .i64 x8_1))] [] 0) hg (sub_ []) ?_
 rintro x8_1 m1 o1 hg hn1
 replace hg : g_catalog_Named.l1 s x8_1 = some o1 := hg
 show awp _ _ _ _ (mk _ _ _)
 unfold g_catalog_Named.l1 at hg
 refine sr_ 0 8 mk_U ?_
 refine go_ ?_
 refine ch_n fun hU => ?_
 refine awp_seq ?_
 refine cg_ rfl hg (fun h4 hg => ?_) fun h4 hg => ?_
 ·refine awp_skip ?_
  repeat first | refine st_ ?_ | refine sn_ ?_
  refine awp_seq ?_
  refine awp_block ?_
  refine sr_ 8 32 hU ?_
  obtain ⟨e, he, hg⟩ := bind_some hg
  refine go_ ?_
  refine c0_ rfl rfl (r_loadE1 ty5 (enc_cell e8_len (getI_at he) (o := 0) (c := .int .u8 (e.toNat : Int)) rfl rfl)) rfl rfl ?_
  refine go_ ?_
  refine ch_n fun hU => ?_
  refine awp_cut (ι := Bool) (fun (x17_2 : Bool) => mk [(0, .val (.string s)), (6, .sl 1 (encL e8 (toB s))), (7, .val (.int .i64 ((toB s).length : Int))), (8, .val (.int .i64 x8_1)), (17, .val (.bool x17_2))] [] 0) (fun (x17_2 : Bool) => g_catalog_Named.j2 x8_1 x17_2 = some o1) ?_ ?_
  ·refine awp_region (sys _ _ []) 32 80 hU rfl rfl ?_
   refine go_ ?_
   rcases bc_ hg with ⟨h6, hg⟩ | ⟨h6, hg⟩
   ·refine go_ ?_
    refine ch_n fun hU => ?_
    exact ⟨true, hg, sub_ []⟩
   ·refine go_ ?_
    refine ch_n fun hU => ?_
    exact ⟨decide (126 < (e.toNat : Int)), hg, sub_ []⟩
  ·rintro x17_2 hg
   replace hg : g_catalog_Named.j2 x8_1 x17_2 = some o1 := hg
   show awp _ _ _ _ (mk _ _ _)
   unfold g_catalog_Named.j2 at hg
   refine cg_ rfl hg (fun h9 hg => ?_) fun h9 hg => ?_
   ·refine awp_seq ?_
    refine awp_region (sys _ _ []) 0 8 mk_U rfl rfl ?_
    refine go_ ?_
    refine ch_n fun hU => ?_
    refine aw_r ?_
    replace hg := leave hg hn1
    obtain rfl := Option.some.inj hg
    exact fin_ [] ⟨rfl, rfl⟩
   ·refine awp_skip ?_
    repeat first | refine st_ ?_ | refine sn_ ?_
    refine awp_region (sys _ _ []) 0 16 mk_U rfl rfl ?_
    refine go_ ?_
    refine ch_n fun hU => ?_
    obtain rfl := Option.some.inj hg
    exact ⟨(W (x8_1 + 1), m1), Nat.lt_succ_self _, hn1, sub_ []⟩
 ·refine awp_exit ?_
  repeat first | refine st_ ?_ | refine sn_ ?_
  replace hg := leave hg hn1
  refine sr_ 8 80 hU ?_
  refine go_ ?_
  refine c0_ rfl rfl (r_lenT und9) rfl rfl ?_
  refine go_ ?_
  rcases bc_ hg with ⟨h12, hg⟩ | ⟨h12, hg⟩
  ·refine go_ ?_
   refine c0_ (gdv_t rfl rfl h12) rfl (r_lenT und9) rfl rfl ?_
   refine go_ ?_
   refine ch_n fun hU => ?_
   refine aw_r ?_
   obtain rfl := Option.some.inj hg
   exact fin_ [] ⟨rfl, rfl⟩
  ·refine go_ ?_
   refine ch_n fun hU => ?_
   refine aw_r ?_
   obtain rfl := Option.some.inj hg
   exact fin_ [] ⟨rfl, rfl⟩
theorem w_certificate_Key (n : Int) (r : Bool) (hg : g_certificate_Key n = some r) : Fn Tryz.prog 41 0 [.val (.int .i64 n)] [] (fun d' b' => d' = .val (.bool r) ∧ b' = []) := by
 unfold g_certificate_Key at hg
 refine Fn.of Tryz.func41 rfl rfl rfl fun w0 I ρ0 => ?_
 show awp _ ⟨w0, I, ρ0, 0, 0, 9, none⟩ _ _ _
 refine sr_ 0 8 mk_U ?_
 refine go_ ?_
 refine ch_n fun hU => ?_
 refine sr_ 8 64 hU ?_
 refine go_ ?_
 rcases bc_ hg with ⟨h2, hg⟩ | ⟨h2, hg⟩
 ·refine go_ ?_
  refine ch_n fun hU => ?_
  refine aw_r ?_
  obtain rfl := Option.some.inj hg
  exact fin_ [] ⟨rfl, rfl⟩
 ·refine go_ ?_
  refine ch_n fun hU => ?_
  refine aw_r ?_
  obtain rfl := Option.some.inj hg
  exact fin_ [] ⟨rfl, rfl⟩
theorem w_exception_Check (x' : api_Exception) (r : Int) (hg : g_exception_Check x' = some r) : Fn Tryz.prog 34 0 [.agg (api_Exception.dv x')] [] (fun d' b' => d' = .val (.int .i64 r) ∧ b' = []) := by
 unfold g_exception_Check at hg
 refine Fn.of Tryz.func34 rfl rfl rfl fun w0 I ρ0 => ?_
 show awp _ ⟨w0, I, ρ0, 0, 0, 89, none⟩ _ _ _
 refine sr_ 0 16 mk_U ?_
 refine go_ ?_
 refine ch_n fun hU => ?_
 refine awp_seq ?_
 refine awp_cut (ι := Bool) (fun (x24_1 : Bool) => mk [(1, .ptr 0 0), (24, .val (.bool x24_1))] [(0, .box (api_Exception.dv x') 52)] 1) (fun (x24_1 : Bool) => g_exception_Check.j1 x' x24_1 = some r) ?_ ?_
 ·refine awp_region (sys _ _ []) 16 176 hU rfl rfl ?_
  refine go_ ?_
  obtain ⟨y, hy, hg⟩ := bind_some hg
  refine ca_ (w_catalog_Valid _ _ hy) ?_
  refine go_ ?_
  rcases bc_ hg with ⟨h2, hg⟩ | ⟨h2, hg⟩
  ·refine go_ ?_
   refine ch_n fun hU => ?_
   exact ⟨true, hg, sub_ [(0, 0)]⟩
  ·refine go_ ?_
   rcases bc_ hg with ⟨h4, hg⟩ | ⟨h4, hg⟩
   ·refine go_ ?_
    refine ch_n fun hU => ?_
    exact ⟨true, hg, sub_ [(0, 0)]⟩
   ·refine go_ ?_
    rcases bc_ hg with ⟨h6, hg⟩ | ⟨h6, hg⟩
    ·refine go_ ?_
     refine ch_n fun hU => ?_
     exact ⟨true, hg, sub_ [(0, 0)]⟩
    ·refine go_ ?_
     obtain ⟨y_2, hy_2, hg⟩ := bind_some hg
     refine ca_ (w_catalog_Named _ _ hy_2) ?_
     refine go_ ?_
     refine ch_n fun hU => ?_
     exact ⟨!y_2, hg, sub_ [(0, 0)]⟩
 ·rintro x24_1 hg
  replace hg : g_exception_Check.j1 x' x24_1 = some r := hg
  show awp _ _ _ _ (mk _ _ _)
  unfold g_exception_Check.j1 at hg
  refine cg_ rfl hg (fun h9 hg => ?_) fun h9 hg => ?_
  ·refine awp_seq ?_
   refine awp_region (sys _ _ []) 1 9 mk_U rfl rfl ?_
   refine go_ ?_
   refine ch_n fun hU => ?_
   refine aw_r ?_
   obtain rfl := Option.some.inj hg
   exact fin_ [] ⟨rfl, rfl⟩
  ·refine awp_skip ?_
   repeat first | refine st_ ?_ | refine sn_ ?_
   refine awp_seq ?_
   refine awp_cut (ι := Bool) (fun (x49_2 : Bool) => mk [(1, .ptr 0 0), (49, .val (.bool x49_2))] [(0, .box (api_Exception.dv x') 52)] 1) (fun (x49_2 : Bool) => g_exception_Check.j2 x' x49_2 = some r) ?_ ?_
   ·refine awp_region (sys _ _ []) 1 201 mk_U rfl rfl ?_
    refine go_ ?_
    rcases bc_ hg with ⟨h11, hg⟩ | ⟨h11, hg⟩
    ·refine go_ ?_
     refine ch_n fun hU => ?_
     exact ⟨true, hg, sub_ [(0, 0)]⟩
    ·refine go_ ?_
     rcases bc_ hg with ⟨h13, hg⟩ | ⟨h13, hg⟩
     ·refine go_ ?_
      refine ch_n fun hU => ?_
      exact ⟨true, hg, sub_ [(0, 0)]⟩
     ·refine go_ ?_
      rcases bc_ hg with ⟨h15, hg⟩ | ⟨h15, hg⟩
      ·refine go_ ?_
       refine ch_n fun hU => ?_
       exact ⟨true, hg, sub_ [(0, 0)]⟩
      ·refine go_ ?_
       refine ch_n fun hU => ?_
       exact ⟨decide (8 < (x'.Seals.length : Int)), hg, sub_ [(0, 0)]⟩
   ·rintro x49_2 hg
    replace hg : g_exception_Check.j2 x' x49_2 = some r := hg
    show awp _ _ _ _ (mk _ _ _)
    unfold g_exception_Check.j2 at hg
    refine cg_ rfl hg (fun h18 hg => ?_) fun h18 hg => ?_
    ·refine awp_seq ?_
     refine awp_region (sys _ _ []) 1 9 mk_U rfl rfl ?_
     refine go_ ?_
     refine ch_n fun hU => ?_
     refine aw_r ?_
     obtain rfl := Option.some.inj hg
     exact fin_ [] ⟨rfl, rfl⟩
    ·refine awp_skip ?_
     repeat first | refine st_ ?_ | refine sn_ ?_
     refine awp_seq ?_
     refine sr_ 1 33 mk_U ?_
     refine go_ ?_
     refine ch_n fun hU => ?_
     refine awp_block ?_
     refine lp_ (fun (x53_3 : Int) => mk [(1, .ptr 0 0), (51, .sl 2 (encL api_Seal.enc x'.Seals)), (52, .val (.int .i64 (x'.Seals.length : Int))), (53, .val (.int .i64 x53_3))] [(0, .box (api_Exception.dv x') 52)] 1) hg (sub_ [(0, 0)]) ?_
     rintro x53_3 m3 o3 hg hn3
     replace hg : g_exception_Check.l3 x' x53_3 = some o3 := hg
     show awp _ _ _ _ (mk _ _ _)
     unfold g_exception_Check.l3 at hg
     refine sr_ 1 9 mk_U ?_
     refine go_ ?_
     refine ch_n fun hU => ?_
     refine awp_seq ?_
     refine cg_ rfl hg (fun h22 hg => ?_) fun h22 hg => ?_
     ·refine awp_skip ?_
      repeat first | refine st_ ?_ | refine sn_ ?_
      refine awp_seq ?_
      refine awp_block ?_
      refine sr_ 9 57 hU ?_
      refine go_ ?_
      obtain ⟨e, he, hg⟩ := bind_some hg
      refine go_ ?_
      refine c0_ rfl rfl (r_loadEA ty87 (enc_cells api_Seal.enc_len (getI_at he) (o := 0) (m := 2) (cs := [.int .i64 e.Key, .int .i64 e.Sum]) rfl (by decide) rfl) (enc_cells_le api_Seal.enc_len (getI_at he) (o := 0) (m := 2) (by decide) rfl)) rfl rfl ?_
      refine go_ ?_
      refine ch_n fun hU => ?_
      refine awp_cut (ι := Bool) (fun (x87_4 : Bool) => mk [(1, .ptr 0 0), (51, .sl 2 (encL api_Seal.enc x'.Seals)), (52, .val (.int .i64 (x'.Seals.length : Int))), (53, .val (.int .i64 x53_3)), (87, .val (.bool x87_4))] [(0, .box (api_Exception.dv x') 52)] 1) (fun (x87_4 : Bool) => g_exception_Check.j4 x53_3 x87_4 = some o3) ?_ ?_
      ·refine awp_draw (sys _ _ []) (by kernel_rfl) [0, 1, 3, 7, 15, 31, 63, 127, 255, 511, 1023, 2047, 4095, 8191, 16383, 32767, 65535, 131071, 262143, 524287, 262143, 1310719, 4194303, 8388607, 16777215, 262143, 33816575, 134217727, 268435455, 536870911] 57 297 hU rfl rfl (by kernel_rfl) ?_
       refine go_ ?_
       obtain ⟨y_3, hy_3, hg⟩ := bind_some hg
       refine ca_ (w_certificate_Key _ _ hy_3) ?_
       refine go_ ?_
       rcases bc_ hg with ⟨h24, hg⟩ | ⟨h24, hg⟩
       ·refine go_ ?_
        refine ch_n fun hU => ?_
        exact ⟨true, hg, sub_ [(0, 0)]⟩
       ·refine go_ ?_
        rcases bc_ hg with ⟨h26, hg⟩ | ⟨h26, hg⟩
        ·refine go_ ?_
         refine ch_n fun hU => ?_
         exact ⟨true, hg, sub_ [(0, 0)]⟩
        ·refine go_ ?_
         rcases bc_ hg with ⟨h28, hg⟩ | ⟨h28, hg⟩
         ·refine go_ ?_
          refine ch_n fun hU => ?_
          exact ⟨true, hg, sub_ [(0, 0)]⟩
         ·refine go_ ?_
          rcases bc_ hg with ⟨h30, hg⟩ | ⟨h30, hg⟩
          ·refine go_ ?_
           obtain ⟨e_2, he_2, hg⟩ := bind_some hg
           refine go_ ?_
           refine c0_ (gdv_t rfl rfl h30) rfl (r_fieldE fd87_0 ty3 (by decide) (enc_lt api_Seal.enc_len (getI_at he_2) (o := 0) (by decide) rfl)) rfl rfl ?_
           refine c0_ (gdv_t rfl rfl h30) rfl (r_loadE1 ty3 (enc_cell api_Seal.enc_len (getI_at he_2) (o := 0) (c := .int .i64 e_2.Key) rfl rfl)) rfl rfl ?_
           refine go_ ?_
           refine ch_n fun hU => ?_
           exact ⟨decide (e.Key ≤ e_2.Key), hg, sub_ [(0, 0)]⟩
          ·refine go_ ?_
           refine ch_n fun hU => ?_
           exact ⟨false, hg, sub_ [(0, 0)]⟩
      ·rintro x87_4 hg
       replace hg : g_exception_Check.j4 x53_3 x87_4 = some o3 := hg
       show awp _ _ _ _ (mk _ _ _)
       unfold g_exception_Check.j4 at hg
       refine cg_ rfl hg (fun h33 hg => ?_) fun h33 hg => ?_
       ·refine awp_seq ?_
        refine awp_region (sys _ _ []) 1 9 mk_U rfl rfl ?_
        refine go_ ?_
        refine ch_n fun hU => ?_
        refine aw_r ?_
        replace hg := leave hg hn3
        obtain rfl := Option.some.inj hg
        exact fin_ [] ⟨rfl, rfl⟩
       ·refine awp_skip ?_
        repeat first | refine st_ ?_ | refine sn_ ?_
        refine awp_region (sys _ _ []) 1 17 mk_U rfl rfl ?_
        refine go_ ?_
        refine ch_n fun hU => ?_
        obtain rfl := Option.some.inj hg
        exact ⟨(W (x53_3 + 1), m3), Nat.lt_succ_self _, hn3, sub_ [(0, 0)]⟩
     ·refine awp_exit ?_
      repeat first | refine st_ ?_ | refine sn_ ?_
      replace hg := leave hg hn3
      refine sr_ 9 17 hU ?_
      refine go_ ?_
      refine ch_n fun hU => ?_
      refine aw_r ?_
      obtain rfl := Option.some.inj hg
      exact fin_ [] ⟨rfl, rfl⟩
theorem w_der_Int (n : Int) (r : api_Value) (hg : g_der_Int n = some r) : Fn Tryz.prog 65 0 [.val (.int .i64 n)] [] (fun d' b' => d' = .agg (api_Value.dv r) ∧ b' = []) := by
 unfold g_der_Int at hg
 refine Fn.of Tryz.func65 rfl rfl rfl fun w0 I ρ0 => ?_
 show awp _ ⟨w0, I, ρ0, 0, 0, 48, none⟩ _ _ _
 refine sr_ 0 8 mk_U ?_
 refine go_ ?_
 refine ch_n fun hU => ?_
 refine sr_ 8 16 hU ?_
 refine go_ ?_
 refine ch_n fun hU => ?_
 refine awp_seq ?_
 refine sr_ 16 24 hU ?_
 refine go_ ?_
 refine ch_n fun hU => ?_
 refine awp_block ?_
 refine lp_ (fun ((i_1, b_1) : Int × List UInt8) => mk [(0, .val (.int .i64 n)), (2, .ptr 0 0), (3, .row 1), (4, .val (.int .i64 i_1))] [(0, .box [.val (.int .i64 0), .val (.slice none 0 0), .val (.bool false), .val (.slice none 0 0)] 103), (1, .row 5 1 (encL e8 b_1))] 2) hg (sub_ [(0, 0)]) ?_
 rintro ⟨i_1, b_1⟩ m1 o1 hg hn1
 replace hg : g_der_Int.l1 n i_1 b_1 = some o1 := hg
 show awp _ _ _ _ (mk _ _ _)
 unfold g_der_Int.l1 at hg
 refine awp_seq ?_
 refine sr_ 2 18 mk_U ?_
 refine go_ ?_
 refine ch_n fun hU => ?_
 refine cg_ rfl hg (fun h5 hg => ?_) fun h5 hg => ?_
 ·refine awp_skip ?_
  repeat first | refine st_ ?_ | refine sn_ ?_
  refine awp_seq ?_
  refine awp_block ?_
  refine awp_region (sys _ _ []) 18 90 hU rfl rfl ?_
  refine go_ ?_
  refine c0_ rfl rfl (r_convK und3 und125) rfl rfl ?_
  refine go_ ?_
  obtain ⟨q, hq, hg⟩ := bind_some hg
  refine c0_ rfl rfl (r_shrK hq) rfl rfl ?_
  refine c0_ rfl rfl (r_conv_u8 und125 und5) rfl rfl ?_
  refine c0_ rfl rfl (r_buildFull sl82 z5 (by decide) rfl rfl rfl rfl ck5 (cs := [.int .u8 ((u8 q).toNat : Int)]) (.cons .int .nil) rfl (l := ([(u8 q)] : List UInt8)) (f := e8) rfl) rfl rfl ?_
  obtain ⟨l, hl, hg⟩ := bind_some hg
  refine ch_s (rd := [1, 66]) rfl rfl (r_append sl82 e8_len .row rfl .row rfl hl rfl) rfl rfl ?_
  refine go_ ?_
  refine ch_n fun hU => ?_
  refine awp_region (sys _ _ []) 90 114 hU rfl rfl ?_
  refine go_ ?_
  refine ch_n fun hU => ?_
  obtain rfl := Option.some.inj hg
  exact ⟨((W (i_1 - 8), l), m1), Nat.lt_succ_self _, hn1, sub_ [(0, 0), (1, 74)]⟩
 ·refine awp_exit ?_
  repeat first | refine st_ ?_ | refine sn_ ?_
  replace hg := leave hg hn1
  refine awp_seq ?_
  refine awp_block ?_
  refine lp_ (fun (b_2 : List UInt8) => mk [(2, .ptr 0 0), (3, .sl 1 (encL e8 b_2))] [(0, .box [.val (.int .i64 0), .val (.slice none 0 0), .val (.bool false), .val (.slice none 0 0)] 103)] 1) hg (sub_ [(0, 0)]) ?_
  rintro b_2 m2 o2 hg hn2
  replace hg : g_der_Int.l2 b_2 = some o2 := hg
  show awp _ _ _ _ (mk _ _ _)
  unfold g_der_Int.l2 at hg
  refine awp_seq ?_
  refine awp_cut (ι := Bool) (fun (x43_3 : Bool) => mk [(2, .ptr 0 0), (3, .sl 1 (encL e8 b_2)), (43, .val (.bool x43_3))] [(0, .box [.val (.int .i64 0), .val (.slice none 0 0), .val (.bool false), .val (.slice none 0 0)] 103)] 1) (fun (x43_3 : Bool) => g_der_Int.j3 b_2 x43_3 = some o2) ?_ ?_
  ·refine awp_region (sys _ _ []) 1 217 mk_U rfl rfl ?_
   refine go_ ?_
   rcases bc_ hg with ⟨h8, hg⟩ | ⟨h8, hg⟩
   ·refine go_ ?_
    obtain ⟨e, he, hg⟩ := bind_some hg
    refine go_ ?_
    refine c0_ (gdv_t rfl rfl h8) rfl (r_loadE1 ty5 (enc_cell e8_len (getI_at he) (o := 0) (c := .int .u8 (e.toNat : Int)) rfl rfl)) rfl rfl ?_
    refine go_ ?_
    rcases bc_ hg with ⟨h9, hg⟩ | ⟨h9, hg⟩
    ·refine go_ ?_
     obtain ⟨e_2, he_2, hg⟩ := bind_some hg
     refine go_ ?_
     refine c0_ (gdv_t rfl rfl h9) rfl (r_loadE1 ty5 (enc_cell e8_len (getI_at he_2) (o := 0) (c := .int .u8 (e_2.toNat : Int)) rfl rfl)) rfl rfl ?_
     refine go_ ?_
     rcases bc_ hg with ⟨h10, hg⟩ | ⟨h10, hg⟩
     ·refine go_ ?_
      refine ch_n fun hU => ?_
      exact ⟨true, hg, sub_ [(0, 0)]⟩
     ·refine go_ ?_
      refine c0_ (gdv_t rfl rfl h10) rfl (r_loadE1 ty5 (enc_cell e8_len (getI_at he) (o := 0) (c := .int .u8 (e.toNat : Int)) rfl rfl)) rfl rfl ?_
      refine go_ ?_
      rcases bc_ hg with ⟨h12, hg⟩ | ⟨h12, hg⟩
      ·refine go_ ?_
       refine c0_ (gdv_t rfl rfl h12) rfl (r_loadE1 ty5 (enc_cell e8_len (getI_at he_2) (o := 0) (c := .int .u8 (e_2.toNat : Int)) rfl rfl)) rfl rfl ?_
       refine go_ ?_
       refine ch_n fun hU => ?_
       exact ⟨decide (128 ≤ (e_2.toNat : Int)), hg, sub_ [(0, 0)]⟩
      ·refine go_ ?_
       refine ch_n fun hU => ?_
       exact ⟨false, hg, sub_ [(0, 0)]⟩
    ·refine go_ ?_
     refine c0_ (gdv_t rfl rfl rfl) rfl (r_loadE1 ty5 (enc_cell e8_len (getI_at he) (o := 0) (c := .int .u8 (e.toNat : Int)) rfl rfl)) rfl rfl ?_
     refine go_ ?_
     rcases bc_ hg with ⟨h15, hg⟩ | ⟨h15, hg⟩
     ·refine go_ ?_
      obtain ⟨e_3, he_3, hg⟩ := bind_some hg
      refine go_ ?_
      refine c0_ (gdv_t rfl rfl h15) rfl (r_loadE1 ty5 (enc_cell e8_len (getI_at he_3) (o := 0) (c := .int .u8 (e_3.toNat : Int)) rfl rfl)) rfl rfl ?_
      refine go_ ?_
      refine ch_n fun hU => ?_
      exact ⟨decide (128 ≤ (e_3.toNat : Int)), hg, sub_ [(0, 0)]⟩
     ·refine go_ ?_
      refine ch_n fun hU => ?_
      exact ⟨false, hg, sub_ [(0, 0)]⟩
   ·refine go_ ?_
    refine ch_n fun hU => ?_
    exact ⟨false, hg, sub_ [(0, 0)]⟩
  ·rintro x43_3 hg
   replace hg : g_der_Int.j3 b_2 x43_3 = some o2 := hg
   show awp _ _ _ _ (mk _ _ _)
   unfold g_der_Int.j3 at hg
   refine cg_ rfl hg (fun h19 hg => ?_) fun h19 hg => ?_
   ·refine awp_skip ?_
    repeat first | refine st_ ?_ | refine sn_ ?_
    refine awp_block ?_
    refine awp_region (sys _ _ []) 1 25 mk_U rfl rfl ?_
    refine go_ ?_
    obtain ⟨l_2, hl_2, hg⟩ := bind_some hg
    refine c0_ rfl rfl (r_sliS_lo sl82 e8_len hl_2) rfl rfl ?_
    refine go_ ?_
    refine ch_n fun hU => ?_
    obtain rfl := Option.some.inj hg
    exact ⟨(l_2, m2), Nat.lt_succ_self _, hn2, sub_ [(0, 0)]⟩
   ·refine awp_exit ?_
    repeat first | refine st_ ?_ | refine sn_ ?_
    replace hg := leave hg hn2
    refine sr_ 1 25 mk_U ?_
    refine go_ ?_
    refine c0_ rfl rfl (.build (r := [.val (.int .i64 2), .sl 1 (encL e8 b_2), .val (.bool false), .val (.slice none 0 0)]) und103 pl103 z103 (by kernel_rfl) rfl) rfl rfl ?_
    refine go_ ?_
    refine ch_n fun hU => ?_
    refine aw_r ?_
    obtain rfl := Option.some.inj hg
    exact fin_ [] ⟨rfl, rfl⟩
theorem w_der_Text (s : ByteArray) (r : api_Value) (hg : g_der_Text s = some r) : Fn Tryz.prog 66 0 [.val (.string s)] [] (fun d' b' => d' = .agg (api_Value.dv r) ∧ b' = []) := by
 unfold g_der_Text at hg
 refine Fn.of Tryz.func66 rfl rfl rfl fun w0 I ρ0 => ?_
 show awp _ ⟨w0, I, ρ0, 0, 0, 6, none⟩ _ _ _
 refine sr_ 0 8 mk_U ?_
 refine go_ ?_
 refine ch_n fun hU => ?_
 refine sr_ 8 40 hU ?_
 refine go_ ?_
 refine c0_ rfl rfl (r_convB und9 und82 und5) rfl rfl ?_
 refine c0_ rfl rfl (.build (r := [.val (.int .i64 12), .sl 1 (encL e8 (toB s)), .val (.bool false), .val (.slice none 0 0)]) und103 pl103 z103 (by kernel_rfl) rfl) rfl rfl ?_
 refine go_ ?_
 refine ch_n fun hU => ?_
 refine aw_r ?_
 obtain rfl := Option.some.inj hg
 exact fin_ [] ⟨rfl, rfl⟩
theorem w_bytes_Clone (b : (List UInt8)) (r : (List UInt8)) (hg : g_bytes_Clone b = some r) : Fn Tryz.prog 118 0 [.sl 1 (encL e8 b)] [] (fun d' b' => d' = .sl 1 (encL e8 r) ∧ b' = []) := by
 unfold g_bytes_Clone at hg
 refine Fn.of Tryz.func118 rfl rfl rfl fun w0 I ρ0 => ?_
 show awp _ ⟨w0, I, ρ0, 0, 0, 8, none⟩ _ _ _
 refine sr_ 0 8 mk_U ?_
 refine go_ ?_
 refine ch_n fun hU => ?_
 refine awp_seq ?_
 refine awp_cut (ι := Bool) (fun (x4_1 : Bool) => mk [(0, .sl 1 (encL e8 b)), (4, .val (.bool x4_1))] [] 0) (fun (x4_1 : Bool) => g_bytes_Clone.j1 b x4_1 = some r) ?_ ?_
 ·refine awp_region (sys _ _ []) 8 24 hU rfl rfl ?_
  refine go_ ?_
  refine ch_nilE rfl rfl ⟨_, und82⟩ rfl ?_
  intro bz hz2
  rcases bz with _ | _
  ·replace hg := nilC_f hg
   refine ch_n fun hU => ?_
   exact ⟨false, hg, sub_ []⟩
  ·replace hg := nilC_t ((nil_of_enc e8_len (by decide) (hz2 rfl))) hg
   refine ch_n fun hU => ?_
   exact ⟨true, hg, sub_ []⟩
 ·rintro x4_1 hg
  replace hg : g_bytes_Clone.j1 b x4_1 = some r := hg
  show awp _ _ _ _ (mk _ _ _)
  unfold g_bytes_Clone.j1 at hg
  refine cg_ rfl hg (fun h5 hg => ?_) fun h5 hg => ?_
  ·refine awp_seq ?_
   refine awp_region (sys _ _ []) 0 8 mk_U rfl rfl ?_
   refine go_ ?_
   refine ch_n fun hU => ?_
   refine aw_r ?_
   obtain rfl := Option.some.inj hg
   exact fin_ [] ⟨rfl, rfl⟩
  ·refine awp_skip ?_
   repeat first | refine st_ ?_ | refine sn_ ?_
   refine sr_ 0 32 mk_U ?_
   refine c0_ rfl rfl (r_buildFull sl82 z5 (by decide) rfl rfl rfl rfl ck5 (cs := []) .nil rfl (l := ([] : List UInt8)) (f := e8) rfl) rfl rfl ?_
   refine go_ ?_
   obtain ⟨l, hl, hg⟩ := bind_some hg
   refine ch_s (rd := [0]) rfl rfl (r_append sl82 e8_len .row rfl .sl rfl hl rfl) rfl rfl ?_
   refine go_ ?_
   refine ch_n fun hU => ?_
   refine aw_r ?_
   obtain rfl := Option.some.inj hg
   exact fin_ [] ⟨rfl, rfl⟩
theorem w_der_copied.F (rec : (List api_Value) → Option ((List api_Value))) (hrec : ∀ (l : (List api_Value)) (r : (List api_Value)), rec l = some r → Fn Tryz.prog 86 0 [.sl 4 (encL api_Value.enc l)] [] (fun d' b' => d' = .sl 4 (encL api_Value.enc r) ∧ b' = [])) (l : (List api_Value)) (r : (List api_Value)) (hg : g_der_copied.F rec l = some r) : Fn Tryz.prog 86 0 [.sl 4 (encL api_Value.enc l)] [] (fun d' b' => d' = .sl 4 (encL api_Value.enc r) ∧ b' = []) := by
 unfold g_der_copied.F at hg
 refine Fn.of Tryz.func86 rfl rfl rfl fun w0 I ρ0 => ?_
 show awp _ ⟨w0, I, ρ0, 0, 0, 26, none⟩ _ _ _
 refine sr_ 0 8 mk_U ?_
 refine go_ ?_
 refine ch_n fun hU => ?_
 refine sr_ 8 16 hU ?_
 refine go_ ?_
 refine ch_n fun hU => ?_
 refine awp_seq ?_
 refine sr_ 16 40 hU ?_
 refine go_ ?_
 refine ch_n fun hU => ?_
 refine awp_block ?_
 refine lp_ (fun ((x8_1, out_1) : Int × List api_Value) => mk [(3, .row 0), (6, .sl 4 (encL api_Value.enc l)), (7, .val (.int .i64 (l.length : Int))), (8, .val (.int .i64 x8_1))] [(0, .row 103 4 (encL api_Value.enc out_1))] 1) hg (sub_ []) ?_
 rintro ⟨x8_1, out_1⟩ m1 o1 hg hn1
 replace hg : g_der_copied.l1 rec l x8_1 out_1 = some o1 := hg
 show awp _ _ _ _ (mk _ _ _)
 unfold g_der_copied.l1 at hg
 refine sr_ 1 9 mk_U ?_
 refine go_ ?_
 refine ch_n fun hU => ?_
 refine awp_seq ?_
 refine cg_ rfl hg (fun h5 hg => ?_) fun h5 hg => ?_
 ·refine awp_skip ?_
  repeat first | refine st_ ?_ | refine sn_ ?_
  refine awp_seq ?_
  refine awp_block ?_
  refine sr_ 9 41 hU ?_
  obtain ⟨e, he, hg⟩ := bind_some hg
  refine go_ ?_
  refine c0_ rfl rfl (r_loadEA ty103 (enc_cells api_Value.enc_len (getI_at he) (o := 0) (m := 4) (cs := [.int .i64 e.Tag, .sl 1 (encL e8 e.Bytes), .bool e.Nested, .sl 4 (encL api_Value.enc e.Elements)]) (by simp only [api_Value.enc_eq]; rfl) (by decide) rfl) (enc_cells_le api_Value.enc_len (getI_at he) (o := 0) (m := 4) (by decide) rfl)) rfl rfl ?_
  refine go_ ?_
  refine ch_n fun hU => ?_
  refine awp_seq ?_
  refine awp_draw (sys _ _ []) (by kernel_rfl) [0, 1, 3, 0, 8, 31, 31, 127, 255, 511] 41 121 hU rfl rfl (by kernel_rfl) ?_
  refine go_ ?_
  obtain ⟨y, hy, hg⟩ := bind_some hg
  refine ca_ (w_bytes_Clone _ _ hy) ?_
  refine go_ ?_
  obtain ⟨y_2, hy_2, hg⟩ := bind_some hg
  refine ca_ (hrec _ _ hy_2) ?_
  refine go_ ?_
  refine ch_n fun hU => ?_
  refine awp_region (sys _ _ []) 121 161 hU rfl rfl ?_
  refine go_ ?_
  refine c0_ rfl rfl (r_buildFull sl101 z103 (by decide) rfl rfl rfl rfl ck103 (cs := [.int .i64 e.Tag, .sl 1 (encL e8 y), .bool e.Nested, .sl 4 (encL api_Value.enc y_2)]) (.cons .int (.cons .sl (.cons .bool (.cons .sl .nil)))) rfl (l := ([(api_Value.mk e.Tag y e.Nested y_2)] : List api_Value)) (f := api_Value.enc) (by simp only [encL, List.flatMap_cons, List.flatMap_nil, api_Value.enc_eq]; rfl)) rfl rfl ?_
  obtain ⟨l_2, hl_2, hg⟩ := bind_some hg
  refine ch_s (rd := [0, 137]) rfl rfl (r_append sl101 api_Value.enc_len .row rfl .row rfl hl_2 rfl) rfl rfl ?_
  refine go_ ?_
  refine ch_n fun hU => ?_
  refine awp_region (sys _ _ []) 161 177 hU rfl rfl ?_
  refine go_ ?_
  refine ch_n fun hU => ?_
  obtain rfl := Option.some.inj hg
  exact ⟨((W (x8_1 + 1), l_2), m1), Nat.lt_succ_self _, hn1, sub_ [(0, 145)]⟩
 ·refine awp_exit ?_
  repeat first | refine st_ ?_ | refine sn_ ?_
  replace hg := leave hg hn1
  refine sr_ 9 25 hU ?_
  refine go_ ?_
  refine ch_n fun hU => ?_
  refine aw_r ?_
  obtain rfl := Option.some.inj hg
  exact fin_ [] ⟨rfl, rfl⟩
theorem w_der_copied (l : (List api_Value)) (r : (List api_Value)) (hg : g_der_copied l = some r) : Fn Tryz.prog 86 0 [.sl 4 (encL api_Value.enc l)] [] (fun d' b' => d' = .sl 4 (encL api_Value.enc r) ∧ b' = []) :=
 fixT_ind (motive := fun (x : (List api_Value)) (r : (List api_Value)) => Fn Tryz.prog 86 0 [.sl 4 (encL api_Value.enc x)] [] (fun d' b' => d' = .sl 4 (encL api_Value.enc r) ∧ b' = [])) (fun rec hrec x r h => w_der_copied.F _ (fun l r h => hrec l r h) x r h) l r hg
theorem w_der_Of (l : (List api_Value)) (r : api_Value) (hg : g_der_Of l = some r) : Fn Tryz.prog 64 0 [.sl 4 (encL api_Value.enc l)] [] (fun d' b' => d' = .agg (api_Value.dv r) ∧ b' = []) := by
 unfold g_der_Of at hg
 refine Fn.of Tryz.func64 rfl rfl rfl fun w0 I ρ0 => ?_
 show awp _ ⟨w0, I, ρ0, 0, 0, 6, none⟩ _ _ _
 refine sr_ 0 8 mk_U ?_
 refine go_ ?_
 refine ch_n fun hU => ?_
 refine sr_ 8 40 hU ?_
 refine go_ ?_
 obtain ⟨y, hy, hg⟩ := bind_some hg
 refine ca_ (w_der_copied _ _ hy) ?_
 refine c0_ rfl rfl (.build (r := [.val (.int .i64 48), .val (.slice none 0 0), .val (.bool true), .sl 4 (encL api_Value.enc y)]) und103 pl103 z103 (by kernel_rfl) rfl) rfl rfl ?_
 refine go_ ?_
 refine ch_n fun hU => ?_
 refine aw_r ?_
 obtain rfl := Option.some.inj hg
 exact fin_ [] ⟨rfl, rfl⟩
end Go.Proofs.YtmbhoimeiahbaaaGreat
