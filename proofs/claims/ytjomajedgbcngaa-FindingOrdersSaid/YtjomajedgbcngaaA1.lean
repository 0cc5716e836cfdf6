import Derived.Test.YtjomajedgbcngaaT1
set_option linter.unusedVariables false
set_option linter.unusedSimpArgs false
set_option maxRecDepth 100000
set_option maxHeartbeats 1600000
namespace Go.Proofs.Ytjomajedgbcngaa
open Go.RowKit
theorem M1 (l : (List Int)) (r : Bool) (hg : Gr l = some r) : Fn Try.prog 6 0 [.sl 1 (Az eI l)] [] (fun d' b' => d' = .val (.bool r) /\ b' = []) := by
 unfold Gr at hg
 refine Fn.of Try.func6 rfl rfl rfl fun w0 I ρ0 => ?_
 show Ci _ ⟨w0, I, ρ0, 0, 0, 6⟩ _ _ _
 refine Bn 0 8 Bg ?_
 refine Al ?_
 refine Ai fun hU => ?_
 refine Bn 8 40 hU ?_
 refine Al ?_
 refine Ai fun hU => ?_
 refine Bj ?_
 obtain rfl := oi_ hg
 exact Bi [] ⟨rfl, rfl⟩
theorem Fe (s : ByteArray) (r : Bool) (hg : Br s = some r) : Fn Try.prog 48 0 [.val (.string s)] [] (fun d' b' => d' = .val (.bool r) /\ b' = []) := by
 unfold Br at hg
 refine Fn.of Try.func48 rfl rfl rfl fun w0 I ρ0 => ?_
 show Ci _ ⟨w0, I, ρ0, 0, 0, 27⟩ _ _ _
 refine Bn 0 8 Bg ?_
 refine Al ?_
 refine Ai fun hU => ?_
 refine Ah ?_
 refine Bn 8 40 hU ?_
 refine Al ?_
 refine Ca rfl rfl (gH Vw mV iU) rfl rfl ?_
 refine Al ?_
 refine Ai fun hU => ?_
 refine A4 ?_
 refine Ll (fun (x8_1 : Int) => mk [(0, .val (.string s)), (6, .sl 1 (Az e8 (Hk s))), (7, .val (.int .i64 ((Hk s).length : Int))), (8, .val (.int .i64 x8_1))] [] 0) hg (Ba []) ?_
 rintro x8_1 m1 o1 hg hn1
 replace hg : Br.l1 s x8_1 = some o1 := hg
 show Ci _ _ _ _ (mk _ _ _)
 unfold Br.l1 at hg
 refine Bn 0 8 Bg ?_
 refine Al ?_
 refine Ai fun hU => ?_
 refine Ah ?_
 refine C4 rfl hg (fun h4 hg => ?_) fun h4 hg => ?_
 ·refine Aq ?_
  repeat first | refine Cw ?_ | refine Cz ?_
  refine Ah ?_
  refine A4 ?_
  refine Bn 8 32 hU ?_
  obtain ⟨e, he, hg⟩ := Ac hg
  refine Al ?_
  refine Ca rfl rfl (Ch qL (D6 dH (Ao he) (o := 0) (c := .int .u8 (e.toNat : Int)) rfl rfl)) rfl rfl ?_
  refine Al ?_
  refine Ai fun hU => ?_
  refine By (ι := Bool) (fun (x17_2 : Bool) => mk [(0, .val (.string s)), (6, .sl 1 (Az e8 (Hk s))), (7, .val (.int .i64 ((Hk s).length : Int))), (8, .val (.int .i64 x8_1)), (17, .val (.bool x17_2))] [] 0) (fun (x17_2 : Bool) => Br.j2 x8_1 x17_2 = some o1) ?_ ?_
  ·refine Ad (Bo _ _ []) 32 80 hU rfl rfl ?_
   refine Al ?_
   rcases Ea hg with ⟨h6, hg⟩ | ⟨h6, hg⟩
   ·refine Al ?_
    refine Ai fun hU => ?_
    exact ⟨true, hg, Ba []⟩
   ·refine Al ?_
    refine Ai fun hU => ?_
    exact ⟨decide (126 < (e.toNat : Int)), hg, Ba []⟩
  ·rintro x17_2 hg
   replace hg : Br.j2 x8_1 x17_2 = some o1 := hg
   show Ci _ _ _ _ (mk _ _ _)
   unfold Br.j2 at hg
   refine C4 rfl hg (fun h9 hg => ?_) fun h9 hg => ?_
   ·refine Ah ?_
    refine Ad (Bo _ _ []) 0 8 Bg rfl rfl ?_
    refine Al ?_
    refine Ai fun hU => ?_
    refine Bj ?_
    replace hg := C3 hg hn1
    obtain rfl := oi_ hg
    exact Bi [] ⟨rfl, rfl⟩
   ·refine Aq ?_
    repeat first | refine Cw ?_ | refine Cz ?_
    refine Ad (Bo _ _ []) 0 16 Bg rfl rfl ?_
    refine Al ?_
    refine Ai fun hU => ?_
    obtain rfl := oi_ hg
    exact ⟨(W (x8_1 + 1), m1), Nat.lt_succ_self _, hn1, Ba []⟩
 ·refine Cb ?_
  repeat first | refine Cw ?_ | refine Cz ?_
  replace hg := C3 hg hn1
  refine Bn 8 80 hU ?_
  refine Al ?_
  refine Ca rfl rfl (S3 Vw) rfl rfl ?_
  refine Al ?_
  rcases Ea hg with ⟨h12, hg⟩ | ⟨h12, hg⟩
  ·refine Al ?_
   refine Ca (B7 rfl rfl h12) rfl (S3 Vw) rfl rfl ?_
   refine Al ?_
   refine Ai fun hU => ?_
   refine Bj ?_
   obtain rfl := oi_ hg
   exact Bi [] ⟨rfl, rfl⟩
  ·refine Al ?_
   refine Ai fun hU => ?_
   refine Bj ?_
   obtain rfl := oi_ hg
   exact Bi [] ⟨rfl, rfl⟩
theorem Th  (r : (List Bu)) (hg : Kl = some r) : Fn Try.prog 96 0 [] [] (fun d' b' => d' = .agg [.val (.string ((r[0]!).name)), .val (.int .i64 ((r[0]!).kind)), .val (.int .i64 ((r[0]!).way)), .sl 1 (Az eI ((r[0]!).sizes)), .sl 1 (Az eI ((r[0]!).strengths)), .val (.string ((r[1]!).name)), .val (.int .i64 ((r[1]!).kind)), .val (.int .i64 ((r[1]!).way)), .sl 1 (Az eI ((r[1]!).sizes)), .sl 1 (Az eI ((r[1]!).strengths)), .val (.string ((r[2]!).name)), .val (.int .i64 ((r[2]!).kind)), .val (.int .i64 ((r[2]!).way)), .sl 1 (Az eI ((r[2]!).sizes)), .sl 1 (Az eI ((r[2]!).strengths)), .val (.string ((r[3]!).name)), .val (.int .i64 ((r[3]!).kind)), .val (.int .i64 ((r[3]!).way)), .sl 1 (Az eI ((r[3]!).sizes)), .sl 1 (Az eI ((r[3]!).strengths)), .val (.string ((r[4]!).name)), .val (.int .i64 ((r[4]!).kind)), .val (.int .i64 ((r[4]!).way)), .sl 1 (Az eI ((r[4]!).sizes)), .sl 1 (Az eI ((r[4]!).strengths)), .val (.string ((r[5]!).name)), .val (.int .i64 ((r[5]!).kind)), .val (.int .i64 ((r[5]!).way)), .sl 1 (Az eI ((r[5]!).sizes)), .sl 1 (Az eI ((r[5]!).strengths)), .val (.string ((r[6]!).name)), .val (.int .i64 ((r[6]!).kind)), .val (.int .i64 ((r[6]!).way)), .sl 1 (Az eI ((r[6]!).sizes)), .sl 1 (Az eI ((r[6]!).strengths)), .val (.string ((r[7]!).name)), .val (.int .i64 ((r[7]!).kind)), .val (.int .i64 ((r[7]!).way)), .sl 1 (Az eI ((r[7]!).sizes)), .sl 1 (Az eI ((r[7]!).strengths)), .val (.string ((r[8]!).name)), .val (.int .i64 ((r[8]!).kind)), .val (.int .i64 ((r[8]!).way)), .sl 1 (Az eI ((r[8]!).sizes)), .sl 1 (Az eI ((r[8]!).strengths)), .val (.string ((r[9]!).name)), .val (.int .i64 ((r[9]!).kind)), .val (.int .i64 ((r[9]!).way)), .sl 1 (Az eI ((r[9]!).sizes)), .sl 1 (Az eI ((r[9]!).strengths)), .val (.string ((r[10]!).name)), .val (.int .i64 ((r[10]!).kind)), .val (.int .i64 ((r[10]!).way)), .sl 1 (Az eI ((r[10]!).sizes)), .sl 1 (Az eI ((r[10]!).strengths)), .val (.string ((r[11]!).name)), .val (.int .i64 ((r[11]!).kind)), .val (.int .i64 ((r[11]!).way)), .sl 1 (Az eI ((r[11]!).sizes)), .sl 1 (Az eI ((r[11]!).strengths)), .val (.string ((r[12]!).name)), .val (.int .i64 ((r[12]!).kind)), .val (.int .i64 ((r[12]!).way)), .sl 1 (Az eI ((r[12]!).sizes)), .sl 1 (Az eI ((r[12]!).strengths)), .val (.string ((r[13]!).name)), .val (.int .i64 ((r[13]!).kind)), .val (.int .i64 ((r[13]!).way)), .sl 1 (Az eI ((r[13]!).sizes)), .sl 1 (Az eI ((r[13]!).strengths)), .val (.string ((r[14]!).name)), .val (.int .i64 ((r[14]!).kind)), .val (.int .i64 ((r[14]!).way)), .sl 1 (Az eI ((r[14]!).sizes)), .sl 1 (Az eI ((r[14]!).strengths)), .val (.string ((r[15]!).name)), .val (.int .i64 ((r[15]!).kind)), .val (.int .i64 ((r[15]!).way)), .sl 1 (Az eI ((r[15]!).sizes)), .sl 1 (Az eI ((r[15]!).strengths)), .val (.string ((r[16]!).name)), .val (.int .i64 ((r[16]!).kind)), .val (.int .i64 ((r[16]!).way)), .sl 1 (Az eI ((r[16]!).sizes)), .sl 1 (Az eI ((r[16]!).strengths)), .val (.string ((r[17]!).name)), .val (.int .i64 ((r[17]!).kind)), .val (.int .i64 ((r[17]!).way)), .sl 1 (Az eI ((r[17]!).sizes)), .sl 1 (Az eI ((r[17]!).strengths)), .val (.string ((r[18]!).name)), .val (.int .i64 ((r[18]!).kind)), .val (.int .i64 ((r[18]!).way)), .sl 1 (Az eI ((r[18]!).sizes)), .sl 1 (Az eI ((r[18]!).strengths)), .val (.string ((r[19]!).name)), .val (.int .i64 ((r[19]!).kind)), .val (.int .i64 ((r[19]!).way)), .sl 1 (Az eI ((r[19]!).sizes)), .sl 1 (Az eI ((r[19]!).strengths)), .val (.string ((r[20]!).name)), .val (.int .i64 ((r[20]!).kind)), .val (.int .i64 ((r[20]!).way)), .sl 1 (Az eI ((r[20]!).sizes)), .sl 1 (Az eI ((r[20]!).strengths)), .val (.string ((r[21]!).name)), .val (.int .i64 ((r[21]!).kind)), .val (.int .i64 ((r[21]!).way)), .sl 1 (Az eI ((r[21]!).sizes)), .sl 1 (Az eI ((r[21]!).strengths)), .val (.string ((r[22]!).name)), .val (.int .i64 ((r[22]!).kind)), .val (.int .i64 ((r[22]!).way)), .sl 1 (Az eI ((r[22]!).sizes)), .sl 1 (Az eI ((r[22]!).strengths))] /\ b' = []) := by
 unfold Kl at hg
 refine Fn.of Try.func96 rfl rfl rfl fun w0 I ρ0 => ?_
 show Ci _ ⟨w0, I, ρ0, 0, 0, 46⟩ _ _ _
 refine Bn 0 8 Bg ?_
 refine Al ?_
 refine Ai fun hU => ?_
 refine Bn 8 376 hU ?_
 refine Ca rfl rfl (Bb E7 z3 (by decide) rfl rfl rfl rfl Ju (cs := [.int .i64 18]) (.cons .int .nil) rfl (l := ([18] : List Int)) (f := eI) rfl) rfl rfl ?_
 refine Ca rfl rfl (.build (r := [.val (.string (⟨#[109, 100, 53]⟩ : ByteArray)), .val (.int .i64 1), .val (.int .i64 0), .val (.slice none 0 0), .row 8]) Gy K1 Si (by kernel_rfl) rfl) rfl rfl ?_
 refine Ca rfl rfl (Bb E7 z3 (by decide) rfl rfl rfl rfl Ju (cs := [.int .i64 60]) (.cons .int .nil) rfl (l := ([60] : List Int)) (f := eI) rfl) rfl rfl ?_
 refine Ca rfl rfl (.build (r := [.val (.string (⟨#[115, 104, 97, 49]⟩ : ByteArray)), .val (.int .i64 1), .val (.int .i64 0), .val (.slice none 0 0), .row 24]) Gy K1 Si (by kernel_rfl) rfl) rfl rfl ?_
 refine Ca rfl rfl (Bb E7 z3 (by decide) rfl rfl rfl rfl Ju (cs := [.int .i64 128]) (.cons .int .nil) rfl (l := ([128] : List Int)) (f := eI) rfl) rfl rfl ?_
 refine Ca rfl rfl (.build (r := [.val (.string (⟨#[115, 104, 97, 50, 53, 54]⟩ : ByteArray)), .val (.int .i64 1), .val (.int .i64 0), .val (.slice none 0 0), .row 40]) Gy K1 Si (by kernel_rfl) rfl) rfl rfl ?_
 refine Ca rfl rfl (Bb E7 z3 (by decide) rfl rfl rfl rfl Ju (cs := [.int .i64 192]) (.cons .int .nil) rfl (l := ([192] : List Int)) (f := eI) rfl) rfl rfl ?_
 refine Ca rfl rfl (.build (r := [.val (.string (⟨#[115, 104, 97, 51, 56, 52]⟩ : ByteArray)), .val (.int .i64 1), .val (.int .i64 0), .val (.slice none 0 0), .row 56]) Gy K1 Si (by kernel_rfl) rfl) rfl rfl ?_
 refine Ca rfl rfl (.build (r := [.val (.string (⟨#[114, 115, 97]⟩ : ByteArray)), .val (.int .i64 2), .val (.int .i64 1), .val (.slice none 0 0), .val (.slice none 0 0)]) Gy K1 Si (by kernel_rfl) rfl) rfl rfl ?_
 refine Ca rfl rfl (.build (r := [.val (.string (⟨#[100, 115, 97]⟩ : ByteArray)), .val (.int .i64 2), .val (.int .i64 1), .val (.slice none 0 0), .val (.slice none 0 0)]) Gy K1 Si (by kernel_rfl) rfl) rfl rfl ?_
 refine Ca rfl rfl (.build (r := [.val (.string (⟨#[101, 99, 100, 115, 97]⟩ : ByteArray)), .val (.int .i64 2), .val (.int .i64 2), .val (.slice none 0 0), .val (.slice none 0 0)]) Gy K1 Si (by kernel_rfl) rfl) rfl rfl ?_
 refine Ca rfl rfl (Bb E7 z3 (by decide) rfl rfl rfl rfl Ju (cs := [.int .i64 128]) (.cons .int .nil) rfl (l := ([128] : List Int)) (f := eI) rfl) rfl rfl ?_
 refine Ca rfl rfl (.build (r := [.val (.string (⟨#[101, 100, 50, 53, 53, 49, 57]⟩ : ByteArray)), .val (.int .i64 2), .val (.int .i64 0), .val (.slice none 0 0), .row 96]) Gy K1 Si (by kernel_rfl) rfl) rfl rfl ?_
 refine Ca rfl rfl (Bb E7 z3 (by decide) rfl rfl rfl rfl Ju (cs := [.int .i64 44, .int .i64 65, .int .i64 87]) (.cons .int (.cons .int (.cons .int .nil))) rfl (l := ([44, 65, 87] : List Int)) (f := eI) rfl) rfl rfl ?_
 refine Ca rfl rfl (Bb E7 z3 (by decide) rfl rfl rfl rfl Ju (cs := [.int .i64 128, .int .i64 192, .int .i64 256]) (.cons .int (.cons .int (.cons .int .nil))) rfl (l := ([128, 192, 256] : List Int)) (f := eI) rfl) rfl rfl ?_
 refine Ca rfl rfl (.build (r := [.val (.string (⟨#[109, 108, 100, 115, 97]⟩ : ByteArray)), .val (.int .i64 2), .val (.int .i64 3), .row 112, .row 120]) Gy K1 Si (by kernel_rfl) rfl) rfl rfl ?_
 refine Ca rfl rfl (.build (r := [.val (.string (⟨#[114, 115, 97, 107, 120]⟩ : ByteArray)), .val (.int .i64 3), .val (.int .i64 1), .val (.slice none 0 0), .val (.slice none 0 0)]) Gy K1 Si (by kernel_rfl) rfl) rfl rfl ?_
 refine Ca rfl rfl (.build (r := [.val (.string (⟨#[100, 104, 101]⟩ : ByteArray)), .val (.int .i64 3), .val (.int .i64 1), .val (.slice none 0 0), .val (.slice none 0 0)]) Gy K1 Si (by kernel_rfl) rfl) rfl rfl ?_
 refine Ca rfl rfl (.build (r := [.val (.string (⟨#[101, 99, 100, 104, 101]⟩ : ByteArray)), .val (.int .i64 3), .val (.int .i64 2), .val (.slice none 0 0), .val (.slice none 0 0)]) Gy K1 Si (by kernel_rfl) rfl) rfl rfl ?_
 refine Ca rfl rfl (Bb E7 z3 (by decide) rfl rfl rfl rfl Ju (cs := [.int .i64 512, .int .i64 768, .int .i64 1024]) (.cons .int (.cons .int (.cons .int .nil))) rfl (l := ([512, 768, 1024] : List Int)) (f := eI) rfl) rfl rfl ?_
 refine Ca rfl rfl (Bb E7 z3 (by decide) rfl rfl rfl rfl Ju (cs := [.int .i64 128, .int .i64 192, .int .i64 256]) (.cons .int (.cons .int (.cons .int .nil))) rfl (l := ([128, 192, 256] : List Int)) (f := eI) rfl) rfl rfl ?_
 refine Ca rfl rfl (.build (r := [.val (.string (⟨#[109, 108, 107, 101, 109]⟩ : ByteArray)), .val (.int .i64 3), .val (.int .i64 3), .row 160, .row 168]) Gy K1 Si (by kernel_rfl) rfl) rfl rfl ?_
 refine Ca rfl rfl (Bb E7 z3 (by decide) rfl rfl rfl rfl Ju (cs := [.int .i64 40, .int .i64 128]) (.cons .int (.cons .int .nil)) rfl (l := ([40, 128] : List Int)) (f := eI) rfl) rfl rfl ?_
 refine Ca rfl rfl (Bb E7 z3 (by decide) rfl rfl rfl rfl Ju (cs := [.int .i64 40, .int .i64 60]) (.cons .int (.cons .int .nil)) rfl (l := ([40, 60] : List Int)) (f := eI) rfl) rfl rfl ?_
 refine Ca rfl rfl (.build (r := [.val (.string (⟨#[114, 99, 52]⟩ : ByteArray)), .val (.int .i64 4), .val (.int .i64 3), .row 184, .row 192]) Gy K1 Si (by kernel_rfl) rfl) rfl rfl ?_
 refine Ca rfl rfl (Bb E7 z3 (by decide) rfl rfl rfl rfl Ju (cs := [.int .i64 112, .int .i64 168]) (.cons .int (.cons .int .nil)) rfl (l := ([112, 168] : List Int)) (f := eI) rfl) rfl rfl ?_
 refine Ca rfl rfl (Bb E7 z3 (by decide) rfl rfl rfl rfl Ju (cs := [.int .i64 80, .int .i64 112]) (.cons .int (.cons .int .nil)) rfl (l := ([80, 112] : List Int)) (f := eI) rfl) rfl rfl ?_
 refine Ca rfl rfl (.build (r := [.val (.string (⟨#[100, 101, 115, 51]⟩ : ByteArray)), .val (.int .i64 4), .val (.int .i64 3), .row 208, .row 216]) Gy K1 Si (by kernel_rfl) rfl) rfl rfl ?_
 refine Ca rfl rfl (Bb E7 z3 (by decide) rfl rfl rfl rfl Ju (cs := [.int .i64 128, .int .i64 256]) (.cons .int (.cons .int .nil)) rfl (l := ([128, 256] : List Int)) (f := eI) rfl) rfl rfl ?_
 refine Ca rfl rfl (Bb E7 z3 (by decide) rfl rfl rfl rfl Ju (cs := [.int .i64 128, .int .i64 256]) (.cons .int (.cons .int .nil)) rfl (l := ([128, 256] : List Int)) (f := eI) rfl) rfl rfl ?_
 refine Ca rfl rfl (.build (r := [.val (.string (⟨#[97, 101, 115, 99, 98, 99]⟩ : ByteArray)), .val (.int .i64 4), .val (.int .i64 3), .row 232, .row 240]) Gy K1 Si (by kernel_rfl) rfl) rfl rfl ?_
 refine Ca rfl rfl (Bb E7 z3 (by decide) rfl rfl rfl rfl Ju (cs := [.int .i64 128, .int .i64 256]) (.cons .int (.cons .int .nil)) rfl (l := ([128, 256] : List Int)) (f := eI) rfl) rfl rfl ?_
 refine Ca rfl rfl (Bb E7 z3 (by decide) rfl rfl rfl rfl Ju (cs := [.int .i64 128, .int .i64 256]) (.cons .int (.cons .int .nil)) rfl (l := ([128, 256] : List Int)) (f := eI) rfl) rfl rfl ?_
 refine Ca rfl rfl (.build (r := [.val (.string (⟨#[97, 101, 115, 103, 99, 109]⟩ : ByteArray)), .val (.int .i64 4), .val (.int .i64 3), .row 256, .row 264]) Gy K1 Si (by kernel_rfl) rfl) rfl rfl ?_
 refine Ca rfl rfl (Bb E7 z3 (by decide) rfl rfl rfl rfl Ju (cs := [.int .i64 256]) (.cons .int .nil) rfl (l := ([256] : List Int)) (f := eI) rfl) rfl rfl ?_
 refine Ca rfl rfl (.build (r := [.val (.string (⟨#[99, 104, 97, 99, 104, 97]⟩ : ByteArray)), .val (.int .i64 4), .val (.int .i64 0), .val (.slice none 0 0), .row 280]) Gy K1 Si (by kernel_rfl) rfl) rfl rfl ?_
 refine Ca rfl rfl (Bb E7 z3 (by decide) rfl rfl rfl rfl Ju (cs := [.int .i64 64]) (.cons .int .nil) rfl (l := ([64] : List Int)) (f := eI) rfl) rfl rfl ?_
 refine Ca rfl rfl (.build (r := [.val (.string (⟨#[104, 109, 97, 99, 109, 100, 53]⟩ : ByteArray)), .val (.int .i64 5), .val (.int .i64 0), .val (.slice none 0 0), .row 296]) Gy K1 Si (by kernel_rfl) rfl) rfl rfl ?_
 refine Ca rfl rfl (Bb E7 z3 (by decide) rfl rfl rfl rfl Ju (cs := [.int .i64 80]) (.cons .int .nil) rfl (l := ([80] : List Int)) (f := eI) rfl) rfl rfl ?_
 refine Ca rfl rfl (.build (r := [.val (.string (⟨#[104, 109, 97, 99, 115, 104, 97, 49]⟩ : ByteArray)), .val (.int .i64 5), .val (.int .i64 0), .val (.slice none 0 0), .row 312]) Gy K1 Si (by kernel_rfl) rfl) rfl rfl ?_
 refine Ca rfl rfl (Bb E7 z3 (by decide) rfl rfl rfl rfl Ju (cs := [.int .i64 128]) (.cons .int .nil) rfl (l := ([128] : List Int)) (f := eI) rfl) rfl rfl ?_
 refine Ca rfl rfl (.build (r := [.val (.string (⟨#[104, 109, 97, 99, 115, 104, 97, 50, 53, 54]⟩ : ByteArray)), .val (.int .i64 5), .val (.int .i64 0), .val (.slice none 0 0), .row 328]) Gy K1 Si (by kernel_rfl) rfl) rfl rfl ?_
 refine Ca rfl rfl (Bb E7 z3 (by decide) rfl rfl rfl rfl Ju (cs := [.int .i64 256]) (.cons .int .nil) rfl (l := ([256] : List Int)) (f := eI) rfl) rfl rfl ?_
 refine Ca rfl rfl (.build (r := [.val (.string (⟨#[97, 101, 97, 100]⟩ : ByteArray)), .val (.int .i64 5), .val (.int .i64 0), .val (.slice none 0 0), .row 344]) Gy K1 Si (by kernel_rfl) rfl) rfl rfl ?_
 refine Ca rfl rfl (.buildArr (sz := 5) (r := [.val (.string (⟨#[]⟩ : ByteArray)), .val (.int .i64 0), .val (.int .i64 0), .val (.slice none 0 0), .val (.slice none 0 0), .val (.string (⟨#[109, 100, 53]⟩ : ByteArray)), .val (.int .i64 1), .val (.int .i64 0), .val (.slice none 0 0), .row 8, .val (.string (⟨#[115, 104, 97, 49]⟩ : ByteArray)), .val (.int .i64 1), .val (.int .i64 0), .val (.slice none 0 0), .row 24, .val (.string (⟨#[115, 104, 97, 50, 53, 54]⟩ : ByteArray)), .val (.int .i64 1), .val (.int .i64 0), .val (.slice none 0 0), .row 40, .val (.string (⟨#[115, 104, 97, 51, 56, 52]⟩ : ByteArray)), .val (.int .i64 1), .val (.int .i64 0), .val (.slice none 0 0), .row 56, .val (.string (⟨#[114, 115, 97]⟩ : ByteArray)), .val (.int .i64 2), .val (.int .i64 1), .val (.slice none 0 0), .val (.slice none 0 0), .val (.string (⟨#[100, 115, 97]⟩ : ByteArray)), .val (.int .i64 2), .val (.int .i64 1), .val (.slice none 0 0), .val (.slice none 0 0), .val (.string (⟨#[101, 99, 100, 115, 97]⟩ : ByteArray)), .val (.int .i64 2), .val (.int .i64 2), .val (.slice none 0 0), .val (.slice none 0 0), .val (.string (⟨#[101, 100, 50, 53, 53, 49, 57]⟩ : ByteArray)), .val (.int .i64 2), .val (.int .i64 0), .val (.slice none 0 0), .row 96, .val (.string (⟨#[109, 108, 100, 115, 97]⟩ : ByteArray)), .val (.int .i64 2), .val (.int .i64 3), .row 112, .row 120, .val (.string (⟨#[114, 115, 97, 107, 120]⟩ : ByteArray)), .val (.int .i64 3), .val (.int .i64 1), .val (.slice none 0 0), .val (.slice none 0 0), .val (.string (⟨#[100, 104, 101]⟩ : ByteArray)), .val (.int .i64 3), .val (.int .i64 1), .val (.slice none 0 0), .val (.slice none 0 0), .val (.string (⟨#[101, 99, 100, 104, 101]⟩ : ByteArray)), .val (.int .i64 3), .val (.int .i64 2), .val (.slice none 0 0), .val (.slice none 0 0), .val (.string (⟨#[109, 108, 107, 101, 109]⟩ : ByteArray)), .val (.int .i64 3), .val (.int .i64 3), .row 160, .row 168, .val (.string (⟨#[114, 99, 52]⟩ : ByteArray)), .val (.int .i64 4), .val (.int .i64 3), .row 184, .row 192, .val (.string (⟨#[100, 101, 115, 51]⟩ : ByteArray)), .val (.int .i64 4), .val (.int .i64 3), .row 208, .row 216, .val (.string (⟨#[97, 101, 115, 99, 98, 99]⟩ : ByteArray)), .val (.int .i64 4), .val (.int .i64 3), .row 232, .row 240, .val (.string (⟨#[97, 101, 115, 103, 99, 109]⟩ : ByteArray)), .val (.int .i64 4), .val (.int .i64 3), .row 256, .row 264, .val (.string (⟨#[99, 104, 97, 99, 104, 97]⟩ : ByteArray)), .val (.int .i64 4), .val (.int .i64 0), .val (.slice none 0 0), .row 280, .val (.string (⟨#[104, 109, 97, 99, 109, 100, 53]⟩ : ByteArray)), .val (.int .i64 5), .val (.int .i64 0), .val (.slice none 0 0), .row 296, .val (.string (⟨#[104, 109, 97, 99, 115, 104, 97, 49]⟩ : ByteArray)), .val (.int .i64 5), .val (.int .i64 0), .val (.slice none 0 0), .row 312, .val (.string (⟨#[104, 109, 97, 99, 115, 104, 97, 50, 53, 54]⟩ : ByteArray)), .val (.int .i64 5), .val (.int .i64 0), .val (.slice none 0 0), .row 328, .val (.string (⟨#[97, 101, 97, 100]⟩ : ByteArray)), .val (.int .i64 5), .val (.int .i64 0), .val (.slice none 0 0), .row 344]) cJ (by kernel_rfl) nA (by kernel_rfl) rfl) rfl rfl ?_
 refine Al ?_
 refine Ai fun hU => ?_
 refine Bj ?_
 obtain rfl := oi_ hg
 exact Bi [] ⟨rfl, rfl⟩
theorem P9 (alg : Int) (r : Bu × Bool) (hg : Dn alg = some r) : Fn Try.prog 81 0 [.val (.int .i64 alg)] [] (fun d' b' => d' = .tup [.agg (Bu.dv r.1), .val (.bool r.2)] /\ b' = []) := by
 unfold Dn at hg
 refine Fn.of Try.func81 rfl rfl rfl fun w0 I ρ0 => ?_
 show Ci _ ⟨w0, I, ρ0, 0, 0, 14⟩ _ _ _
 refine Bn 0 16 Bg ?_
 refine Al ?_
 refine Ai fun hU => ?_
 refine Ah ?_
 refine By (ι := Bool) (fun (x9_1 : Bool) => mk [(0, .val (.int .i64 alg)), (2, .ptr 0 0), (9, .val (.bool x9_1))] [(0, .box [.val (.string (⟨#[]⟩ : ByteArray)), .val (.int .i64 0), .val (.int .i64 0), .val (.slice none 0 0), .val (.slice none 0 0)] 99)] 1) (fun (x9_1 : Bool) => Dn.j1 alg x9_1 = some r) ?_ ?_
 ·refine Ad (Bo _ _ []) 16 64 hU rfl rfl ?_
  refine Al ?_
  rcases Ea hg with ⟨h2, hg⟩ | ⟨h2, hg⟩
  ·refine Al ?_
   refine Ai fun hU => ?_
   exact ⟨true, hg, Ba [(0, 0)]⟩
  ·refine Al ?_
   refine Ai fun hU => ?_
   exact ⟨decide (22 < alg), hg, Ba [(0, 0)]⟩
 ·rintro x9_1 hg
  replace hg : Dn.j1 alg x9_1 = some r := hg
  show Ci _ _ _ _ (mk _ _ _)
  unfold Dn.j1 at hg
  refine C4 rfl hg (fun h5 hg => ?_) fun h5 hg => ?_
  ·refine Ah ?_
   refine Ad (Bo _ _ []) 1 25 Bg rfl rfl ?_
   refine Ca rfl rfl (.build (r := [.val (.string (⟨#[]⟩ : ByteArray)), .val (.int .i64 0), .val (.int .i64 0), .val (.slice none 0 0), .val (.slice none 0 0)]) Gy K1 Si (by kernel_rfl) rfl) rfl rfl ?_
   refine Al ?_
   refine Ai fun hU => ?_
   refine Bj ?_
   obtain rfl := oi_ hg
   exact Bi [] ⟨rfl, rfl⟩
  ·refine Aq ?_
   repeat first | refine Cw ?_ | refine Cz ?_
   refine Bn 1 41 Bg ?_
   obtain ⟨y, hy, hg⟩ := Ac hg
   refine E5 (Th _ hy) ?_
   refine Al ?_
   obtain ⟨e, he, hg⟩ := Ac hg
   refine Ca rfl rfl (Uj (f := Bu.enc) (L := (mS 23 y)) cJ nM Bu.enc_len rfl rfl he (d2 := [.val (.string e.name), .val (.int .i64 e.kind), .val (.int .i64 e.way), .sl 1 (Az eI e.sizes), .sl 1 (Az eI e.strengths)]) rfl) rfl rfl ?_
   refine Al ?_
   refine Ai fun hU => ?_
   refine Bj ?_
   obtain rfl := oi_ hg
   exact Bi [] ⟨rfl, rfl⟩
theorem Qe (bits : Int) (r : Int) (hg : Cs bits = some r) : Fn Try.prog 93 0 [.val (.int .i64 bits)] [] (fun d' b' => d' = .val (.int .i64 r) /\ b' = []) := by
 unfold Cs at hg
 refine Fn.of Try.func93 rfl rfl rfl fun w0 I ρ0 => ?_
 show Ci _ ⟨w0, I, ρ0, 0, 0, 21⟩ _ _ _
 refine Bn 0 8 Bg ?_
 refine Al ?_
 refine Ai fun hU => ?_
 refine Ah ?_
 refine Bn 8 64 hU ?_
 refine Ca rfl rfl (.buildArr (sz := 1) (r := [.val (.int .i64 1024), .val (.int .i64 56)]) Pr (by kernel_rfl) Zc (by kernel_rfl) rfl) rfl rfl ?_
 refine Ca rfl rfl (.buildArr (sz := 1) (r := [.val (.int .i64 2048), .val (.int .i64 80)]) Pr (by kernel_rfl) Zc (by kernel_rfl) rfl) rfl rfl ?_
 refine Ca rfl rfl (.buildArr (sz := 1) (r := [.val (.int .i64 3072), .val (.int .i64 112)]) Pr (by kernel_rfl) Zc (by kernel_rfl) rfl) rfl rfl ?_
 refine Ca rfl rfl (.buildArr (sz := 1) (r := [.val (.int .i64 7680), .val (.int .i64 128)]) Pr (by kernel_rfl) Zc (by kernel_rfl) rfl) rfl rfl ?_
 refine Ca rfl rfl (.buildArr (sz := 1) (r := [.val (.int .i64 15360), .val (.int .i64 192)]) Pr (by kernel_rfl) Zc (by kernel_rfl) rfl) rfl rfl ?_
 refine Ca rfl rfl (.buildArr (sz := 2) (r := [.val (.int .i64 1024), .val (.int .i64 56), .val (.int .i64 2048), .val (.int .i64 80), .val (.int .i64 3072), .val (.int .i64 112), .val (.int .i64 7680), .val (.int .i64 128), .val (.int .i64 15360), .val (.int .i64 192)]) dI (by kernel_rfl) oQ (by kernel_rfl) rfl) rfl rfl ?_
 refine Al ?_
 refine Ai fun hU => ?_
 refine A4 ?_
 refine Ll (fun (x11_1 : Int) => mk [(0, .val (.int .i64 bits)), (10, .agg [.val (.int .i64 1024), .val (.int .i64 56), .val (.int .i64 2048), .val (.int .i64 80), .val (.int .i64 3072), .val (.int .i64 112), .val (.int .i64 7680), .val (.int .i64 128), .val (.int .i64 15360), .val (.int .i64 192)]), (11, .val (.int .i64 x11_1))] [] 0) hg (Ba []) ?_
 rintro x11_1 m1 o1 hg hn1
 replace hg : Cs.l1 bits x11_1 = some o1 := hg
 show Ci _ _ _ _ (mk _ _ _)
 unfold Cs.l1 at hg
 refine Bn 0 8 Bg ?_
 refine Al ?_
 refine Ai fun hU => ?_
 refine Ah ?_
 refine C4 rfl hg (fun h4 hg => ?_) fun h4 hg => ?_
 ·refine Aq ?_
  repeat first | refine Cw ?_ | refine Cz ?_
  refine Ah ?_
  refine A4 ?_
  refine Bn 8 32 hU ?_
  obtain ⟨e, he, hg⟩ := Ac hg
  refine Ca rfl rfl (Uj (f := (eA 2 eI)) (L := ([([1024, 56] : List Int), ([2048, 80] : List Int), ([3072, 112] : List Int), ([7680, 128] : List Int), ([15360, 192] : List Int)] : List (List Int))) dI gP (iM H0) rfl rfl he (d2 := [.val (.int .i64 (e[0]!)), .val (.int .i64 (e[1]!))]) rfl) rfl rfl ?_
  refine Al ?_
  refine Ai fun hU => ?_
  refine Bn 32 64 hU ?_
  refine Al ?_
  refine Cu (rd := [16]) rfl rfl (.idxA (j := 0) Pr T7 rfl (by decide)) rfl rfl ?_
  refine Al ?_
  refine Ai fun hU => ?_
  refine C4 rfl hg (fun h7 hg => ?_) fun h7 hg => ?_
  ·refine Ah ?_
   refine Ad (Bo _ _ []) 64 88 hU rfl rfl ?_
   refine Cu (rd := [16]) rfl rfl (.idxA (j := 1) Pr T7 rfl (by decide)) rfl rfl ?_
   refine Al ?_
   refine Ai fun hU => ?_
   refine Bj ?_
   replace hg := C3 hg hn1
   obtain rfl := oi_ hg
   exact Bi [] ⟨rfl, rfl⟩
  ·refine Aq ?_
   repeat first | refine Cw ?_ | refine Cz ?_
   refine Ad (Bo _ _ []) 64 80 hU rfl rfl ?_
   refine Al ?_
   refine Ai fun hU => ?_
   obtain rfl := oi_ hg
   exact ⟨(W (x11_1 + 1), m1), Nat.lt_succ_self _, hn1, Ba []⟩
 ·refine Cb ?_
  repeat first | refine Cw ?_ | refine Cz ?_
  replace hg := C3 hg hn1
  refine Bn 8 16 hU ?_
  refine Al ?_
  refine Ai fun hU => ?_
  refine Bj ?_
  obtain rfl := oi_ hg
  exact Bi [] ⟨rfl, rfl⟩
theorem Kv (s : (List Int)) (v : Int) (r : Int) (hg : Bx s v = some r) : Fn Try.prog 95 0 [.sl 1 (Az eI s), .val (.int .i64 v)] [] (fun d' b' => d' = .val (.int .i64 r) /\ b' = []) := by
 unfold Bx at hg
 refine Fn.of Try.func95 rfl rfl rfl fun w0 I ρ0 => ?_
 show Ci _ ⟨w0, I, ρ0, 0, 0, 19⟩ _ _ _
 refine Bn 0 8 Bg ?_
 refine Al ?_
 refine Ai fun hU => ?_
 refine Ah ?_
 refine Bn 8 32 hU ?_
 refine Al ?_
 refine Ai fun hU => ?_
 refine A4 ?_
 refine Ll (fun (x8_1 : Int) => mk [(0, .sl 1 (Az eI s)), (1, .val (.int .i64 v)), (7, .val (.int .i64 (s.length : Int))), (8, .val (.int .i64 x8_1))] [] 0) hg (Ba []) ?_
 rintro x8_1 m1 o1 hg hn1
 replace hg : Bx.l1 s v x8_1 = some o1 := hg
 show Ci _ _ _ _ (mk _ _ _)
 unfold Bx.l1 at hg
 refine Bn 0 8 Bg ?_
 refine Al ?_
 refine Ai fun hU => ?_
 refine Ah ?_
 refine C4 rfl hg (fun h4 hg => ?_) fun h4 hg => ?_
 ·refine Aq ?_
  repeat first | refine Cw ?_ | refine Cz ?_
  refine Ah ?_
  refine A4 ?_
  refine Bn 8 24 hU ?_
  refine Al ?_
  refine Ai fun hU => ?_
  refine Bn 24 72 hU ?_
  refine Al ?_
  obtain ⟨e, he, hg⟩ := Ac hg
  refine Al ?_
  refine Ca rfl rfl (Ch T7 (D6 H0 (Ao he) (o := 0) (c := .int .i64 e) rfl rfl)) rfl rfl ?_
  refine Al ?_
  refine Ai fun hU => ?_
  refine C4 rfl hg (fun h7 hg => ?_) fun h7 hg => ?_
  ·refine Ah ?_
   refine Ad (Bo _ _ []) 72 88 hU rfl rfl ?_
   refine Al ?_
   refine Ai fun hU => ?_
   refine Bj ?_
   replace hg := C3 hg hn1
   obtain rfl := oi_ hg
   exact Bi [] ⟨rfl, rfl⟩
  ·refine Aq ?_
   repeat first | refine Cw ?_ | refine Cz ?_
   refine Ad (Bo _ _ []) 72 88 hU rfl rfl ?_
   refine Al ?_
   refine Ai fun hU => ?_
   obtain rfl := oi_ hg
   exact ⟨(W (x8_1 + 1), m1), Nat.lt_succ_self _, hn1, Ba []⟩
 ·refine Cb ?_
  repeat first | refine Cw ?_ | refine Cz ?_
  replace hg := C3 hg hn1
  refine Bn 8 16 hU ?_
  refine Al ?_
  refine Ai fun hU => ?_
  refine Bj ?_
  obtain rfl := oi_ hg
  exact Bi [] ⟨rfl, rfl⟩
theorem N2 (s : (List Int)) (v : Int) (r : Bool) (hg : Dw s v = some r) : Fn Try.prog 94 0 [.sl 1 (Az eI s), .val (.int .i64 v)] [] (fun d' b' => d' = .val (.bool r) /\ b' = []) := by
 unfold Dw at hg
 refine Fn.of Try.func94 rfl rfl rfl fun w0 I ρ0 => ?_
 show Ci _ ⟨w0, I, ρ0, 0, 0, 9⟩ _ _ _
 refine Bn 0 8 Bg ?_
 refine Al ?_
 refine Ai fun hU => ?_
 refine Bn 8 48 hU ?_
 refine Al ?_
 obtain ⟨y, hy, hg⟩ := Ac hg
 refine E5 (Kv _ _ _ hy) ?_
 refine Al ?_
 refine Ai fun hU => ?_
 refine Bj ?_
 obtain rfl := oi_ hg
 exact Bi [] ⟨rfl, rfl⟩
theorem Pu (u : Bk) (r : Int) (hg : A7 u = some r) : Fn Try.prog 80 0 [.agg [.val (.int .i64 u.Alg), .val (.int .i64 u.Bits)]] [] (fun d' b' => d' = .val (.int .i64 r) /\ b' = []) := by
 unfold A7 at hg
 refine Fn.of Try.func80 rfl rfl rfl fun w0 I ρ0 => ?_
 show Ci _ ⟨w0, I, ρ0, 0, 0, 61⟩ _ _ _
 refine Bn 0 16 Bg ?_
 refine Al ?_
 refine Ai fun hU => ?_
 refine Bn 16 88 hU ?_
 refine Al ?_
 obtain ⟨y, hy, hg⟩ := Ac hg
 refine E5 (P9 _ _ hy) ?_
 refine Al ?_
 refine Ai fun hU => ?_
 refine Ah ?_
 refine Bn 88 104 hU ?_
 refine Al ?_
 refine Ai fun hU => ?_
 refine C4 rfl hg (fun h4 hg => ?_) fun h4 hg => ?_
 ·refine Ah ?_
  refine Ad (Bo _ _ []) 104 112 hU rfl rfl ?_
  refine Al ?_
  refine Ai fun hU => ?_
  refine Bj ?_
  obtain rfl := oi_ hg
  exact Bi [] ⟨rfl, rfl⟩
 ·refine Aq ?_
  repeat first | refine Cw ?_ | refine Cz ?_
  refine Ah ?_
  refine Bn 104 120 hU ?_
  refine Al ?_
  refine Ai fun hU => ?_
  refine A4 ?_
  refine Bn 120 136 hU ?_
  refine Al ?_
  refine Ai fun hU => ?_
  refine C4 rfl hg (fun h8 hg => ?_) fun h8 hg => ?_
  ·refine Ah ?_
   refine Ad (Bo _ _ []) 136 160 hU rfl rfl ?_
   refine Al ?_
   refine Ai fun hU => ?_
   refine C4 rfl hg (fun h10 hg => ?_) fun h10 hg => ?_
   ·refine Ah ?_
    refine Ad (Bo _ _ []) 160 200 hU rfl rfl ?_
    refine Al ?_
    obtain ⟨e, he, hg⟩ := Ac hg
    refine Al ?_
    refine Ca rfl rfl (Ch T7 (D6 H0 (Ao he) (o := 0) (c := .int .i64 e) rfl rfl)) rfl rfl ?_
    refine Al ?_
    refine Ai fun hU => ?_
    refine Bj ?_
    obtain rfl := oi_ hg
    exact Bi [] ⟨rfl, rfl⟩
   ·refine Aq ?_
    repeat first | refine Cw ?_ | refine Cz ?_
    refine Bn 160 168 hU ?_
    refine Al ?_
    refine Ai fun hU => ?_
    refine Bj ?_
    obtain rfl := oi_ hg
    exact Bi [] ⟨rfl, rfl⟩
  ·refine Ah ?_
   refine Ad (Bo _ _ []) 136 152 hU rfl rfl ?_
   refine Al ?_
   refine Ai fun hU => ?_
   refine C4 rfl hg (fun h13 hg => ?_) fun h13 hg => ?_
   ·refine By (ι := Bool) (fun (x34_1 : Bool) => mk [(1, .ptr 0 0), (34, .val (.bool x34_1))] [(0, .box [.val (.int .i64 u.Alg), .val (.int .i64 u.Bits)] 28)] 1) (fun (x34_1 : Bool) => A7.j1 u x34_1 = some r) ?_ ?_
    ·refine Ad (Bo _ _ []) 152 216 hU rfl rfl ?_
     refine Al ?_
     rcases Ea hg with ⟨h14, hg⟩ | ⟨h14, hg⟩
     ·refine Al ?_
      refine Ai fun hU => ?_
      exact ⟨decide (u.Bits <= 16384), hg, Ba [(0, 0)]⟩
     ·refine Al ?_
      refine Ai fun hU => ?_
      exact ⟨false, hg, Ba [(0, 0)]⟩
    ·rintro x34_1 hg
     replace hg : A7.j1 u x34_1 = some r := hg
     show Ci _ _ _ _ (mk _ _ _)
     unfold A7.j1 at hg
     refine C4 rfl hg (fun h17 hg => ?_) fun h17 hg => ?_
     ·refine Ah ?_
      refine Ad (Bo _ _ []) 1 33 Bg rfl rfl ?_
      refine Al ?_
      obtain ⟨y_2, hy_2, hg⟩ := Ac hg
      refine E5 (Qe _ _ hy_2) ?_
      refine Al ?_
      refine Ai fun hU => ?_
      refine Bj ?_
      obtain rfl := oi_ hg
      exact Bi [] ⟨rfl, rfl⟩
     ·refine Aq ?_
      repeat first | refine Cw ?_ | refine Cz ?_
      refine Bn 1 9 Bg ?_
      refine Al ?_
      refine Ai fun hU => ?_
      refine Bj ?_
      obtain rfl := oi_ hg
      exact Bi [] ⟨rfl, rfl⟩
   ·refine Ah ?_
    refine Ad (Bo _ _ []) 152 168 hU rfl rfl ?_
    refine Al ?_
    refine Ai fun hU => ?_
    refine C4 rfl hg (fun h20 hg => ?_) fun h20 hg => ?_
    ·refine Ah ?_
     refine Ad (Bo _ _ []) 168 200 hU rfl rfl ?_
     refine Ca rfl rfl (Bb E7 z3 (by decide) rfl rfl rfl rfl Ju (cs := [.int .i64 160, .int .i64 224, .int .i64 256, .int .i64 384, .int .i64 521]) (.cons .int (.cons .int (.cons .int (.cons .int (.cons .int .nil))))) rfl (l := ([160, 224, 256, 384, 521] : List Int)) (f := eI) rfl) rfl rfl ?_
     refine Al ?_
     obtain ⟨y_3, hy_3, hg⟩ := Ac hg
     refine Hr [168] [] [] true (N2 _ _ _ hy_3) ?_
     refine Ai fun hU => ?_
     refine C4 rfl hg (fun h22 hg => ?_) fun h22 hg => ?_
     ·refine Ah ?_
      refine Ad (Bo _ _ []) 200 232 hU rfl rfl ?_
      refine Al ?_
      obtain ⟨q, hq, hg⟩ := Ac hg
      refine Ca rfl rfl (Qq hq) rfl rfl ?_
      refine Al ?_
      refine Ai fun hU => ?_
      refine Bj ?_
      obtain rfl := oi_ hg
      exact Bi [] ⟨rfl, rfl⟩
     ·refine Aq ?_
      repeat first | refine Cw ?_ | refine Cz ?_
      refine Bn 200 208 hU ?_
      refine Al ?_
      refine Ai fun hU => ?_
      refine Bj ?_
      obtain rfl := oi_ hg
      exact Bi [] ⟨rfl, rfl⟩
    ·refine Ah ?_
     refine Ad (Bo _ _ []) 168 184 hU rfl rfl ?_
     refine Al ?_
     refine Ai fun hU => ?_
     refine C4 rfl hg (fun h25 hg => ?_) fun h25 hg => ?_
     ·refine Ah ?_
      refine Ad (Bo _ _ []) 184 232 hU rfl rfl ?_
      refine Al ?_
      obtain ⟨y_4, hy_4, hg⟩ := Ac hg
      refine E5 (Kv _ _ _ hy_4) ?_
      refine Al ?_
      refine Ai fun hU => ?_
      refine Bn 232 248 hU ?_
      refine Al ?_
      refine Ai fun hU => ?_
      refine C4 rfl hg (fun h28 hg => ?_) fun h28 hg => ?_
      ·refine Ah ?_
       refine Ad (Bo _ _ []) 248 296 hU rfl rfl ?_
       refine Al ?_
       obtain ⟨e_2, he_2, hg⟩ := Ac hg
       refine Al ?_
       refine Ca rfl rfl (Ch T7 (D6 H0 (Ao he_2) (o := 0) (c := .int .i64 e_2) rfl rfl)) rfl rfl ?_
       refine Al ?_
       refine Ai fun hU => ?_
       refine Bj ?_
       obtain rfl := oi_ hg
       exact Bi [] ⟨rfl, rfl⟩
      ·refine Aq ?_
       repeat first | refine Cw ?_ | refine Cz ?_
       refine Bn 248 256 hU ?_
       refine Al ?_
       refine Ai fun hU => ?_
       refine Bj ?_
       obtain rfl := oi_ hg
       exact Bi [] ⟨rfl, rfl⟩
     ·refine Aq ?_
      repeat first | refine Cw ?_ | refine Cz ?_
      refine Bn 184 192 hU ?_
      refine Al ?_
      refine Ai fun hU => ?_
      refine Bj ?_
      obtain rfl := oi_ hg
      exact Bi [] ⟨rfl, rfl⟩
theorem H6 (u : Bk) (r : Bool) (hg : Ek u = some r) : Fn Try.prog 64 0 [.agg [.val (.int .i64 u.Alg), .val (.int .i64 u.Bits)]] [] (fun d' b' => d' = .val (.bool r) /\ b' = []) := by
 unfold Ek at hg
 refine Fn.of Try.func64 rfl rfl rfl fun w0 I ρ0 => ?_
 show Ci _ ⟨w0, I, ρ0, 0, 0, 6⟩ _ _ _
 refine Bn 0 16 Bg ?_
 refine Al ?_
 refine Ai fun hU => ?_
 refine Bn 16 48 hU ?_
 refine Al ?_
 obtain ⟨y, hy, hg⟩ := Ac hg
 refine E5 (Pu _ _ hy) ?_
 refine Al ?_
 refine Ai fun hU => ?_
 refine Bj ?_
 obtain rfl := oi_ hg
 exact Bi [] ⟨rfl, rfl⟩
theorem Ko (alg : Int) (r : Int) (hg : F8 alg = some r) : Fn Try.prog 65 0 [.val (.int .i64 alg)] [] (fun d' b' => d' = .val (.int .i64 r) /\ b' = []) := by
 unfold F8 at hg
 refine Fn.of Try.func65 rfl rfl rfl fun w0 I ρ0 => ?_
 show Ci _ ⟨w0, I, ρ0, 0, 0, 12⟩ _ _ _
 refine Bn 0 8 Bg ?_
 refine Al ?_
 refine Ai fun hU => ?_
 refine Bn 8 72 hU ?_
 refine Al ?_
 obtain ⟨y, hy, hg⟩ := Ac hg
 refine E5 (P9 _ _ hy) ?_
 refine Al ?_
 refine Ai fun hU => ?_
 refine Bn 72 96 hU ?_
 refine Al ?_
 refine Ai fun hU => ?_
 refine Bj ?_
 obtain rfl := oi_ hg
 exact Bi [] ⟨rfl, rfl⟩
theorem Qt (f : Aa) (r : Bool) (hg : A3 f = some r) : Fn Try.prog 49 0 [.agg (Aa.dv f)] [] (fun d' b' => d' = .val (.bool r) /\ b' = []) := by
 unfold A3 at hg
 refine Fn.of Try.func49 rfl rfl rfl fun w0 I ρ0 => ?_
 show Ci _ ⟨w0, I, ρ0, 0, 0, 114⟩ _ _ _
 refine Bn 0 16 Bg ?_
 refine Al ?_
 refine Ai fun hU => ?_
 refine By (ι := Bool) (fun (bare_1 : Bool) => mk [(1, .ptr 0 0), (3, .val (.bool bare_1))] [(0, .box (Aa.dv f) 30)] 1) (fun (bare_1 : Bool) => A3.j1 f bare_1 = some r) ?_ ?_
 ·refine Ad (Bo _ _ []) 16 96 hU rfl rfl ?_
  refine Al ?_
  refine Ca rfl rfl (.build (r := [.val (.int .i64 0), .val (.int .i64 0)]) Mr Tg Yl (by kernel_rfl) rfl) rfl rfl ?_
  refine Ca rfl rfl (M6 f.Use (Bk.mk 0 0)) rfl rfl ?_
  refine Al ?_
  rcases Ea hg with ⟨h2, hg⟩ | ⟨h2, hg⟩
  ·refine Al ?_
   refine Ai fun hU => ?_
   exact ⟨decide (f.Text = (⟨#[]⟩ : ByteArray)), hg, Ba [(0, 0)]⟩
  ·refine Al ?_
   refine Ai fun hU => ?_
   exact ⟨false, hg, Ba [(0, 0)]⟩
 ·rintro bare_1 hg
  replace hg : A3.j1 f bare_1 = some r := hg
  show Ci _ _ _ _ (mk _ _ _)
  unfold A3.j1 at hg
  refine Ah ?_
  refine Bn 1 17 Bg ?_
  refine Al ?_
  refine Ai fun hU => ?_
  refine A4 ?_
  refine By (ι := Bool) (fun (x15_2 : Bool) => mk [(1, .ptr 0 0), (3, .val (.bool bare_1)), (14, .val (.int .i64 f.Kind)), (15, .val (.bool x15_2))] [(0, .box (Aa.dv f) 30)] 1) (fun (x15_2 : Bool) => A3.j2 f bare_1 x15_2 = some r) ?_ ?_
  ·refine Ah ?_
   refine Ad (Bo _ _ []) 17 33 hU rfl rfl ?_
   refine Al ?_
   refine Ai fun hU => ?_
   refine C4 rfl hg (fun h7 hg => ?_) fun h7 hg => ?_
   ·refine Aq ?_
    repeat first | refine Cw ?_ | refine Cz ?_
    exact ⟨decide (f.Kind = 1), hg, Ba [(0, 0)]⟩
   ·refine Ad (Bo _ _ []) 33 49 hU rfl rfl ?_
    refine Al ?_
    refine Ai fun hU => ?_
    exact ⟨decide (f.Kind = 8), hg, Ba [(0, 0)]⟩
  ·rintro x15_2 hg
   replace hg : A3.j2 f bare_1 x15_2 = some r := hg
   show Ci _ _ _ _ (mk _ _ _)
   unfold A3.j2 at hg
   refine C4 rfl hg (fun h9 hg => ?_) fun h9 hg => ?_
   ·refine Ah ?_
    refine Ad (Bo _ _ []) 1 113 Bg rfl rfl ?_
    refine Al ?_
    obtain ⟨y, hy, hg⟩ := Ac hg
    refine E5 (H6 _ _ hy) ?_
    refine Al ?_
    rcases Ea hg with ⟨h10, hg⟩ | ⟨h10, hg⟩
    ·refine Al ?_
     rcases Ea hg with ⟨h11, hg⟩ | ⟨h11, hg⟩
     ·refine Al ?_
      refine Ai fun hU => ?_
      refine Bj ?_
      obtain rfl := oi_ hg
      exact Bi [] ⟨rfl, rfl⟩
     ·refine Al ?_
      refine Ai fun hU => ?_
      refine Bj ?_
      obtain rfl := oi_ hg
      exact Bi [] ⟨rfl, rfl⟩
    ·refine Al ?_
     refine Ai fun hU => ?_
     refine Bj ?_
     obtain rfl := oi_ hg
     exact Bi [] ⟨rfl, rfl⟩
   ·refine Ah ?_
    refine Ad (Bo _ _ []) 1 17 Bg rfl rfl ?_
    refine Al ?_
    refine Ai fun hU => ?_
    refine C4 rfl hg (fun h16 hg => ?_) fun h16 hg => ?_
    ·refine Ah ?_
     refine Ad (Bo _ _ []) 17 113 hU rfl rfl ?_
     refine Al ?_
     rcases Ea hg with ⟨h17, hg⟩ | ⟨h17, hg⟩
     ·refine Al ?_
      rcases Ea hg with ⟨h18, hg⟩ | ⟨h18, hg⟩
      ·refine Al ?_
       refine Ai fun hU => ?_
       refine Bj ?_
       obtain rfl := oi_ hg
       exact Bi [] ⟨rfl, rfl⟩
      ·refine Al ?_
       refine Ai fun hU => ?_
       refine Bj ?_
       obtain rfl := oi_ hg
       exact Bi [] ⟨rfl, rfl⟩
     ·refine Al ?_
      refine Ai fun hU => ?_
      refine Bj ?_
      obtain rfl := oi_ hg
      exact Bi [] ⟨rfl, rfl⟩
    ·refine Ah ?_
     refine Ad (Bo _ _ []) 17 33 hU rfl rfl ?_
     refine Al ?_
     refine Ai fun hU => ?_
     refine C4 rfl hg (fun h23 hg => ?_) fun h23 hg => ?_
     ·refine Ah ?_
      refine Ad (Bo _ _ []) 33 241 hU rfl rfl ?_
      refine Al ?_
      obtain ⟨y_2, hy_2, hg⟩ := Ac hg
      refine E5 (H6 _ _ hy_2) ?_
      refine Al ?_
      rcases Ea hg with ⟨h24, hg⟩ | ⟨h24, hg⟩
      ·refine Al ?_
       obtain ⟨y_3, hy_3, hg⟩ := Ac hg
       refine E5 (Ko _ _ hy_3) ?_
       refine Al ?_
       rcases Ea hg with ⟨h25, hg⟩ | ⟨h25, hg⟩
       ·refine Al ?_
        rcases Ea hg with ⟨h26, hg⟩ | ⟨h26, hg⟩
        ·refine Al ?_
         rcases Ea hg with ⟨h27, hg⟩ | ⟨h27, hg⟩
         ·refine Al ?_
          refine Ai fun hU => ?_
          refine Bj ?_
          obtain rfl := oi_ hg
          exact Bi [] ⟨rfl, rfl⟩
         ·refine Al ?_
          refine Ai fun hU => ?_
          refine Bj ?_
          obtain rfl := oi_ hg
          exact Bi [] ⟨rfl, rfl⟩
        ·refine Al ?_
         refine Ai fun hU => ?_
         refine Bj ?_
         obtain rfl := oi_ hg
         exact Bi [] ⟨rfl, rfl⟩
       ·refine Al ?_
        refine Ai fun hU => ?_
        refine Bj ?_
        obtain rfl := oi_ hg
        exact Bi [] ⟨rfl, rfl⟩
      ·refine Al ?_
       refine Ai fun hU => ?_
       refine Bj ?_
       obtain rfl := oi_ hg
       exact Bi [] ⟨rfl, rfl⟩
     ·refine By (ι := Bool) (fun (x71_3 : Bool) => mk [(1, .ptr 0 0), (3, .val (.bool bare_1)), (14, .val (.int .i64 f.Kind)), (71, .val (.bool x71_3))] [(0, .box (Aa.dv f) 30)] 1) (fun (x71_3 : Bool) => A3.j3 f bare_1 x71_3 = some r) ?_ ?_
      ·refine Ah ?_
       refine Ad (Bo _ _ []) 33 49 hU rfl rfl ?_
       refine Al ?_
       refine Ai fun hU => ?_
       refine C4 rfl hg (fun h34 hg => ?_) fun h34 hg => ?_
       ·refine Aq ?_
        repeat first | refine Cw ?_ | refine Cz ?_
        exact ⟨decide (f.Kind = 4), hg, Ba [(0, 0)]⟩
       ·refine Ad (Bo _ _ []) 49 65 hU rfl rfl ?_
        refine Al ?_
        refine Ai fun hU => ?_
        exact ⟨decide (f.Kind = 5), hg, Ba [(0, 0)]⟩
      ·rintro x71_3 hg
       replace hg : A3.j3 f bare_1 x71_3 = some r := hg
       show Ci _ _ _ _ (mk _ _ _)
       unfold A3.j3 at hg
       refine C4 rfl hg (fun h36 hg => ?_) fun h36 hg => ?_
       ·refine Ah ?_
        refine Ad (Bo _ _ []) 1 97 Bg rfl rfl ?_
        refine Al ?_
        rcases Ea hg with ⟨h37, hg⟩ | ⟨h37, hg⟩
        ·refine Al ?_
         rcases Ea hg with ⟨h38, hg⟩ | ⟨h38, hg⟩
         ·refine Al ?_
          refine Ai fun hU => ?_
          refine Bj ?_
          obtain rfl := oi_ hg
          exact Bi [] ⟨rfl, rfl⟩
         ·refine Al ?_
          refine Ai fun hU => ?_
          refine Bj ?_
          obtain rfl := oi_ hg
          exact Bi [] ⟨rfl, rfl⟩
        ·refine Al ?_
         refine Ai fun hU => ?_
         refine Bj ?_
         obtain rfl := oi_ hg
         exact Bi [] ⟨rfl, rfl⟩
       ·refine Ah ?_
        refine Ad (Bo _ _ []) 1 17 Bg rfl rfl ?_
        refine Al ?_
        refine Ai fun hU => ?_
        refine C4 rfl hg (fun h43 hg => ?_) fun h43 hg => ?_
        ·refine Ah ?_
         refine Ad (Bo _ _ []) 17 113 hU rfl rfl ?_
         refine Al ?_
         rcases Ea hg with ⟨h44, hg⟩ | ⟨h44, hg⟩
         ·refine Al ?_
          rcases Ea hg with ⟨h45, hg⟩ | ⟨h45, hg⟩
          ·refine Al ?_
           refine Ai fun hU => ?_
           refine Bj ?_
           obtain rfl := oi_ hg
           exact Bi [] ⟨rfl, rfl⟩
          ·refine Al ?_
           refine Ai fun hU => ?_
           refine Bj ?_
           obtain rfl := oi_ hg
           exact Bi [] ⟨rfl, rfl⟩
         ·refine Al ?_
          refine Ai fun hU => ?_
          refine Bj ?_
          obtain rfl := oi_ hg
          exact Bi [] ⟨rfl, rfl⟩
        ·refine Ah ?_
         refine Ad (Bo _ _ []) 17 33 hU rfl rfl ?_
         refine Al ?_
         refine Ai fun hU => ?_
         refine C4 rfl hg (fun h50 hg => ?_) fun h50 hg => ?_
         ·refine Ah ?_
          refine Ad (Bo _ _ []) 33 153 hU rfl rfl ?_
          refine Al ?_
          refine Ca rfl rfl (.build (r := [.val (.int .i64 0), .val (.int .i64 0)]) Mr Tg Yl (by kernel_rfl) rfl) rfl rfl ?_
          refine Ca rfl rfl (M6 f.Use (Bk.mk 0 0)) rfl rfl ?_
          refine Al ?_
          rcases Ea hg with ⟨h51, hg⟩ | ⟨h51, hg⟩
          ·refine Al ?_
           rcases Ea hg with ⟨h52, hg⟩ | ⟨h52, hg⟩
           ·refine Al ?_
            obtain ⟨y_4, hy_4, hg⟩ := Ac hg
            refine E5 (Fe _ _ hy_4) ?_
            refine Al ?_
            refine Ai fun hU => ?_
            refine Bj ?_
            obtain rfl := oi_ hg
            exact Bi [] ⟨rfl, rfl⟩
           ·refine Al ?_
            refine Ai fun hU => ?_
            refine Bj ?_
            obtain rfl := oi_ hg
            exact Bi [] ⟨rfl, rfl⟩
          ·refine Al ?_
           refine Ai fun hU => ?_
           refine Bj ?_
           obtain rfl := oi_ hg
           exact Bi [] ⟨rfl, rfl⟩
         ·refine Aq ?_
          repeat first | refine Cw ?_ | refine Cz ?_
          refine Bn 33 41 hU ?_
          refine Al ?_
          refine Ai fun hU => ?_
          refine Bj ?_
          obtain rfl := oi_ hg
          exact Bi [] ⟨rfl, rfl⟩
theorem H7 (f : Aa) (r : Int) (hg : Be f = some r) : Fn Try.prog 19 0 [.agg (Aa.dv f)] [] (fun d' b' => d' = .val (.int .i64 r) /\ b' = []) := by
 unfold Be at hg
 refine Fn.of Try.func19 rfl rfl rfl fun w0 I ρ0 => ?_
 show Ci _ ⟨w0, I, ρ0, 0, 0, 62⟩ _ _ _
 refine Bn 0 16 Bg ?_
 refine Al ?_
 refine Ai fun hU => ?_
 refine By (ι := Bool) (fun (where_1 : Bool) => mk [(1, .ptr 0 0), (3, .val (.bool where_1))] [(0, .box (Aa.dv f) 30)] 1) (fun (where_1 : Bool) => Be.j1 f where_1 = some r) ?_ ?_
 ·refine Ad (Bo _ _ []) 16 168 hU rfl rfl ?_
  refine Al ?_
  obtain ⟨y, hy, hg⟩ := Ac hg
  refine E5 (Fe _ _ hy) ?_
  refine Al ?_
  rcases Ea hg with ⟨h2, hg⟩ | ⟨h2, hg⟩
  ·refine Al ?_
   obtain ⟨y_2, hy_2, hg⟩ := Ac hg
   refine E5 (Fe _ _ hy_2) ?_
   refine Al ?_
   rcases Ea hg with ⟨h3, hg⟩ | ⟨h3, hg⟩
   ·refine Al ?_
    rcases Ea hg with ⟨h4, hg⟩ | ⟨h4, hg⟩
    ·refine Al ?_
     refine Ai fun hU => ?_
     exact ⟨decide (f.Machine <= 1099511627776), hg, Ba [(0, 0)]⟩
    ·refine Al ?_
     refine Ai fun hU => ?_
     exact ⟨false, hg, Ba [(0, 0)]⟩
   ·refine Al ?_
    refine Ai fun hU => ?_
    exact ⟨false, hg, Ba [(0, 0)]⟩
  ·refine Al ?_
   refine Ai fun hU => ?_
   exact ⟨false, hg, Ba [(0, 0)]⟩
 ·rintro where_1 hg
  replace hg : Be.j1 f where_1 = some r := hg
  show Ci _ _ _ _ (mk _ _ _)
  unfold Be.j1 at hg
  refine By (ι := Bool) (fun (when_2 : Bool) => mk [(1, .ptr 0 0), (3, .val (.bool where_1)), (4, .val (.bool when_2))] [(0, .box (Aa.dv f) 30)] 1) (fun (when_2 : Bool) => Be.j2 f where_1 when_2 = some r) ?_ ?_
  ·refine Ad (Bo _ _ []) 1 153 Bg rfl rfl ?_
   refine Al ?_
   rcases Ea hg with ⟨h9, hg⟩ | ⟨h9, hg⟩
   ·refine Al ?_
    rcases Ea hg with ⟨h10, hg⟩ | ⟨h10, hg⟩
    ·refine Al ?_
     rcases Ea hg with ⟨h11, hg⟩ | ⟨h11, hg⟩
     ·refine Al ?_
      refine Ai fun hU => ?_
      exact ⟨decide (f.Confidence <= 100), hg, Ba [(0, 0)]⟩
     ·refine Al ?_
      refine Ai fun hU => ?_
      exact ⟨false, hg, Ba [(0, 0)]⟩
    ·refine Al ?_
     refine Ai fun hU => ?_
     exact ⟨false, hg, Ba [(0, 0)]⟩
   ·refine Al ?_
    refine Ai fun hU => ?_
    exact ⟨false, hg, Ba [(0, 0)]⟩
  ·rintro when_2 hg
   replace hg : Be.j2 f where_1 when_2 = some r := hg
   show Ci _ _ _ _ (mk _ _ _)
   unfold Be.j2 at hg
   refine Ah ?_
   refine By (ι := Bool) (fun (x61_3 : Bool) => mk [(61, .val (.bool x61_3))] [] 0) (fun (x61_3 : Bool) => Be.j3 x61_3 = some r) ?_ ?_
   ·refine Ad (Bo _ _ []) 1 169 Bg rfl rfl ?_
    refine Al ?_
    rcases Ea hg with ⟨h16, hg⟩ | ⟨h16, hg⟩
    ·refine Al ?_
     refine Ai fun hU => ?_
     exact ⟨true, hg, Ba []⟩
    ·refine Al ?_
     rcases Ea hg with ⟨h18, hg⟩ | ⟨h18, hg⟩
     ·refine Al ?_
      refine Ai fun hU => ?_
      exact ⟨true, hg, Ba []⟩
     ·refine Al ?_
      rcases Ea hg with ⟨h20, hg⟩ | ⟨h20, hg⟩
      ·refine Al ?_
       refine Ai fun hU => ?_
       exact ⟨true, hg, Ba []⟩
      ·refine Al ?_
       rcases Ea hg with ⟨h22, hg⟩ | ⟨h22, hg⟩
       ·refine Al ?_
        refine Ai fun hU => ?_
        exact ⟨true, hg, Ba []⟩
       ·refine Al ?_
        obtain ⟨y_3, hy_3, hg⟩ := Ac hg
        refine E5 (Qt _ _ hy_3) ?_
        refine Al ?_
        refine Ai fun hU => ?_
        exact ⟨!y_3, hg, Ba []⟩
   ·rintro x61_3 hg
    replace hg : Be.j3 x61_3 = some r := hg
    show Ci _ _ _ _ (mk _ _ _)
    unfold Be.j3 at hg
    refine C4 rfl hg (fun h25 hg => ?_) fun h25 hg => ?_
    ·refine Ah ?_
     refine Ad (Bo _ _ []) 0 8 Bg rfl rfl ?_
     refine Al ?_
     refine Ai fun hU => ?_
     refine Bj ?_
     obtain rfl := oi_ hg
     exact Bi [] ⟨rfl, rfl⟩
    ·refine Aq ?_
     repeat first | refine Cw ?_ | refine Cz ?_
     refine Bn 0 8 Bg ?_
     refine Al ?_
     refine Ai fun hU => ?_
     refine Bj ?_
     obtain rfl := oi_ hg
     exact Bi [] ⟨rfl, rfl⟩
theorem Tf (at' : Aa) (r : Dk × Int) (hg : Ik at' = some r) : Fn Try.prog 55 0 [.agg (Aa.dv at')] [] (fun d' b' => d' = .tup [.ptr 0 0, .val (.int .i64 r.2)] /\ b' = [.box [.val (.int .i64 r.1.at_.Source), .val (.string r.1.at_.Host), .val (.int .i64 r.1.at_.Machine), .val (.int .i64 r.1.at_.Day), .val (.int .i64 r.1.at_.Confidence), .val (.int .i64 r.1.at_.Kind), .val (.string r.1.at_.Subject), .val (.int .i64 r.1.at_.Use.Alg), .val (.int .i64 r.1.at_.Use.Bits), .val (.int .i64 r.1.at_.Number), .val (.string r.1.at_.Text), .row 1] 76, .row 30 11 (Az Aa.enc r.1.l)]) := by
 unfold Ik at hg
 refine Fn.of Try.func55 rfl rfl rfl fun w0 I ρ0 => ?_
 show Ci _ ⟨w0, I, ρ0, 0, 0, 14⟩ _ _ _
 refine Bn 0 24 Bg ?_
 refine Al ?_
 refine Ai fun hU => ?_
 refine Bn 24 96 hU ?_
 refine Ca rfl rfl (.build (r := [.val (.int .i64 0), .val (.int .i64 0)]) Mr Tg Yl (by kernel_rfl) rfl) rfl rfl ?_
 refine Al ?_
 refine Ai fun hU => ?_
 refine Ah ?_
 refine Bv (Bo _ _ []) (by kernel_rfl) [0, 1, 3, 0, 8, 31, 63] 96 152 hU rfl rfl (by kernel_rfl) ?_
 refine Al ?_
 refine Ca rfl rfl (.build (r := [.val (.int .i64 at'.Source), .val (.string at'.Host), .val (.int .i64 at'.Machine), .val (.int .i64 at'.Day), .val (.int .i64 at'.Confidence), .val (.int .i64 4), .val (.string at'.Subject), .val (.int .i64 0), .val (.int .i64 0), .val (.int .i64 1), .val (.string (⟨#[]⟩ : ByteArray)), .val (.slice none 0 0)]) cV pY qK (by kernel_rfl) rfl) rfl rfl ?_
 refine Al ?_
 obtain ⟨y, hy, hg⟩ := Ac hg
 refine E5 (H7 _ _ hy) ?_
 refine Al ?_
 refine Ai fun hU => ?_
 refine Bj ?_
 obtain rfl := oi_ hg
 exact Bi [(0, 112)] ⟨rfl, rfl⟩
end Go.Proofs.Ytjomajedgbcngaa
