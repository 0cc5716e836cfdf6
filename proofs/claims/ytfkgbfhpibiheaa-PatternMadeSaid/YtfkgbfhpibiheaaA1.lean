import Derived.Test.YtfkgbfhpibiheaaT1
set_option linter.unusedVariables false
set_option linter.unusedSimpArgs false
set_option maxRecDepth 100000
set_option maxHeartbeats 1600000
namespace Go.Proofs.Ytfkgbfhpibiheaa
open Go.RowKit
theorem Xa (l : (List Int)) (r : Bool) (G : Mo l = some r) : Fn Try.prog 8 0 [.sl 1 (As eI l)] [] (fun d' b' => d' = .val (.bool r) /\ b' = []) := by
 unfold Mo at G
 refine Fn.of Try.func8 rfl rfl rfl fun w0 I ρ0 => ?_
 show Cp _ ⟨w0, I, ρ0, 0, 0, 6⟩ _ _ _
 refine Bt 0 8 Bg fun B => ?_
 refine Bt 8 40 B fun B => ?_
 exact Nv
theorem Uj  (r : (List B8)) (G : Kt = some r) : Fn Try.prog 98 0 [] [] (fun d' b' => d' = .agg [.val (.string ((r[0]!).name)), .val (.int .i64 ((r[0]!).kind)), .val (.int .i64 ((r[0]!).way)), .sl 1 (As eI ((r[0]!).sizes)), .sl 1 (As eI ((r[0]!).strengths)), .val (.string ((r[1]!).name)), .val (.int .i64 ((r[1]!).kind)), .val (.int .i64 ((r[1]!).way)), .sl 1 (As eI ((r[1]!).sizes)), .sl 1 (As eI ((r[1]!).strengths)), .val (.string ((r[2]!).name)), .val (.int .i64 ((r[2]!).kind)), .val (.int .i64 ((r[2]!).way)), .sl 1 (As eI ((r[2]!).sizes)), .sl 1 (As eI ((r[2]!).strengths)), .val (.string ((r[3]!).name)), .val (.int .i64 ((r[3]!).kind)), .val (.int .i64 ((r[3]!).way)), .sl 1 (As eI ((r[3]!).sizes)), .sl 1 (As eI ((r[3]!).strengths)), .val (.string ((r[4]!).name)), .val (.int .i64 ((r[4]!).kind)), .val (.int .i64 ((r[4]!).way)), .sl 1 (As eI ((r[4]!).sizes)), .sl 1 (As eI ((r[4]!).strengths)), .val (.string ((r[5]!).name)), .val (.int .i64 ((r[5]!).kind)), .val (.int .i64 ((r[5]!).way)), .sl 1 (As eI ((r[5]!).sizes)), .sl 1 (As eI ((r[5]!).strengths)), .val (.string ((r[6]!).name)), .val (.int .i64 ((r[6]!).kind)), .val (.int .i64 ((r[6]!).way)), .sl 1 (As eI ((r[6]!).sizes)), .sl 1 (As eI ((r[6]!).strengths)), .val (.string ((r[7]!).name)), .val (.int .i64 ((r[7]!).kind)), .val (.int .i64 ((r[7]!).way)), .sl 1 (As eI ((r[7]!).sizes)), .sl 1 (As eI ((r[7]!).strengths)), .val (.string ((r[8]!).name)), .val (.int .i64 ((r[8]!).kind)), .val (.int .i64 ((r[8]!).way)), .sl 1 (As eI ((r[8]!).sizes)), .sl 1 (As eI ((r[8]!).strengths)), .val (.string ((r[9]!).name)), .val (.int .i64 ((r[9]!).kind)), .val (.int .i64 ((r[9]!).way)), .sl 1 (As eI ((r[9]!).sizes)), .sl 1 (As eI ((r[9]!).strengths)), .val (.string ((r[10]!).name)), .val (.int .i64 ((r[10]!).kind)), .val (.int .i64 ((r[10]!).way)), .sl 1 (As eI ((r[10]!).sizes)), .sl 1 (As eI ((r[10]!).strengths)), .val (.string ((r[11]!).name)), .val (.int .i64 ((r[11]!).kind)), .val (.int .i64 ((r[11]!).way)), .sl 1 (As eI ((r[11]!).sizes)), .sl 1 (As eI ((r[11]!).strengths)), .val (.string ((r[12]!).name)), .val (.int .i64 ((r[12]!).kind)), .val (.int .i64 ((r[12]!).way)), .sl 1 (As eI ((r[12]!).sizes)), .sl 1 (As eI ((r[12]!).strengths)), .val (.string ((r[13]!).name)), .val (.int .i64 ((r[13]!).kind)), .val (.int .i64 ((r[13]!).way)), .sl 1 (As eI ((r[13]!).sizes)), .sl 1 (As eI ((r[13]!).strengths)), .val (.string ((r[14]!).name)), .val (.int .i64 ((r[14]!).kind)), .val (.int .i64 ((r[14]!).way)), .sl 1 (As eI ((r[14]!).sizes)), .sl 1 (As eI ((r[14]!).strengths)), .val (.string ((r[15]!).name)), .val (.int .i64 ((r[15]!).kind)), .val (.int .i64 ((r[15]!).way)), .sl 1 (As eI ((r[15]!).sizes)), .sl 1 (As eI ((r[15]!).strengths)), .val (.string ((r[16]!).name)), .val (.int .i64 ((r[16]!).kind)), .val (.int .i64 ((r[16]!).way)), .sl 1 (As eI ((r[16]!).sizes)), .sl 1 (As eI ((r[16]!).strengths)), .val (.string ((r[17]!).name)), .val (.int .i64 ((r[17]!).kind)), .val (.int .i64 ((r[17]!).way)), .sl 1 (As eI ((r[17]!).sizes)), .sl 1 (As eI ((r[17]!).strengths)), .val (.string ((r[18]!).name)), .val (.int .i64 ((r[18]!).kind)), .val (.int .i64 ((r[18]!).way)), .sl 1 (As eI ((r[18]!).sizes)), .sl 1 (As eI ((r[18]!).strengths)), .val (.string ((r[19]!).name)), .val (.int .i64 ((r[19]!).kind)), .val (.int .i64 ((r[19]!).way)), .sl 1 (As eI ((r[19]!).sizes)), .sl 1 (As eI ((r[19]!).strengths)), .val (.string ((r[20]!).name)), .val (.int .i64 ((r[20]!).kind)), .val (.int .i64 ((r[20]!).way)), .sl 1 (As eI ((r[20]!).sizes)), .sl 1 (As eI ((r[20]!).strengths)), .val (.string ((r[21]!).name)), .val (.int .i64 ((r[21]!).kind)), .val (.int .i64 ((r[21]!).way)), .sl 1 (As eI ((r[21]!).sizes)), .sl 1 (As eI ((r[21]!).strengths)), .val (.string ((r[22]!).name)), .val (.int .i64 ((r[22]!).kind)), .val (.int .i64 ((r[22]!).way)), .sl 1 (As eI ((r[22]!).sizes)), .sl 1 (As eI ((r[22]!).strengths))] /\ b' = []) := by
 unfold Kt at G
 refine Fn.of Try.func98 rfl rfl rfl fun w0 I ρ0 => ?_
 show Cp _ ⟨w0, I, ρ0, 0, 0, 46⟩ _ _ _
 refine Bt 0 8 Bg fun B => ?_
 refine C4 8 376 B ?_
 refine Ik Fo z3 Jj ([18] : List Int) eI ?_
 refine D1 rfl rfl (.build (r := [.val (.string (⟨#[109, 100, 53]⟩ : ByteArray)), .val (.int .i64 1), .val (.int .i64 0), .val (.slice none 0 0), .row 8]) Fv H0 J7 (by kernel_rfl) rfl) rfl rfl ?_
 refine Ik Fo z3 Jj ([60] : List Int) eI ?_
 refine D1 rfl rfl (.build (r := [.val (.string (⟨#[115, 104, 97, 49]⟩ : ByteArray)), .val (.int .i64 1), .val (.int .i64 0), .val (.slice none 0 0), .row 24]) Fv H0 J7 (by kernel_rfl) rfl) rfl rfl ?_
 refine Ik Fo z3 Jj ([128] : List Int) eI ?_
 refine D1 rfl rfl (.build (r := [.val (.string (⟨#[115, 104, 97, 50, 53, 54]⟩ : ByteArray)), .val (.int .i64 1), .val (.int .i64 0), .val (.slice none 0 0), .row 40]) Fv H0 J7 (by kernel_rfl) rfl) rfl rfl ?_
 refine Ik Fo z3 Jj ([192] : List Int) eI ?_
 refine D1 rfl rfl (.build (r := [.val (.string (⟨#[115, 104, 97, 51, 56, 52]⟩ : ByteArray)), .val (.int .i64 1), .val (.int .i64 0), .val (.slice none 0 0), .row 56]) Fv H0 J7 (by kernel_rfl) rfl) rfl rfl ?_
 refine D1 rfl rfl (.build (r := [.val (.string (⟨#[114, 115, 97]⟩ : ByteArray)), .val (.int .i64 2), .val (.int .i64 1), .val (.slice none 0 0), .val (.slice none 0 0)]) Fv H0 J7 (by kernel_rfl) rfl) rfl rfl ?_
 refine D1 rfl rfl (.build (r := [.val (.string (⟨#[100, 115, 97]⟩ : ByteArray)), .val (.int .i64 2), .val (.int .i64 1), .val (.slice none 0 0), .val (.slice none 0 0)]) Fv H0 J7 (by kernel_rfl) rfl) rfl rfl ?_
 refine D1 rfl rfl (.build (r := [.val (.string (⟨#[101, 99, 100, 115, 97]⟩ : ByteArray)), .val (.int .i64 2), .val (.int .i64 2), .val (.slice none 0 0), .val (.slice none 0 0)]) Fv H0 J7 (by kernel_rfl) rfl) rfl rfl ?_
 refine Ik Fo z3 Jj ([128] : List Int) eI ?_
 refine D1 rfl rfl (.build (r := [.val (.string (⟨#[101, 100, 50, 53, 53, 49, 57]⟩ : ByteArray)), .val (.int .i64 2), .val (.int .i64 0), .val (.slice none 0 0), .row 96]) Fv H0 J7 (by kernel_rfl) rfl) rfl rfl ?_
 refine Ik Fo z3 Jj ([44, 65, 87] : List Int) eI ?_
 refine Ik Fo z3 Jj ([128, 192, 256] : List Int) eI ?_
 refine D1 rfl rfl (.build (r := [.val (.string (⟨#[109, 108, 100, 115, 97]⟩ : ByteArray)), .val (.int .i64 2), .val (.int .i64 3), .row 112, .row 120]) Fv H0 J7 (by kernel_rfl) rfl) rfl rfl ?_
 refine D1 rfl rfl (.build (r := [.val (.string (⟨#[114, 115, 97, 107, 120]⟩ : ByteArray)), .val (.int .i64 3), .val (.int .i64 1), .val (.slice none 0 0), .val (.slice none 0 0)]) Fv H0 J7 (by kernel_rfl) rfl) rfl rfl ?_
 refine D1 rfl rfl (.build (r := [.val (.string (⟨#[100, 104, 101]⟩ : ByteArray)), .val (.int .i64 3), .val (.int .i64 1), .val (.slice none 0 0), .val (.slice none 0 0)]) Fv H0 J7 (by kernel_rfl) rfl) rfl rfl ?_
 refine D1 rfl rfl (.build (r := [.val (.string (⟨#[101, 99, 100, 104, 101]⟩ : ByteArray)), .val (.int .i64 3), .val (.int .i64 2), .val (.slice none 0 0), .val (.slice none 0 0)]) Fv H0 J7 (by kernel_rfl) rfl) rfl rfl ?_
 refine Ik Fo z3 Jj ([512, 768, 1024] : List Int) eI ?_
 refine Ik Fo z3 Jj ([128, 192, 256] : List Int) eI ?_
 refine D1 rfl rfl (.build (r := [.val (.string (⟨#[109, 108, 107, 101, 109]⟩ : ByteArray)), .val (.int .i64 3), .val (.int .i64 3), .row 160, .row 168]) Fv H0 J7 (by kernel_rfl) rfl) rfl rfl ?_
 refine Ik Fo z3 Jj ([40, 128] : List Int) eI ?_
 refine Ik Fo z3 Jj ([40, 60] : List Int) eI ?_
 refine D1 rfl rfl (.build (r := [.val (.string (⟨#[114, 99, 52]⟩ : ByteArray)), .val (.int .i64 4), .val (.int .i64 3), .row 184, .row 192]) Fv H0 J7 (by kernel_rfl) rfl) rfl rfl ?_
 refine Ik Fo z3 Jj ([112, 168] : List Int) eI ?_
 refine Ik Fo z3 Jj ([80, 112] : List Int) eI ?_
 refine D1 rfl rfl (.build (r := [.val (.string (⟨#[100, 101, 115, 51]⟩ : ByteArray)), .val (.int .i64 4), .val (.int .i64 3), .row 208, .row 216]) Fv H0 J7 (by kernel_rfl) rfl) rfl rfl ?_
 refine Ik Fo z3 Jj ([128, 256] : List Int) eI ?_
 refine Ik Fo z3 Jj ([128, 256] : List Int) eI ?_
 refine D1 rfl rfl (.build (r := [.val (.string (⟨#[97, 101, 115, 99, 98, 99]⟩ : ByteArray)), .val (.int .i64 4), .val (.int .i64 3), .row 232, .row 240]) Fv H0 J7 (by kernel_rfl) rfl) rfl rfl ?_
 refine Ik Fo z3 Jj ([128, 256] : List Int) eI ?_
 refine Ik Fo z3 Jj ([128, 256] : List Int) eI ?_
 refine D1 rfl rfl (.build (r := [.val (.string (⟨#[97, 101, 115, 103, 99, 109]⟩ : ByteArray)), .val (.int .i64 4), .val (.int .i64 3), .row 256, .row 264]) Fv H0 J7 (by kernel_rfl) rfl) rfl rfl ?_
 refine Ik Fo z3 Jj ([256] : List Int) eI ?_
 refine D1 rfl rfl (.build (r := [.val (.string (⟨#[99, 104, 97, 99, 104, 97]⟩ : ByteArray)), .val (.int .i64 4), .val (.int .i64 0), .val (.slice none 0 0), .row 280]) Fv H0 J7 (by kernel_rfl) rfl) rfl rfl ?_
 refine Ik Fo z3 Jj ([64] : List Int) eI ?_
 refine D1 rfl rfl (.build (r := [.val (.string (⟨#[104, 109, 97, 99, 109, 100, 53]⟩ : ByteArray)), .val (.int .i64 5), .val (.int .i64 0), .val (.slice none 0 0), .row 296]) Fv H0 J7 (by kernel_rfl) rfl) rfl rfl ?_
 refine Ik Fo z3 Jj ([80] : List Int) eI ?_
 refine D1 rfl rfl (.build (r := [.val (.string (⟨#[104, 109, 97, 99, 115, 104, 97, 49]⟩ : ByteArray)), .val (.int .i64 5), .val (.int .i64 0), .val (.slice none 0 0), .row 312]) Fv H0 J7 (by kernel_rfl) rfl) rfl rfl ?_
 refine Ik Fo z3 Jj ([128] : List Int) eI ?_
 refine D1 rfl rfl (.build (r := [.val (.string (⟨#[104, 109, 97, 99, 115, 104, 97, 50, 53, 54]⟩ : ByteArray)), .val (.int .i64 5), .val (.int .i64 0), .val (.slice none 0 0), .row 328]) Fv H0 J7 (by kernel_rfl) rfl) rfl rfl ?_
 refine Ik Fo z3 Jj ([256] : List Int) eI ?_
 refine D1 rfl rfl (.build (r := [.val (.string (⟨#[97, 101, 97, 100]⟩ : ByteArray)), .val (.int .i64 5), .val (.int .i64 0), .val (.slice none 0 0), .row 344]) Fv H0 J7 (by kernel_rfl) rfl) rfl rfl ?_
 refine D1 rfl rfl (.buildArr (sz := 5) (r := [.val (.string (⟨#[]⟩ : ByteArray)), .val (.int .i64 0), .val (.int .i64 0), .val (.slice none 0 0), .val (.slice none 0 0), .val (.string (⟨#[109, 100, 53]⟩ : ByteArray)), .val (.int .i64 1), .val (.int .i64 0), .val (.slice none 0 0), .row 8, .val (.string (⟨#[115, 104, 97, 49]⟩ : ByteArray)), .val (.int .i64 1), .val (.int .i64 0), .val (.slice none 0 0), .row 24, .val (.string (⟨#[115, 104, 97, 50, 53, 54]⟩ : ByteArray)), .val (.int .i64 1), .val (.int .i64 0), .val (.slice none 0 0), .row 40, .val (.string (⟨#[115, 104, 97, 51, 56, 52]⟩ : ByteArray)), .val (.int .i64 1), .val (.int .i64 0), .val (.slice none 0 0), .row 56, .val (.string (⟨#[114, 115, 97]⟩ : ByteArray)), .val (.int .i64 2), .val (.int .i64 1), .val (.slice none 0 0), .val (.slice none 0 0), .val (.string (⟨#[100, 115, 97]⟩ : ByteArray)), .val (.int .i64 2), .val (.int .i64 1), .val (.slice none 0 0), .val (.slice none 0 0), .val (.string (⟨#[101, 99, 100, 115, 97]⟩ : ByteArray)), .val (.int .i64 2), .val (.int .i64 2), .val (.slice none 0 0), .val (.slice none 0 0), .val (.string (⟨#[101, 100, 50, 53, 53, 49, 57]⟩ : ByteArray)), .val (.int .i64 2), .val (.int .i64 0), .val (.slice none 0 0), .row 96, .val (.string (⟨#[109, 108, 100, 115, 97]⟩ : ByteArray)), .val (.int .i64 2), .val (.int .i64 3), .row 112, .row 120, .val (.string (⟨#[114, 115, 97, 107, 120]⟩ : ByteArray)), .val (.int .i64 3), .val (.int .i64 1), .val (.slice none 0 0), .val (.slice none 0 0), .val (.string (⟨#[100, 104, 101]⟩ : ByteArray)), .val (.int .i64 3), .val (.int .i64 1), .val (.slice none 0 0), .val (.slice none 0 0), .val (.string (⟨#[101, 99, 100, 104, 101]⟩ : ByteArray)), .val (.int .i64 3), .val (.int .i64 2), .val (.slice none 0 0), .val (.slice none 0 0), .val (.string (⟨#[109, 108, 107, 101, 109]⟩ : ByteArray)), .val (.int .i64 3), .val (.int .i64 3), .row 160, .row 168, .val (.string (⟨#[114, 99, 52]⟩ : ByteArray)), .val (.int .i64 4), .val (.int .i64 3), .row 184, .row 192, .val (.string (⟨#[100, 101, 115, 51]⟩ : ByteArray)), .val (.int .i64 4), .val (.int .i64 3), .row 208, .row 216, .val (.string (⟨#[97, 101, 115, 99, 98, 99]⟩ : ByteArray)), .val (.int .i64 4), .val (.int .i64 3), .row 232, .row 240, .val (.string (⟨#[97, 101, 115, 103, 99, 109]⟩ : ByteArray)), .val (.int .i64 4), .val (.int .i64 3), .row 256, .row 264, .val (.string (⟨#[99, 104, 97, 99, 104, 97]⟩ : ByteArray)), .val (.int .i64 4), .val (.int .i64 0), .val (.slice none 0 0), .row 280, .val (.string (⟨#[104, 109, 97, 99, 109, 100, 53]⟩ : ByteArray)), .val (.int .i64 5), .val (.int .i64 0), .val (.slice none 0 0), .row 296, .val (.string (⟨#[104, 109, 97, 99, 115, 104, 97, 49]⟩ : ByteArray)), .val (.int .i64 5), .val (.int .i64 0), .val (.slice none 0 0), .row 312, .val (.string (⟨#[104, 109, 97, 99, 115, 104, 97, 50, 53, 54]⟩ : ByteArray)), .val (.int .i64 5), .val (.int .i64 0), .val (.slice none 0 0), .row 328, .val (.string (⟨#[97, 101, 97, 100]⟩ : ByteArray)), .val (.int .i64 5), .val (.int .i64 0), .val (.slice none 0 0), .row 344]) iI (by kernel_rfl) uH (by kernel_rfl) rfl) rfl rfl ?_
 exact F9
theorem X6 (alg : Int) (r : B8 × Bool) (G : E5 alg = some r) : Fn Try.prog 73 0 [vk alg] [] (fun d' b' => d' = .tup [.agg (B8.dv r.1), .val (.bool r.2)] /\ b' = []) := by
 unfold E5 at G
 refine Fn.of Try.func73 rfl rfl rfl fun w0 I ρ0 => ?_
 show Cp _ ⟨w0, I, ρ0, 0, 0, 14⟩ _ _ _
 refine Bt 0 16 Bg fun B => ?_
 refine An <| By (ι := Bool) (fun (x9_1 : Bool) => mk [(0, vk alg), (2, .ptr 0 0), (9, .val (.bool x9_1))] [(0, .box [.val (.string (⟨#[]⟩ : ByteArray)), .val (.int .i64 0), .val (.int .i64 0), .val (.slice none 0 0), .val (.slice none 0 0)] 114)] 1) (fun (x9_1 : Bool) => E5.j1 alg x9_1 = some r) ?_ ?_
 refine Aq (Cm _ _ []) 16 64 B rfl rfl ?_
 refine A8 ?_
 rcases If G with ⟨h2, G⟩ | ⟨h2, G⟩
 refine B4 fun B => ?_
 exact ⟨true, G, A3 [(0, 0)]⟩
 refine B4 fun B => ?_
 exact ⟨decide (22 < alg), G, A3 [(0, 0)]⟩
 rintro x9_1 G
 replace G : E5.j1 alg x9_1 = some r := G
 show Cp _ _ _ _ (mk _ _ _)
 unfold E5.j1 at G
 refine C1 rfl G (fun h5 G => ?_) fun h5 G => ?_
 refine C4 1 25 Bg ?_
 refine Z9 Fv H0 J7 ?_
 exact F9
 refine C9 ?_
 refine C4 1 41 Bg ?_
 obtain ⟨y, hy, G⟩ := Ac G
 refine Ix (Uj _ hy) ?_
 refine A8 ?_
 obtain ⟨e, he, G⟩ := Ac G
 refine D1 rfl rfl (Wx (f := B8.enc) (L := (G0 23 y)) iI oF B8.enc_len rfl rfl he (d2 := [wj e.name, vk e.kind, vk e.way, .sl 1 (As eI e.sizes), .sl 1 (As eI e.strengths)]) rfl) rfl rfl ?_
 exact F9
theorem Pw (bits : Int) (r : Int) (G : C6 bits = some r) : Fn Try.prog 74 0 [vk bits] [] (fun d' b' => d' = vk r /\ b' = []) := by
 unfold C6 at G
 refine Fn.of Try.func74 rfl rfl rfl fun w0 I ρ0 => ?_
 show Cp _ ⟨w0, I, ρ0, 0, 0, 21⟩ _ _ _
 refine Bt 0 8 Bg fun B => ?_
 refine An <| C4 8 64 B ?_
 refine D1 rfl rfl (.buildArr (sz := 1) (r := [.val (.int .i64 1024), .val (.int .i64 56)]) Pr (by kernel_rfl) fJ (by kernel_rfl) rfl) rfl rfl ?_
 refine D1 rfl rfl (.buildArr (sz := 1) (r := [.val (.int .i64 2048), .val (.int .i64 80)]) Pr (by kernel_rfl) fJ (by kernel_rfl) rfl) rfl rfl ?_
 refine D1 rfl rfl (.buildArr (sz := 1) (r := [.val (.int .i64 3072), .val (.int .i64 112)]) Pr (by kernel_rfl) fJ (by kernel_rfl) rfl) rfl rfl ?_
 refine D1 rfl rfl (.buildArr (sz := 1) (r := [.val (.int .i64 7680), .val (.int .i64 128)]) Pr (by kernel_rfl) fJ (by kernel_rfl) rfl) rfl rfl ?_
 refine D1 rfl rfl (.buildArr (sz := 1) (r := [.val (.int .i64 15360), .val (.int .i64 192)]) Pr (by kernel_rfl) fJ (by kernel_rfl) rfl) rfl rfl ?_
 refine D1 rfl rfl (.buildArr (sz := 2) (r := [.val (.int .i64 1024), .val (.int .i64 56), .val (.int .i64 2048), .val (.int .i64 80), .val (.int .i64 3072), .val (.int .i64 112), .val (.int .i64 7680), .val (.int .i64 128), .val (.int .i64 15360), .val (.int .i64 192)]) jY (by kernel_rfl) uJ (by kernel_rfl) rfl) rfl rfl ?_
 refine B4 fun B => ?_
 refine Ar <| Gg (fun (x11_1 : Int) => mk [(0, vk bits), (10, .agg [.val (.int .i64 1024), .val (.int .i64 56), .val (.int .i64 2048), .val (.int .i64 80), .val (.int .i64 3072), .val (.int .i64 112), .val (.int .i64 7680), .val (.int .i64 128), .val (.int .i64 15360), .val (.int .i64 192)]), (11, vk x11_1)] [] 0) G (A3 []) ?_
 rintro x11_1 m1 o1 G hn1
 replace G : C6.l1 bits x11_1 = some o1 := G
 show Cp _ _ _ _ (mk _ _ _)
 unfold C6.l1 at G
 refine Bt 0 8 Bg fun B => ?_
 refine An <| C1 rfl G (fun h4 G => ?_) fun h4 G => ?_
 refine C9 ?_
 refine An <| Ar <| C4 8 32 B ?_
 obtain ⟨e, he, G⟩ := Ac G
 refine D1 rfl rfl (Wx (f := (eA 2 eI)) (L := ([([1024, 56] : List Int), ([2048, 80] : List Int), ([3072, 112] : List Int), ([7680, 128] : List Int), ([15360, 192] : List Int)] : List (List Int))) jY oH (qQ Lg) rfl rfl he (d2 := [.val (.int .i64 (e[0]!)), .val (.int .i64 (e[1]!))]) rfl) rfl rfl ?_
 refine B4 fun B => ?_
 refine C4 32 64 B ?_
 refine A8 ?_
 refine Ei (rd := [16]) rfl rfl (.idxA (j := 0) Pr Yr rfl (by decide)) rfl rfl ?_
 refine B4 fun B => ?_
 refine C1 rfl G (fun h7 G => ?_) fun h7 G => ?_
 refine C4 64 88 B ?_
 refine Ei (rd := [16]) rfl rfl (.idxA (j := 1) Pr Yr rfl (by decide)) rfl rfl ?_
 refine B4 fun B => ?_
 refine El ?_
 replace G := B1 G hn1
 exact Xl
 refine C9 ?_
 refine Aq (Cm _ _ []) 64 80 B rfl rfl ?_
 refine B4 fun B => ?_
 obtain rfl := oi_ G
 exact ⟨(W (x11_1 + 1), m1), xO _, hn1, A3 []⟩
 refine F8 ?_
 replace G := B1 G hn1
 refine Bt 8 16 B fun B => ?_
 exact Nv
theorem Kc (s : (List Int)) (v : Int) (r : Int) (G : Cb s v = some r) : Fn Try.prog 76 0 [.sl 1 (As eI s), vk v] [] (fun d' b' => d' = vk r /\ b' = []) := by
 unfold Cb at G
 refine Fn.of Try.func76 rfl rfl rfl fun w0 I ρ0 => ?_
 show Cp _ ⟨w0, I, ρ0, 0, 0, 19⟩ _ _ _
 refine Bt 0 8 Bg fun B => ?_
 refine An <| Bt 8 32 B fun B => ?_
 refine Ar <| Gg (fun (x8_1 : Int) => mk [(0, .sl 1 (As eI s)), (1, vk v), (7, .val (.int .i64 (s.length : Int))), (8, vk x8_1)] [] 0) G (A3 []) ?_
 rintro x8_1 m1 o1 G hn1
 replace G : Cb.l1 s v x8_1 = some o1 := G
 show Cp _ _ _ _ (mk _ _ _)
 unfold Cb.l1 at G
 refine Bt 0 8 Bg fun B => ?_
 refine An <| C1 rfl G (fun h4 G => ?_) fun h4 G => ?_
 refine C9 ?_
 refine An <| Ar <| Bt 8 24 B fun B => ?_
 refine C4 24 72 B ?_
 refine A8 ?_
 obtain ⟨e, he, G⟩ := Ac G
 refine A8 ?_
 refine Uw he ?_
 refine B4 fun B => ?_
 refine C1 rfl G (fun h7 G => ?_) fun h7 G => ?_
 refine Bt 72 88 B fun B => ?_
 refine El ?_
 replace G := B1 G hn1
 exact Xl
 refine C9 ?_
 refine Aq (Cm _ _ []) 72 88 B rfl rfl ?_
 refine B4 fun B => ?_
 obtain rfl := oi_ G
 exact ⟨(W (x8_1 + 1), m1), xO _, hn1, A3 []⟩
 refine F8 ?_
 replace G := B1 G hn1
 refine Bt 8 16 B fun B => ?_
 exact Nv
theorem M9 (s : (List Int)) (v : Int) (r : Bool) (G : Ek s v = some r) : Fn Try.prog 75 0 [.sl 1 (As eI s), vk v] [] (fun d' b' => d' = .val (.bool r) /\ b' = []) := by
 unfold Ek at G
 refine Fn.of Try.func75 rfl rfl rfl fun w0 I ρ0 => ?_
 show Cp _ ⟨w0, I, ρ0, 0, 0, 9⟩ _ _ _
 refine Bt 0 8 Bg fun B => ?_
 refine C4 8 48 B ?_
 refine A8 ?_
 obtain ⟨y, hy, G⟩ := Ac G
 refine Ix (Kc _ _ _ hy) ?_
 exact F9
theorem Pq (u : Aa) (r : Int) (G : A9 u = some r) : Fn Try.prog 54 0 [.agg [vk u.Alg, vk u.Bits]] [] (fun d' b' => d' = vk r /\ b' = []) := by
 unfold A9 at G
 refine Fn.of Try.func54 rfl rfl rfl fun w0 I ρ0 => ?_
 show Cp _ ⟨w0, I, ρ0, 0, 0, 61⟩ _ _ _
 refine Bt 0 16 Bg fun B => ?_
 refine C4 16 88 B ?_
 refine A8 ?_
 obtain ⟨y, hy, G⟩ := Ac G
 refine Ix (X6 _ _ hy) ?_
 refine B4 fun B => ?_
 refine An <| Bt 88 104 B fun B => ?_
 refine C1 rfl G (fun h4 G => ?_) fun h4 G => ?_
 refine C4 104 112 B ?_
 exact F9
 refine C9 ?_
 refine An <| Bt 104 120 B fun B => ?_
 refine Ar <| Bt 120 136 B fun B => ?_
 refine C1 rfl G (fun h8 G => ?_) fun h8 G => ?_
 refine Bt 136 160 B fun B => ?_
 refine C1 rfl G (fun h10 G => ?_) fun h10 G => ?_
 refine C4 160 200 B ?_
 refine A8 ?_
 obtain ⟨e, he, G⟩ := Ac G
 refine A8 ?_
 refine Uw he ?_
 exact F9
 refine C9 ?_
 refine Bt 160 168 B fun B => ?_
 exact Nv
 refine Bt 136 152 B fun B => ?_
 refine C1 rfl G (fun h13 G => ?_) fun h13 G => ?_
 refine By (ι := Bool) (fun (x34_1 : Bool) => mk [(1, .ptr 0 0), (34, .val (.bool x34_1))] [(0, .box [vk u.Alg, vk u.Bits] 43)] 1) (fun (x34_1 : Bool) => A9.j1 u x34_1 = some r) ?_ ?_
 refine Aq (Cm _ _ []) 152 216 B rfl rfl ?_
 refine A8 ?_
 rcases If G with ⟨h14, G⟩ | ⟨h14, G⟩
 refine B4 fun B => ?_
 exact ⟨decide (u.Bits <= 16384), G, A3 [(0, 0)]⟩
 refine B4 fun B => ?_
 exact ⟨false, G, A3 [(0, 0)]⟩
 rintro x34_1 G
 replace G : A9.j1 u x34_1 = some r := G
 show Cp _ _ _ _ (mk _ _ _)
 unfold A9.j1 at G
 refine C1 rfl G (fun h17 G => ?_) fun h17 G => ?_
 refine C4 1 33 Bg ?_
 refine A8 ?_
 obtain ⟨y_2, hy_2, G⟩ := Ac G
 refine Ix (Pw _ _ hy_2) ?_
 exact F9
 refine C9 ?_
 refine Bt 1 9 Bg fun B => ?_
 exact Nv
 refine Bt 152 168 B fun B => ?_
 refine C1 rfl G (fun h20 G => ?_) fun h20 G => ?_
 refine C4 168 200 B ?_
 refine Ik Fo z3 Jj ([160, 224, 256, 384, 521] : List Int) eI ?_
 refine A8 ?_
 obtain ⟨y_3, hy_3, G⟩ := Ac G
 refine G7 [168] [] [] true (M9 _ _ _ hy_3) ?_
 refine D2 fun B => ?_
 refine C1 rfl G (fun h22 G => ?_) fun h22 G => ?_
 refine C4 200 232 B ?_
 refine A8 ?_
 obtain ⟨q, hq, G⟩ := Ac G
 refine D1 rfl rfl (Jv hq) rfl rfl ?_
 exact F9
 refine C9 ?_
 refine Bt 200 208 B fun B => ?_
 exact Nv
 refine Bt 168 184 B fun B => ?_
 refine C1 rfl G (fun h25 G => ?_) fun h25 G => ?_
 refine C4 184 232 B ?_
 refine A8 ?_
 obtain ⟨y_4, hy_4, G⟩ := Ac G
 refine Ix (Kc _ _ _ hy_4) ?_
 refine B4 fun B => ?_
 refine Bt 232 248 B fun B => ?_
 refine C1 rfl G (fun h28 G => ?_) fun h28 G => ?_
 refine C4 248 296 B ?_
 refine A8 ?_
 obtain ⟨e_2, he_2, G⟩ := Ac G
 refine A8 ?_
 refine Uw he_2 ?_
 exact F9
 refine C9 ?_
 refine Bt 248 256 B fun B => ?_
 exact Nv
 refine C9 ?_
 refine Bt 184 192 B fun B => ?_
 exact Nv
theorem Sz (u : Aa) (r : Bool) (G : Hc u = some r) : Fn Try.prog 39 0 [.agg [vk u.Alg, vk u.Bits]] [] (fun d' b' => d' = .val (.bool r) /\ b' = []) := by
 unfold Hc at G
 refine Fn.of Try.func39 rfl rfl rfl fun w0 I ρ0 => ?_
 show Cp _ ⟨w0, I, ρ0, 0, 0, 6⟩ _ _ _
 refine Bt 0 16 Bg fun B => ?_
 refine C4 16 48 B ?_
 refine A8 ?_
 obtain ⟨y, hy, G⟩ := Ac G
 refine Ix (Pq _ _ hy) ?_
 exact F9
theorem Jx (p : (List Ai)) (r : Int) (G : Cy p = some r) : Fn Try.prog 17 0 [.sl 3 (As Ai.enc p)] [] (fun d' b' => d' = vk r /\ b' = []) := by
 unfold Cy at G
 refine Fn.of Try.func17 rfl rfl rfl fun w0 I ρ0 => ?_
 show Cp _ ⟨w0, I, ρ0, 0, 0, 31⟩ _ _ _
 refine Bt 0 8 Bg fun B => ?_
 refine An <| Bt 8 32 B fun B => ?_
 refine Ar <| Gg (fun (x7_1 : Int) => mk [(0, .sl 3 (As Ai.enc p)), (5, .sl 3 (As Ai.enc p)), (6, .val (.int .i64 (p.length : Int))), (7, vk x7_1)] [] 0) G (A3 []) ?_
 rintro x7_1 m1 o1 G hn1
 replace G : Cy.l1 p x7_1 = some o1 := G
 show Cp _ _ _ _ (mk _ _ _)
 unfold Cy.l1 at G
 refine Bt 0 8 Bg fun B => ?_
 refine An <| C1 rfl G (fun h4 G => ?_) fun h4 G => ?_
 refine C9 ?_
 refine An <| Ar <| C4 8 40 B ?_
 obtain ⟨e, he, G⟩ := Ac G
 refine A8 ?_
 refine Xz he ?_
 refine B4 fun B => ?_
 refine By (ι := Bool) (fun (x26_2 : Bool) => mk [(0, .sl 3 (As Ai.enc p)), (5, .sl 3 (As Ai.enc p)), (6, .val (.int .i64 (p.length : Int))), (7, vk x7_1), (26, .val (.bool x26_2))] [] 0) (fun (x26_2 : Bool) => Cy.j2 x7_1 x26_2 = some o1) ?_ ?_
 refine Aq (Cm _ _ []) 40 168 B rfl rfl ?_
 refine A8 ?_
 rcases If G with ⟨h6, G⟩ | ⟨h6, G⟩
 refine B4 fun B => ?_
 exact ⟨true, G, A3 []⟩
 refine A8 ?_
 rcases If G with ⟨h8, G⟩ | ⟨h8, G⟩
 refine B4 fun B => ?_
 exact ⟨true, G, A3 []⟩
 refine A8 ?_
 obtain ⟨y, hy, G⟩ := Ac G
 refine Ix (Sz _ _ hy) ?_
 refine B4 fun B => ?_
 exact ⟨!y, G, A3 []⟩
 rintro x26_2 G
 replace G : Cy.j2 x7_1 x26_2 = some o1 := G
 show Cp _ _ _ _ (mk _ _ _)
 unfold Cy.j2 at G
 refine C1 rfl G (fun h11 G => ?_) fun h11 G => ?_
 refine Bt 0 8 Bg fun B => ?_
 refine El ?_
 replace G := B1 G hn1
 exact Xl
 refine C9 ?_
 refine Aq (Cm _ _ []) 0 16 Bg rfl rfl ?_
 refine B4 fun B => ?_
 obtain rfl := oi_ G
 exact ⟨(W (x7_1 + 1), m1), xO _, hn1, A3 []⟩
 refine F8 ?_
 replace G := B1 G hn1
 refine An <| Bt 8 32 B fun B => ?_
 refine C1 rfl G (fun h15 G => ?_) fun h15 G => ?_
 refine C4 32 40 B ?_
 exact F9
 refine C9 ?_
 refine Bt 32 40 B fun B => ?_
 exact Nv
theorem Mz (p : (List Ai)) (b : (List UInt8)) (r : Int) (G : Gl p b = some r) : Fn Try.prog 30 0 [.sl 3 (As Ai.enc p), .sl 1 (As e8 b)] [] (fun d' b' => d' = vk r /\ b' = []) := by
 unfold Gl at G
 refine Fn.of Try.func30 rfl rfl rfl fun w0 I ρ0 => ?_
 show Cp _ ⟨w0, I, ρ0, 0, 0, 14⟩ _ _ _
 refine Bt 0 8 Bg fun B => ?_
 refine An <| C4 8 32 B ?_
 refine A8 ?_
 obtain ⟨y, hy, G⟩ := Ac G
 refine Ix (Jx _ _ hy) ?_
 refine B4 fun B => ?_
 refine Bt 32 48 B fun B => ?_
 refine C1 rfl G (fun h4 G => ?_) fun h4 G => ?_
 refine C4 48 64 B ?_
 exact F9
 refine C9 ?_
 refine An <| Bt 48 72 B fun B => ?_
 refine C1 rfl G (fun h7 G => ?_) fun h7 G => ?_
 refine C4 72 80 B ?_
 exact F9
 refine C9 ?_
 refine Bt 72 80 B fun B => ?_
 exact Nv
theorem K6  (r : Al) (G : C5 = some r) : Fn Try.prog 92 0 [] [] (fun d' b' => d' = .agg (aD .i16 256 r.next ++ [.val (.int .i16 r.back), .row 0]) /\ b' = [.row 3 1 (As eI r.ends)]) := by
 unfold C5 at G
 refine Fn.of Try.func92 rfl rfl rfl fun w0 I ρ0 => ?_
 show Cp _ ⟨w0, I, ρ0, 0, 0, 11⟩ _ _ _
 refine C4 0 8 Bg ?_
 refine D1 rfl rfl (Zu (ds := (aD .i16 256 (List.replicate 256 (0 : Int)) ++ [.val (.int .i16 0), .val (.slice none 0 0)])) tN (by kernel_rfl)) rfl rfl ?_
 refine D2 fun B => ?_
 refine C4 8 16 B ?_
 refine D1 rfl rfl (Zu (ds := (aD .i16 256 (List.replicate 256 (0 : Int)) ++ [.val (.int .i16 0), .val (.slice none 0 0)])) tN (by kernel_rfl)) rfl rfl ?_
 refine D2 fun B => ?_
 refine An <| Bt 16 24 B fun B => ?_
 refine Ar <| Gg (fun ((x3_1, s_1) : Int × List Int) => mk [(0, .ptr 0 0), (1, .ptr 1 0), (3, vk x3_1)] [(0, .box (aD .i16 256 (List.replicate 256 (0 : Int)) ++ [.val (.int .i16 0), .val (.slice none 0 0)]) 88), (1, .box (aD .i16 256 s_1 ++ [.val (.int .i16 0), .val (.slice none 0 0)]) 88)] 2) G ((by exact Qy.lists [(0, 0), (1, 8)] (by kernel_rfl) rfl ⟨⟨_, rfl, .ptr rfl⟩, ⟨_, rfl, .ptr rfl⟩, ⟨_, rfl, .val _⟩, trivial⟩ ⟨.inl ⟨0, _, rfl, rfl, ⟨rfl, jP (.cons (.val _) (.cons (.val _) .nil))⟩⟩, .inl ⟨8, _, rfl, rfl, ⟨rfl, jP (.cons (.val _) (.cons (.val _) .nil))⟩⟩, trivial⟩)) ?_
 rintro ⟨x3_1, s_1⟩ m1 o1 G hn1
 replace G : C5.l1 x3_1 s_1 = some o1 := G
 show Cp _ _ _ _ (mk _ _ _)
 unfold C5.l1 at G
 refine Bt 2 10 Bg fun B => ?_
 refine An <| C1 rfl G (fun h5 G => ?_) fun h5 G => ?_
 refine C9 ?_
 refine An <| Ar <| Bt 10 26 B fun B => ?_
 refine Aq (Cm _ _ []) 26 58 B rfl rfl ?_
 refine A8 ?_
 obtain ⟨e, he, G⟩ := Ac G
 refine Ei (rd := [1]) rfl rfl (.idxA (j := ((x3_1).toNat)) Qs K0 (Er he) (G8 (A4 he))) rfl rfl ?_
 refine Ei (rd := [1]) rfl rfl (fZ K0 (A4 he)) rfl rfl ?_
 refine D2 fun B => ?_
 refine Aq (Cm _ _ []) 58 74 B rfl rfl ?_
 refine B4 fun B => ?_
 obtain rfl := oi_ G
 exact ⟨((W (x3_1 + 1), Bi (G0 256 s_1) ((x3_1).toNat) (-1)), m1), xO _, hn1, (by exact Qy.lists [(0, 0), (1, 1)] (by kernel_rfl) rfl ⟨⟨_, rfl, .ptr rfl⟩, ⟨_, rfl, .ptr rfl⟩, ⟨_, rfl, .val _⟩, trivial⟩ ⟨.inl ⟨0, _, rfl, rfl, ⟨rfl, jP (.cons (.val _) (.cons (.val _) .nil))⟩⟩, .inl ⟨1, _, rfl, rfl, ⟨rfl, jP (.cons (.val _) (.cons (.val _) .nil))⟩⟩, trivial⟩)⟩
 refine F8 ?_
 replace G := B1 G hn1
 refine C4 10 26 B ?_
 refine Ei (rd := [1]) rfl rfl (eO nA kR) rfl rfl ?_
 refine Ei (rd := [0]) rfl rfl (fP nA kR kR (mX rfl)) (by kernel_rfl) rfl ?_
 refine D2 fun B => ?_
 refine El ?_
 obtain rfl := oi_ G
 exact ⟨[_], _, [_], [], .cons (.cellA rfl rfl nA rfl) .nil, ⟨rfl, rfl⟩, .agg (jP (.cons (.val _) (.cons (.nil rfl) .nil))), ⟨.inr ⟨rfl, _, _, rfl⟩, trivial⟩, (by kernel_rfl), rfl, rfl, rfl, rfl⟩
theorem Tv (p : (List Ai)) (r : (List Al)) (G : Cw p = some r) : Fn Try.prog 62 0 [.sl 3 (As Ai.enc p)] [] (fun d' b' => d' = .row 0 /\ b' = [.tree 88 258 257 3 1 1 none (As Al.enc r), .gho]) := by
 unfold Cw at G
 refine Fn.of Try.func62 rfl rfl rfl fun w0 I ρ0 => ?_
 show Cp _ ⟨w0, I, ρ0, 0, 0, 71⟩ _ _ _
 refine Bt 0 8 Bg fun B => ?_
 refine Bt 8 16 B fun B => ?_
 refine C4 16 48 B ?_
 refine A8 ?_
 obtain ⟨y, hy, G⟩ := Ac G
 refine Y1 (rd := []) (ps := []) (gs := []) false rfl rfl (K6 _ hy) rfl rfl .nil rfl rfl (by intro h; cases h) rfl (by intro h; first | (cases h; done) | exact ⟨_, _, ⟨rfl, rfl⟩, by simp, by simp⟩) ?_
 rintro _ _ ⟨rfl, rfl⟩
 refine Jg (rd := [24]) rfl rfl (Z5 (o := 257) (r := (aD .i16 256 y.next ++ [.val (.int .i16 y.back), .row 24])) (pre := (aD .i16 256 y.next ++ [.val (.int .i16 y.back)])) (post := []) (ck1 := (List.replicate 256 none ++ [none])) (ck2 := []) (cs1 := As Al.enc ([y] : List Al)) M7 tN (by decide) (by kernel_rfl) (by kernel_rfl) (by kernel_rfl) kR (uD (.cons .int .nil)) .nil (List.Mem.head _) rfl (by kernel_rfl)) (by kernel_rfl) rfl (fun _ => ⟨_, rfl⟩) ?_
 rintro _ rfl
 refine B4 fun B => ?_
 refine An <| Bt 48 72 B fun B => ?_
 refine Ar <| Gg (fun ((x15_1, states_1) : Int × List Al) => mk [(3, .val (.func (.func 92) #[] #[])), (4, .row 0), (13, .sl 3 (As Ai.enc p)), (14, .val (.int .i64 (p.length : Int))), (15, vk x15_1)] [(0, .tree 88 258 257 3 1 1 none (As Al.enc states_1)), (1, .gho)] 2) G (A3 [(0, 32), (1, 33)]) ?_
 rintro ⟨x15_1, states_1⟩ m1 o1 G hn1
 replace G : Cw.l1 p x15_1 states_1 = some o1 := G
 show Cp _ _ _ _ (mk _ _ _)
 unfold Cw.l1 at G
 refine Bt 2 10 Bg fun B => ?_
 refine An <| C1 rfl G (fun h6 G => ?_) fun h6 G => ?_
 refine C9 ?_
 refine An <| Ar <| C4 10 58 B ?_
 refine A8 ?_
 obtain ⟨e, he, G⟩ := Ac G
 refine A8 ?_
 refine Xz he ?_
 refine B4 fun B => ?_
 refine Bt 58 66 B fun B => ?_
 refine An <| Bt 66 98 B fun B => ?_
 refine Ar <| Gg (fun ((at_2, x23_2, states_2) : Int × Int × List Al) => mk [(3, .val (.func (.func 92) #[] #[])), (4, .row 0), (5, vk x15_1), (7, .val (.int .i16 at_2)), (13, .sl 3 (As Ai.enc p)), (14, .val (.int .i64 (p.length : Int))), (15, vk x15_1), (21, .sl 1 (As e8 e.Bytes)), (22, .val (.int .i64 (e.Bytes.length : Int))), (23, vk x23_2)] [(0, .tree 88 258 257 3 1 1 none (As Al.enc states_2)), (1, .gho)] 2) G (A3 [(0, 0), (1, 1)]) ?_
 rintro ⟨at_2, x23_2, states_2⟩ m2 o2 G hn2
 replace G : Cw.l2 x15_1 e at_2 x23_2 states_2 = some o2 := G
 show Cp _ _ _ _ (mk _ _ _)
 unfold Cw.l2 at G
 refine Bt 2 10 Bg fun B => ?_
 refine An <| C1 rfl G (fun h11 G => ?_) fun h11 G => ?_
 refine C9 ?_
 refine An <| Ar <| C4 10 34 B ?_
 obtain ⟨e_2, he_2, G⟩ := Ac G
 refine A8 ?_
 refine Uw he_2 ?_
 refine B4 fun B => ?_
 refine By (ι := List Al) (fun (states_3 : List Al) => mk [(3, .val (.func (.func 92) #[] #[])), (4, .row 0), (5, vk x15_1), (7, .val (.int .i16 at_2)), (9, .val (.int .u8 (e_2.toNat : Int))), (13, .sl 3 (As Ai.enc p)), (14, .val (.int .i64 (p.length : Int))), (15, vk x15_1), (21, .sl 1 (As e8 e.Bytes)), (22, .val (.int .i64 (e.Bytes.length : Int))), (23, vk x23_2)] [(0, .tree 88 258 257 3 1 1 none (As Al.enc states_3)), (1, .gho)] 2) (fun (states_3 : List Al) => Cw.j3 at_2 x23_2 e_2 states_3 = some o2) ?_ ?_
 refine C4 34 98 B ?_
 refine A8 ?_
 obtain ⟨e_3, he_3, G⟩ := Ac G
 refine Ei (rd := [0]) rfl rfl (.idxT M7 (Er he_3) (Hk Al.enc_len (A4 he_3))) rfl rfl ?_
 refine A8 ?_
 obtain ⟨e_4, he_4, G⟩ := Ac G
 refine Ei (rd := [0]) rfl rfl (.idxA (j := (((e_2.toNat : Int)).toNat)) Qs K0 (Er he_4) (G8 (A4 he_4))) rfl rfl ?_
 refine Ei (rd := [0]) rfl rfl (.loadT1 K0 (S1 (A4 he_4) (by decide) (by decide)) (L8 Al.enc_len (A4 he_3) rfl (A4 he_4))) rfl rfl ?_
 refine B4 fun B => ?_
 refine C1 rfl G (fun h14 G => ?_) fun h14 G => ?_
 refine C4 98 178 B ?_
 refine A8 ?_
 refine Ei (rd := [0]) rfl rfl (.len M7.elem (.rowT (by decide) (D5 Al.enc_len _))) rfl rfl ?_
 refine D1 rfl rfl (Oy Rq vL) rfl rfl ?_
 refine Ei (rd := [0]) rfl rfl (.idxT M7 (Er he_3) (Hk Al.enc_len (A4 he_3))) rfl rfl ?_
 refine A8 ?_
 refine Ei (rd := [0]) rfl rfl (.idxA (j := (((e_2.toNat : Int)).toNat)) Qs K0 (Er he_4) (G8 (A4 he_4))) rfl rfl ?_
 refine Jg (rd := [0]) rfl rfl (W0 (y' := (Al.mk (Bi (G0 256 e_3.next) (((e_2.toNat : Int)).toNat) (IntKind.wrap .i16 (states_2.length : Int))) e_3.back e_3.ends)) Al.enc_len K0 (A4 he_3) rfl (A4 he_4) (by decide) (by decide) (List.Mem.head _) rfl) rfl rfl (fun _ => ⟨_, rfl⟩) ?_
 rintro _ rfl
 refine D2 fun B => ?_
 refine Aq (Cm _ _ []) 178 226 B rfl rfl ?_
 refine A8 ?_
 obtain ⟨y_2, hy_2, G⟩ := Ac G
 refine Y1 (rd := []) (ps := []) (gs := []) false rfl rfl (K6 _ hy_2) rfl rfl .nil rfl rfl (by intro h; cases h) rfl (by intro h; first | (cases h; done) | exact ⟨_, _, ⟨rfl, rfl⟩, by simp, by simp⟩) ?_
 rintro _ _ ⟨rfl, rfl⟩
 refine Jg (rd := [194]) rfl rfl (Z5 (o := 257) (r := (aD .i16 256 y_2.next ++ [.val (.int .i16 y_2.back), .row 194])) (pre := (aD .i16 256 y_2.next ++ [.val (.int .i16 y_2.back)])) (post := []) (ck1 := (List.replicate 256 none ++ [none])) (ck2 := []) (cs1 := As Al.enc ([y_2] : List Al)) M7 tN (by decide) (by kernel_rfl) (by kernel_rfl) (by kernel_rfl) kR (uD (.cons .int .nil)) .nil (List.Mem.head _) rfl (by kernel_rfl)) (by kernel_rfl) rfl (fun _ => ⟨_, rfl⟩) ?_
 rintro _ rfl
 obtain ⟨l, hl, G⟩ := Ac G
 refine Jg (rd := [0, 202]) rfl rfl (qJ M7 Al.enc_len (List.Mem.head _) (List.Mem.tail _ (List.Mem.head _)) rfl hl rfl rfl rfl) rfl rfl (fun _ => ⟨_, rfl⟩) ?_
 rintro _ rfl
 refine B4 fun B => ?_
 exact ⟨l, G, A3 [(0, 210), (1, 211)]⟩
 refine C9 ?_
 exact ⟨states_2, G, A3 [(0, 0), (1, 1)]⟩
 rintro states_3 G
 replace G : Cw.j3 at_2 x23_2 e_2 states_3 = some o2 := G
 show Cp _ _ _ _ (mk _ _ _)
 unfold Cw.j3 at G
 refine Aq (Cm _ _ []) 2 66 Bg rfl rfl ?_
 refine A8 ?_
 obtain ⟨e_5, he_5, G⟩ := Ac G
 refine Ei (rd := [0]) rfl rfl (.idxT M7 (Er he_5) (Hk Al.enc_len (A4 he_5))) rfl rfl ?_
 refine A8 ?_
 obtain ⟨e_6, he_6, G⟩ := Ac G
 refine Ei (rd := [0]) rfl rfl (.idxA (j := (((e_2.toNat : Int)).toNat)) Qs K0 (Er he_6) (G8 (A4 he_6))) rfl rfl ?_
 refine Ei (rd := [0]) rfl rfl (.loadT1 K0 (S1 (A4 he_6) (by decide) (by decide)) (L8 Al.enc_len (A4 he_5) rfl (A4 he_6))) rfl rfl ?_
 refine B4 fun B => ?_
 refine Aq (Cm _ _ []) 66 82 B rfl rfl ?_
 refine B4 fun B => ?_
 obtain rfl := oi_ G
 exact ⟨((e_6, W (x23_2 + 1), states_3), m2), xO _, hn2, A3 [(0, 0), (1, 1)]⟩
 refine F8 ?_
 replace G := B1 G hn2
 refine Aq (Cm _ _ []) 10 114 B rfl rfl ?_
 refine A8 ?_
 obtain ⟨e_7, he_7, G⟩ := Ac G
 refine Ei (rd := [0]) rfl rfl (.idxT M7 (Er he_7) (Hk Al.enc_len (A4 he_7))) rfl rfl ?_
 refine A8 ?_
 refine Ei (rd := [0]) rfl rfl (.loadTN Vz (by decide) rfl Ta (Eu Al.enc_len (A4 he_7) (o := 257) (by decide) rfl)) rfl rfl ?_
 refine A8 ?_
 refine Ik Fo z3 Jj ([x15_1] : List Int) eI ?_
 obtain ⟨l_2, hl_2, G⟩ := Ac G
 refine Jg (rd := [0, 1, 74]) rfl rfl (jU (l := e_7.ends) (l' := ([x15_1] : List Int)) Fo Lg (C8 Al.enc_len (A4 he_7) (o := 257) (c := .sl 1 (As eI e_7.ends)) (Oo (i := 1) rfl) rfl) rfl .row rfl hl_2 rfl (List.Mem.head _) rfl) rfl rfl (fun _ => ⟨_, rfl⟩) ?_
 rintro _ rfl
 refine Ei (rd := [0]) rfl rfl (.idxT M7 (Er he_7) (Hk Al.enc_len (A4 he_7))) rfl rfl ?_
 refine A8 ?_
 refine Jg (rd := [0, 82]) rfl rfl (kE Vz rfl (Eu Al.enc_len (A4 he_7) (o := 257) (by decide) rfl) (List.Mem.head _) (List.Mem.tail _ (List.Mem.head _)) rfl rfl (dC Al.enc_len (A4 he_7) (o := 257) (x' := (Al.mk e_7.next e_7.back l_2)) (by decide) (R1 (i := 1) rfl) rfl)) rfl rfl (fun _ => ⟨_, rfl⟩) ?_
 rintro _ rfl
 refine D2 fun B => ?_
 refine Aq (Cm _ _ []) 114 130 B rfl rfl ?_
 refine B4 fun B => ?_
 obtain rfl := oi_ G
 exact ⟨((W (x15_1 + 1), Bi states_2 ((at_2).toNat) (Al.mk e_7.next e_7.back l_2)), m1), xO _, hn1, A3 [(0, 0), (1, 106)]⟩
 refine F8 ?_
 replace G := B1 G hn1
 refine Bt 10 26 B fun B => ?_
 refine El ?_
 obtain rfl := oi_ G
 exact Ee [(0, 0), (1, 1)] ⟨rfl, rfl⟩
theorem K5 (p : (List Ai)) (r : (List Al)) (G : Bf p = some r) : Fn Try.prog 49 0 [.sl 3 (As Ai.enc p)] [] (fun d' b' => d' = .sl 258 (As Al.enc r) /\ b' = []) := by
 unfold Bf at G
 refine Fn.of Try.func49 rfl rfl rfl fun w0 I ρ0 => ?_
 show Cp _ ⟨w0, I, ρ0, 0, 0, 82⟩ _ _ _
 refine Bt 0 8 Bg fun B => ?_
 refine C4 8 32 B ?_
 refine A8 ?_
 obtain ⟨y, hy, G⟩ := Ac G
 refine F6 (rd := []) (ps := []) (gs := []) false rfl (Tv _ _ hy) rfl rfl (.cons .sl .nil) rfl rfl (by intro h; cases h) rfl (by intro h; first | (cases h; done) | exact ⟨_, _, ⟨rfl, rfl⟩, by simp, by simp⟩) ?_
 rintro _ _ ⟨rfl, rfl⟩
 refine B4 fun B => ?_
 refine C4 32 48 B ?_
 refine Ik Uc wB tS ([0] : List Int) (eK .i16) ?_
 refine B4 fun B => ?_
 refine An <| Ar <| Gg (fun ((states_1, queue_1) : List Al × List Int) => mk [(3, .row 0), (4, .row 1)] [(0, .tree 88 258 257 3 1 2 none (As Al.enc states_1)), (1, .que 85 1 (As (eK .i16) queue_1)), (2, .gho)] 3) G (A3 [(0, 16), (1, 32), (2, 17)]) ?_
 rintro ⟨states_1, queue_1⟩ m1 o1 G hn1
 replace G : Bf.l1 states_1 queue_1 = some o1 := G
 show Cp _ _ _ _ (mk _ _ _)
 unfold Bf.l1 at G
 refine An <| C4 3 27 Bg ?_
 refine A8 ?_
 refine Jg (rd := [1]) rfl rfl (jA Uc (Q8 _)) rfl rfl (fun _ => ⟨_, rfl⟩) ?_
 rintro _ rfl
 refine B4 fun B => ?_
 refine C1 rfl G (fun h5 G => ?_) fun h5 G => ?_
 refine C9 ?_
 refine Ar <| C4 27 59 B ?_
 refine A8 ?_
 obtain ⟨e, he, G⟩ := Ac G
 refine Jg (rd := [1]) rfl rfl (pS Uc (Q8 _) (Er he) (A4 he)) rfl rfl (fun _ => ⟨_, rfl⟩) ?_
 rintro _ rfl
 refine Jg (rd := [1]) rfl rfl (.loadQ K0 (C8 (Q8 _) (A4 he) (o := 0) (c := .int .i16 e) rfl rfl)) rfl rfl (fun _ => ⟨_, rfl⟩) ?_
 rintro _ rfl
 refine B4 fun B => ?_
 refine C4 59 83 B ?_
 refine A8 ?_
 obtain ⟨l, hl, G⟩ := Ac G
 refine Jg (rd := [1]) rfl rfl (rE Uc (Q8 _) hl (.head _) rfl) rfl rfl (fun _ => ⟨_, rfl⟩) ?_
 rintro _ rfl
 refine B4 fun B => ?_
 refine C4 83 131 B ?_
 refine A8 ?_
 obtain ⟨e_2, he_2, G⟩ := Ac G
 refine Ei (rd := [0]) rfl rfl (.idxT M7 (Er he_2) (Hk Al.enc_len (A4 he_2))) rfl rfl ?_
 refine A8 ?_
 refine Ei (rd := [0]) rfl rfl (.loadT1 K0 (aH (of := 256) (by decide) (by decide) rfl) (C8 Al.enc_len (A4 he_2) (o := 256) (c := .int .i16 e_2.back) (Oo (i := 0) rfl) rfl)) rfl rfl ?_
 refine B4 fun B => ?_
 refine By (ι := List Al) (fun (states_2 : List Al) => mk [(3, .row 0), (4, .row 1), (5, .val (.int .i16 e)), (6, .val (.int .i16 e_2.back))] [(0, .tree 88 258 257 3 1 2 none (As Al.enc states_2)), (1, .que 85 1 (As (eK .i16) l)), (2, .gho)] 3) (fun (states_2 : List Al) => Bf.j2 e l e_2 states_2 = some o1) ?_ ?_
 refine Bt 131 147 B fun B => ?_
 refine C1 rfl G (fun h10 G => ?_) fun h10 G => ?_
 refine Br (Cm _ _ []) (by kernel_rfl) [0, 0, 0, 0, 12, 28, 60, 0, 0, 384, 896, 1920, 4092, 8191, 16383, 32767] 147 275 B rfl rfl (by kernel_rfl) ?_
 refine A8 ?_
 refine Ei (rd := [0]) rfl rfl (.idxT M7 (Er he_2) (Hk Al.enc_len (A4 he_2))) rfl rfl ?_
 refine A8 ?_
 refine Ei (rd := [0]) rfl rfl (.loadTN Vz (by decide) rfl Ta (Eu Al.enc_len (A4 he_2) (o := 257) (by decide) rfl)) rfl rfl ?_
 refine A8 ?_
 obtain ⟨e_3, he_3, G⟩ := Ac G
 refine Ei (rd := [0]) rfl rfl (.idxT M7 (Er he_3) (Hk Al.enc_len (A4 he_3))) rfl rfl ?_
 refine A8 ?_
 refine Ei (rd := [0]) rfl rfl (.loadTN Vz (by decide) rfl Ta (Eu Al.enc_len (A4 he_3) (o := 257) (by decide) rfl)) rfl rfl ?_
 obtain ⟨l_2, hl_2, G⟩ := Ac G
 refine Jg (rd := [0, 2, 0, 2]) rfl rfl (jU (l := e_2.ends) (l' := e_3.ends) Fo Lg (C8 Al.enc_len (A4 he_2) (o := 257) (c := .sl 1 (As eI e_2.ends)) (Oo (i := 1) rfl) rfl) rfl (.nst (C8 Al.enc_len (A4 he_3) (o := 257) (c := .sl 1 (As eI e_3.ends)) (Oo (i := 1) rfl) rfl) Ta) rfl hl_2 rfl (List.Mem.head _) rfl) rfl rfl (fun _ => ⟨_, rfl⟩) ?_
 rintro _ rfl
 refine Ei (rd := [0]) rfl rfl (.idxT M7 (Er he_2) (Hk Al.enc_len (A4 he_2))) rfl rfl ?_
 refine A8 ?_
 refine Jg (rd := [0, 243]) rfl rfl (kE Vz rfl (Eu Al.enc_len (A4 he_2) (o := 257) (by decide) rfl) (List.Mem.head _) (List.Mem.tail _ (List.Mem.head _)) rfl rfl (dC Al.enc_len (A4 he_2) (o := 257) (x' := (Al.mk e_2.next e_2.back l_2)) (by decide) (R1 (i := 1) rfl) rfl)) rfl rfl (fun _ => ⟨_, rfl⟩) ?_
 rintro _ rfl
 refine D2 fun B => ?_
 exact ⟨Bi states_1 ((e).toNat) (Al.mk e_2.next e_2.back l_2), G, A3 [(0, 0), (1, 67), (2, 267)]⟩
 refine C9 ?_
 exact ⟨states_1, G, A3 [(0, 0), (1, 67), (2, 2)]⟩
 rintro states_2 G
 replace G : Bf.j2 e l e_2 states_2 = some o1 := G
 show Cp _ _ _ _ (mk _ _ _)
 unfold Bf.j2 at G
 refine Bt 3 11 Bg fun B => ?_
 refine Ar <| Gg (fun ((x43_3, states_3, queue_3) : Int × List Al × List Int) => mk [(3, .row 0), (4, .row 1), (5, .val (.int .i16 e)), (6, .val (.int .i16 e_2.back)), (43, vk x43_3)] [(0, .tree 88 258 257 3 1 2 none (As Al.enc states_3)), (1, .que 85 1 (As (eK .i16) queue_3)), (2, .gho)] 3) G (A3 [(0, 0), (1, 1), (2, 2)]) ?_
 rintro ⟨x43_3, states_3, queue_3⟩ m3 o3 G hn3
 replace G : Bf.l3 e e_2 x43_3 states_3 queue_3 = some o3 := G
 show Cp _ _ _ _ (mk _ _ _)
 unfold Bf.l3 at G
 refine Bt 3 11 Bg fun B => ?_
 refine An <| C1 rfl G (fun h14 G => ?_) fun h14 G => ?_
 refine C9 ?_
 refine By (ι := List Al × List Int) (fun ((states_5, queue_5) : List Al × List Int) => mk [(3, .row 0), (4, .row 1), (5, .val (.int .i16 e)), (6, .val (.int .i16 e_2.back)), (43, vk x43_3)] [(0, .tree 88 258 257 3 1 2 none (As Al.enc states_5)), (1, .que 85 1 (As (eK .i16) queue_5)), (2, .gho)] 3) (fun ((states_5, queue_5) : List Al × List Int) => Bf.j5 x43_3 states_5 queue_5 = some o3) ?_ ?_
 refine Ar <| Bt 11 27 B fun B => ?_
 refine C4 27 91 B ?_
 refine A8 ?_
 obtain ⟨e_4, he_4, G⟩ := Ac G
 refine Ei (rd := [0]) rfl rfl (.idxT M7 (Er he_4) (Hk Al.enc_len (A4 he_4))) rfl rfl ?_
 refine A8 ?_
 obtain ⟨e_5, he_5, G⟩ := Ac G
 refine Ei (rd := [0]) rfl rfl (.idxA (j := ((x43_3).toNat)) Qs K0 (Er he_5) (G8 (A4 he_5))) rfl rfl ?_
 refine Ei (rd := [0]) rfl rfl (.loadT1 K0 (S1 (A4 he_5) (by decide) (by decide)) (L8 Al.enc_len (A4 he_4) rfl (A4 he_5))) rfl rfl ?_
 refine B4 fun B => ?_
 refine Bt 91 99 B fun B => ?_
 refine By (ι := Int) (fun (other_4 : Int) => mk [(3, .row 0), (4, .row 1), (5, .val (.int .i16 e)), (6, .val (.int .i16 e_2.back)), (7, vk x43_3), (8, .val (.int .i16 e_5)), (9, .val (.int .i16 other_4)), (43, vk x43_3)] [(0, .tree 88 258 257 3 1 2 none (As Al.enc states_3)), (1, .que 85 1 (As (eK .i16) queue_3)), (2, .gho)] 3) (fun (other_4 : Int) => Bf.j4 e x43_3 states_3 queue_3 e_4 e_5 other_4 = some o3) ?_ ?_
 refine Bt 99 115 B fun B => ?_
 refine C1 rfl G (fun h19 G => ?_) fun h19 G => ?_
 refine Aq (Cm _ _ []) 115 179 B rfl rfl ?_
 refine A8 ?_
 obtain ⟨e_6, he_6, G⟩ := Ac G
 refine Ei (rd := [0]) rfl rfl (.idxT M7 (Er he_6) (Hk Al.enc_len (A4 he_6))) rfl rfl ?_
 refine A8 ?_
 obtain ⟨e_7, he_7, G⟩ := Ac G
 refine Ei (rd := [0]) rfl rfl (.idxA (j := ((x43_3).toNat)) Qs K0 (Er he_7) (G8 (A4 he_7))) rfl rfl ?_
 refine Ei (rd := [0]) rfl rfl (.loadT1 K0 (S1 (A4 he_7) (by decide) (by decide)) (L8 Al.enc_len (A4 he_6) rfl (A4 he_7))) rfl rfl ?_
 refine B4 fun B => ?_
 exact ⟨e_7, G, A3 [(0, 0), (1, 1), (2, 2)]⟩
 refine C9 ?_
 exact ⟨0, G, A3 [(0, 0), (1, 1), (2, 2)]⟩
 rintro other_4 G
 replace G : Bf.j4 e x43_3 states_3 queue_3 e_4 e_5 other_4 = some o3 := G
 show Cp _ _ _ _ (mk _ _ _)
 unfold Bf.j4 at G
 refine An <| Bt 3 19 Bg fun B => ?_
 refine C1 rfl G (fun h22 G => ?_) fun h22 G => ?_
 refine C4 19 83 B ?_
 refine A8 ?_
 refine Ei (rd := [0]) rfl rfl (.idxT M7 (Er he_4) (Hk Al.enc_len (A4 he_4))) rfl rfl ?_
 refine A8 ?_
 refine Ei (rd := [0]) rfl rfl (.idxA (j := ((x43_3).toNat)) Qs K0 (Er he_5) (G8 (A4 he_5))) rfl rfl ?_
 refine Jg (rd := [0]) rfl rfl (W0 (y' := (Al.mk (Bi (G0 256 e_4.next) ((x43_3).toNat) other_4) e_4.back e_4.ends)) Al.enc_len K0 (A4 he_4) rfl (A4 he_5) (by decide) (by decide) (List.Mem.head _) rfl) rfl rfl (fun _ => ⟨_, rfl⟩) ?_
 rintro _ rfl
 refine D2 fun B => ?_
 refine F8 ?_
 exact ⟨(Bi states_3 ((e).toNat) (Al.mk (Bi (G0 256 e_4.next) ((x43_3).toNat) other_4) e_4.back e_4.ends), queue_3), G, A3 [(0, 0), (1, 1), (2, 2)]⟩
 refine C9 ?_
 refine C4 19 67 B ?_
 refine A8 ?_
 obtain ⟨e_8, he_8, G⟩ := Ac G
 refine Ei (rd := [0]) rfl rfl (.idxT M7 (Er he_8) (Hk Al.enc_len (A4 he_8))) rfl rfl ?_
 refine A8 ?_
 refine Jg (rd := [0]) rfl rfl (Yo K0 rfl (Eb Al.enc_len (A4 he_8) (o := 256) (m := 1) (by decide) rfl) (cC (of := 256) (by decide) (by decide) rfl) (ck := [none]) (cs' := [.int .i16 other_4]) (.cons .int .nil) (List.Mem.head _) (Hv Al.enc_len (A4 he_8) (o := 256) (x' := (Al.mk e_8.next other_4 e_8.ends)) (xR rfl) (Tg (i := 0) rfl) rfl)) rfl rfl (fun _ => ⟨_, rfl⟩) ?_
 rintro _ rfl
 refine D2 fun B => ?_
 refine Aq (Cm _ _ []) 67 107 B rfl rfl ?_
 refine A8 ?_
 refine Ik Uc wB tS ([e_5] : List Int) (eK .i16) ?_
 obtain ⟨l_3, hl_3, G⟩ := Ac G
 refine Jg (rd := [1, 83]) rfl rfl (aP Uc (Q8 _) .row rfl hl_3 rfl (List.Mem.head _) rfl) rfl rfl (fun _ => ⟨_, rfl⟩) ?_
 rintro _ rfl
 refine B4 fun B => ?_
 exact ⟨(Bi states_3 ((e_5).toNat) (Al.mk e_8.next other_4 e_8.ends), l_3), G, A3 [(0, 0), (1, 91), (2, 2)]⟩
 rintro ⟨states_5, queue_5⟩ G
 replace G : Bf.j5 x43_3 states_5 queue_5 = some o3 := G
 show Cp _ _ _ _ (mk _ _ _)
 unfold Bf.j5 at G
 refine Aq (Cm _ _ []) 3 19 Bg rfl rfl ?_
 refine B4 fun B => ?_
 obtain rfl := oi_ G
 exact ⟨((W (x43_3 + 1), states_5, queue_5), m3), xO _, hn3, A3 [(0, 0), (1, 1), (2, 2)]⟩
 refine F8 ?_
 replace G := B1 G hn3
 obtain rfl := oi_ G
 exact ⟨((states_3, queue_3), m1), xO _, hn1, A3 [(0, 0), (1, 1), (2, 2)]⟩
 refine F8 ?_
 replace G := B1 G hn1
 refine Bt 27 43 B fun B => ?_
 exact Nv
theorem Qp (h' : Ab) (c0 : (List Ab)) (r : Bool × (List Ab)) (G : Ff h' c0 = some r) : Fn Try.prog 32 1 [.agg [vk h'.Pattern, vk h'.At], .ptr 0 0] [.box [.row 1] 31, .row 47 2 (As Ab.enc c0)] (fun d' b' => d' = .val (.bool r.1) /\ b' = [.box [.row 1] 31, .row 47 2 (As Ab.enc r.2)]) := by
 unfold Ff at G
 refine Fn.of Try.func32 rfl rfl rfl fun w0 I ρ0 => ?_
 show Cp _ ⟨w0, I, ρ0, 1, 2, 11⟩ _ _ _
 refine Bt 2 18 Bg fun B => ?_
 refine C4 18 58 B ?_
 refine A8 ?_
 refine Ik iV oI Ic ([h'] : List Ab) Ab.enc ?_
 obtain ⟨l, hl, G⟩ := Ac G
 refine Ei (rd := [1, 34]) rfl rfl (Fu iV Ab.enc_len .row rfl .row rfl hl rfl) rfl rfl ?_
 refine B4 fun B => ?_
 refine Bt 58 90 B fun B => ?_
 refine El ?_
 obtain rfl := oi_ G
 exact Ee [(0, 0), (1, 42)] ⟨rfl, rfl⟩
theorem G1 (p : (List Ai)) (b : (List UInt8)) (yield : Ab -> (List Ab) -> Option (Bool × (List Ab))) (yield_b0 : (List Ab)) (hf_yield : ∀ (x0 : Ab) (b0 : (List Ab)) (y : Bool × (List Ab)), yield x0 b0 = some y -> Fn Try.prog 32 1 [.agg [vk x0.Pattern, vk x0.At], .ptr 0 0] [.box [.row 1] 31, .row 47 2 (As Ab.enc b0)] (fun d' b' => d' = .val (.bool y.1) /\ b' = [.box [.row 1] 31, .row 47 2 (As Ab.enc y.2)])) (r : (List Ab)) (G : Be p b yield yield_b0 = some r) : Fn Try.prog 31 1 [.sl 3 (As Ai.enc p), .sl 1 (As e8 b), .clo 32 0 [.ptr 0 0]] [.box [.row 1] 31, .row 47 2 (As Ab.enc yield_b0)] (fun d' b' => d' = .tup [] /\ b' = [.box [.row 1] 31, .row 47 2 (As Ab.enc r)]) := by
 unfold Be at G
 refine Fn.of Try.func31 rfl rfl rfl fun w0 I ρ0 => ?_
 show Cp _ ⟨w0, I, ρ0, 1, 2, 54⟩ _ _ _
 refine C4 2 26 Bg ?_
 refine A8 ?_
 obtain ⟨y, hy, G⟩ := Ac G
 refine Ix (K5 _ _ hy) ?_
 refine B4 fun B => ?_
 refine Bt 26 34 B fun B => ?_
 refine Bt 34 58 B fun B => ?_
 refine Ar <| Gg (fun ((at_1, x16_1, l_1) : Int × Int × List Ab) => mk [(0, .sl 3 (As Ai.enc p)), (2, .clo 32 0 [.ptr 0 0]), (6, .sl 258 (As Al.enc y)), (7, .val (.int .i16 at_1)), (14, .sl 1 (As e8 b)), (15, .val (.int .i64 (b.length : Int))), (16, vk x16_1)] [(0, .box [.row 1] 31), (1, .row 47 2 (As Ab.enc l_1))] 2) G (A3 [(0, 0), (1, 1)]) ?_
 rintro ⟨at_1, x16_1, l_1⟩ m1 o1 G hn1
 replace G : Be.l1 p b yield y at_1 x16_1 l_1 = some o1 := G
 show Cp _ _ _ _ (mk _ _ _)
 unfold Be.l1 at G
 refine Bt 2 10 Bg fun B => ?_
 refine An <| C1 rfl G (fun h5 G => ?_) fun h5 G => ?_
 refine C9 ?_
 refine An <| Ar <| C4 10 50 B ?_
 refine A8 ?_
 obtain ⟨e, he, G⟩ := Ac G
 refine A8 ?_
 refine Uw he ?_
 refine B4 fun B => ?_
 refine C4 50 114 B ?_
 refine A8 ?_
 obtain ⟨e_2, he_2, G⟩ := Ac G
 refine A8 ?_
 refine D1 rfl rfl (Dz aF rA (by decide) (Eu Al.enc_len (A4 he_2) (o := 0) (by decide) rfl)) rfl rfl ?_
 obtain ⟨e_3, he_3, G⟩ := Ac G
 refine Jg (rd := []) rfl rfl (.idxA (j := (((e.toNat : Int)).toNat)) Qs K0 (Er he_3) (G8 (A4 he_3))) rfl rfl (fun _ => ⟨_, rfl⟩) ?_
 rintro _ rfl
 refine D1 rfl rfl (D4 K0 (W5 Al.enc_len (A4 he_2) rfl (A4 he_3))) rfl rfl ?_
 refine B4 fun B => ?_
 refine C4 114 170 B ?_
 refine A8 ?_
 obtain ⟨e_4, he_4, G⟩ := Ac G
 refine A8 ?_
 refine D1 rfl rfl (Dz bS Vz (by decide) (Eu Al.enc_len (A4 he_4) (o := 257) (by decide) rfl)) rfl rfl ?_
 refine D1 rfl rfl (D4 Vz (C8 Al.enc_len (A4 he_4) (o := 257) (c := .sl 1 (As eI e_4.ends)) (Oo (i := 1) rfl) rfl)) rfl rfl ?_
 refine B4 fun B => ?_
 refine Ar <| Gg (fun ((x34_2, l_2) : Int × List Ab) => mk [(0, .sl 3 (As Ai.enc p)), (2, .clo 32 0 [.ptr 0 0]), (6, .sl 258 (As Al.enc y)), (7, .val (.int .i16 e_3)), (8, vk x16_1), (14, .sl 1 (As e8 b)), (15, .val (.int .i64 (b.length : Int))), (16, vk x16_1), (32, .sl 1 (As eI e_4.ends)), (33, .val (.int .i64 (e_4.ends.length : Int))), (34, vk x34_2)] [(0, .box [.row 1] 31), (1, .row 47 2 (As Ab.enc l_2))] 2) G (A3 [(0, 0), (1, 1)]) ?_
 rintro ⟨x34_2, l_2⟩ m2 o2 G hn2
 replace G : Be.l2 p yield x16_1 e_3 e_4 x34_2 l_2 = some o2 := G
 show Cp _ _ _ _ (mk _ _ _)
 unfold Be.l2 at G
 refine Bt 2 10 Bg fun B => ?_
 refine An <| C1 rfl G (fun h10 G => ?_) fun h10 G => ?_
 refine C9 ?_
 refine An <| Ar <| C4 10 34 B ?_
 obtain ⟨e_5, he_5, G⟩ := Ac G
 refine A8 ?_
 refine Uw he_5 ?_
 refine B4 fun B => ?_
 refine C4 34 146 B ?_
 refine A8 ?_
 obtain ⟨e_6, he_6, G⟩ := Ac G
 refine A8 ?_
 refine D1 rfl rfl (Dz Pi Ky (by decide) (Eu Ai.enc_len (A4 he_6) (o := 2) (by decide) rfl)) rfl rfl ?_
 refine D1 rfl rfl (D4 Ky (C8 Ai.enc_len (A4 he_6) (o := 2) (c := .sl 1 (As e8 e_6.Bytes)) rfl rfl)) rfl rfl ?_
 refine A8 ?_
 refine Z9 Ue jW oI ?_
 obtain ⟨y_2, hy_2, G⟩ := Ac G
 refine Ub (rd := [0, 1]) (ps := [0]) (gs := [1]) false rfl rfl (hf_yield (Ab.mk e_5 (W ((W (x16_1 + 1)) - (e_6.Bytes.length : Int)))) l_2 _ hy_2) rfl rfl (.cons (.agg (.cons .val (.cons .val .nil))) (.cons (.ptr rfl) .nil)) ⟨_, _, _, rfl, .head _, ⟨_, rfl, (by repeat' (first | exact Kx.nil | apply Kx.cons | exact Ag.val | exact Ag.sl | exact Ag.nils | exact Ag.ptr rfl | exact Ag.rowK rfl))⟩, ⟨_, _, _, rfl, .tail _ (.head _), rfl, rfl⟩⟩ rfl (by intro h; cases h) rfl (by intro h; first | (cases h; done) | exact ⟨_, _, ⟨rfl, rfl⟩, by simp, by simp⟩) ?_
 rintro _ _ ⟨rfl, rfl⟩
 refine B4 fun B => ?_
 refine C1 rfl G (fun h13 G => ?_) fun h13 G => ?_
 refine Mt ?_
 refine sW ?_
 replace G := B1 G hn2
 replace G := B1 G hn1
 obtain rfl := oi_ G
 exact Ee [(0, 0), (1, 130)] ⟨rfl, rfl⟩
 refine C9 ?_
 refine Aq (Cm _ _ []) 146 162 B rfl rfl ?_
 refine B4 fun B => ?_
 obtain rfl := oi_ G
 exact ⟨((W (x34_2 + 1), y_2.2), m2), xO _, hn2, A3 [(0, 0), (1, 130)]⟩
 refine F8 ?_
 replace G := B1 G hn2
 refine Aq (Cm _ _ []) 10 26 B rfl rfl ?_
 refine B4 fun B => ?_
 obtain rfl := oi_ G
 exact ⟨((e_3, W (x16_1 + 1), l_2), m1), xO _, hn1, A3 [(0, 0), (1, 1)]⟩
 refine F8 ?_
 replace G := B1 G hn1
 obtain rfl := oi_ G
 exact Ee [(0, 0), (1, 1)] ⟨rfl, rfl⟩
end Go.Proofs.Ytfkgbfhpibiheaa
