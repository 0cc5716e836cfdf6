import Derived.Test.YtidpkjdkfkkgiaaGreatT1
set_option linter.unusedVariables false
set_option linter.unusedSimpArgs false
set_option maxRecDepth 100000
set_option maxHeartbeats 1600000
namespace Go.Proofs.YtidpkjdkfkkgiaaGreat
open Go.RowKit
theorem bB (l : (List Int)) (r : Bool) (G : Mo l = some r) : Fn Tryz.prog 5 0 [.sl 1 (Aq eI l)] [] (fun d' b' => d' = .val (.bool r) /\ b' = []) := by
 unfold Mo at G
 refine Fn.of Tryz.func5 rfl rfl rfl fun w0 I ρ0 => ?_
 show B2 _ ⟨w0, I, ρ0, 0, 0, 6⟩ _ _ _
 refine Bh 0 8 A5 fun B => ?_
 refine Bh 8 40 B fun B => ?_
 exact La
theorem He (s : ByteArray) (r : Bool) (G : Bs s = some r) : Fn Tryz.prog 58 0 [ws s] [] (fun d' b' => d' = .val (.bool r) /\ b' = []) := by
 unfold Bs at G
 refine Fn.of Tryz.func58 rfl rfl rfl fun w0 I ρ0 => ?_
 show B2 _ ⟨w0, I, ρ0, 0, 0, 27⟩ _ _ _
 refine Bh 0 8 A5 fun B => ?_
 refine Aj <| B9 8 40 B ?_
 refine Aw ?_
 refine C0 rfl rfl (cA Vc oV Mc) rfl rfl ?_
 refine Bj fun B => ?_
 refine Ap <| Jy (fun (x8_1 : Int) => mk [(0, ws s), (6, .sl 1 (Aq e8 (Im s))), (7, .val (.int .i64 ((Im s).length : Int))), (8, vk x8_1)] [] 0) G (A1 []) ?_
 rintro x8_1 m1 o1 G hn1
 replace G : Bs.l1 s x8_1 = some o1 := G
 show B2 _ _ _ _ (mk _ _ _)
 unfold Bs.l1 at G
 refine Bh 0 8 A5 fun B => ?_
 refine Aj <| C4 rfl G (fun h4 G => ?_) fun h4 G => ?_
 refine Dg ?_
 refine Aj <| Ap <| B9 8 32 B ?_
 obtain ⟨e, he, G⟩ := Ab G
 refine Aw ?_
 refine Ra he ?_
 refine Bj fun B => ?_
 refine Bo (ι := Bool) (fun (x17_2 : Bool) => mk [(0, ws s), (6, .sl 1 (Aq e8 (Im s))), (7, .val (.int .i64 ((Im s).length : Int))), (8, vk x8_1), (17, .val (.bool x17_2))] [] 0) (fun (x17_2 : Bool) => Bs.j2 x8_1 x17_2 = some o1) ?_ ?_
 refine Ak (B8 _ _ []) 32 80 B rfl rfl ?_
 refine Aw ?_
 rcases D9 G with ⟨h6, G⟩ | ⟨h6, G⟩
 refine Bj fun B => ?_
 exact ⟨true, G, A1 []⟩
 refine Bj fun B => ?_
 exact ⟨decide (126 < (e.toNat : Int)), G, A1 []⟩
 rintro x17_2 G
 replace G : Bs.j2 x8_1 x17_2 = some o1 := G
 show B2 _ _ _ _ (mk _ _ _)
 unfold Bs.j2 at G
 refine C4 rfl G (fun h9 G => ?_) fun h9 G => ?_
 refine Bh 0 8 A5 fun B => ?_
 refine Fg ?_
 replace G := Cn G hn1
 exact Zh
 refine Dg ?_
 refine Ak (B8 _ _ []) 0 16 A5 rfl rfl ?_
 refine Bj fun B => ?_
 obtain rfl := oi_ G
 exact ⟨(W (x8_1 + 1), m1), Nat.lt_succ_self _, hn1, A1 []⟩
 refine Jl ?_
 replace G := Cn G hn1
 refine B9 8 80 B ?_
 refine Aw ?_
 refine C0 rfl rfl (Tn Vc) rfl rfl ?_
 refine Aw ?_
 rcases D9 G with ⟨h12, G⟩ | ⟨h12, G⟩
 refine Aw ?_
 refine C0 (E5 rfl rfl h12) rfl (Tn Vc) rfl rfl ?_
 exact De
 exact De
theorem Xo  (r : (List Bv)) (G : N7 = some r) : Fn Tryz.prog 145 0 [] [] (fun d' b' => d' = .agg [.val (.string ((r[0]!).name)), .val (.int .i64 ((r[0]!).kind)), .val (.int .i64 ((r[0]!).way)), .sl 1 (Aq eI ((r[0]!).sizes)), .sl 1 (Aq eI ((r[0]!).strengths)), .val (.string ((r[1]!).name)), .val (.int .i64 ((r[1]!).kind)), .val (.int .i64 ((r[1]!).way)), .sl 1 (Aq eI ((r[1]!).sizes)), .sl 1 (Aq eI ((r[1]!).strengths)), .val (.string ((r[2]!).name)), .val (.int .i64 ((r[2]!).kind)), .val (.int .i64 ((r[2]!).way)), .sl 1 (Aq eI ((r[2]!).sizes)), .sl 1 (Aq eI ((r[2]!).strengths)), .val (.string ((r[3]!).name)), .val (.int .i64 ((r[3]!).kind)), .val (.int .i64 ((r[3]!).way)), .sl 1 (Aq eI ((r[3]!).sizes)), .sl 1 (Aq eI ((r[3]!).strengths)), .val (.string ((r[4]!).name)), .val (.int .i64 ((r[4]!).kind)), .val (.int .i64 ((r[4]!).way)), .sl 1 (Aq eI ((r[4]!).sizes)), .sl 1 (Aq eI ((r[4]!).strengths)), .val (.string ((r[5]!).name)), .val (.int .i64 ((r[5]!).kind)), .val (.int .i64 ((r[5]!).way)), .sl 1 (Aq eI ((r[5]!).sizes)), .sl 1 (Aq eI ((r[5]!).strengths)), .val (.string ((r[6]!).name)), .val (.int .i64 ((r[6]!).kind)), .val (.int .i64 ((r[6]!).way)), .sl 1 (Aq eI ((r[6]!).sizes)), .sl 1 (Aq eI ((r[6]!).strengths)), .val (.string ((r[7]!).name)), .val (.int .i64 ((r[7]!).kind)), .val (.int .i64 ((r[7]!).way)), .sl 1 (Aq eI ((r[7]!).sizes)), .sl 1 (Aq eI ((r[7]!).strengths)), .val (.string ((r[8]!).name)), .val (.int .i64 ((r[8]!).kind)), .val (.int .i64 ((r[8]!).way)), .sl 1 (Aq eI ((r[8]!).sizes)), .sl 1 (Aq eI ((r[8]!).strengths)), .val (.string ((r[9]!).name)), .val (.int .i64 ((r[9]!).kind)), .val (.int .i64 ((r[9]!).way)), .sl 1 (Aq eI ((r[9]!).sizes)), .sl 1 (Aq eI ((r[9]!).strengths)), .val (.string ((r[10]!).name)), .val (.int .i64 ((r[10]!).kind)), .val (.int .i64 ((r[10]!).way)), .sl 1 (Aq eI ((r[10]!).sizes)), .sl 1 (Aq eI ((r[10]!).strengths)), .val (.string ((r[11]!).name)), .val (.int .i64 ((r[11]!).kind)), .val (.int .i64 ((r[11]!).way)), .sl 1 (Aq eI ((r[11]!).sizes)), .sl 1 (Aq eI ((r[11]!).strengths)), .val (.string ((r[12]!).name)), .val (.int .i64 ((r[12]!).kind)), .val (.int .i64 ((r[12]!).way)), .sl 1 (Aq eI ((r[12]!).sizes)), .sl 1 (Aq eI ((r[12]!).strengths)), .val (.string ((r[13]!).name)), .val (.int .i64 ((r[13]!).kind)), .val (.int .i64 ((r[13]!).way)), .sl 1 (Aq eI ((r[13]!).sizes)), .sl 1 (Aq eI ((r[13]!).strengths)), .val (.string ((r[14]!).name)), .val (.int .i64 ((r[14]!).kind)), .val (.int .i64 ((r[14]!).way)), .sl 1 (Aq eI ((r[14]!).sizes)), .sl 1 (Aq eI ((r[14]!).strengths)), .val (.string ((r[15]!).name)), .val (.int .i64 ((r[15]!).kind)), .val (.int .i64 ((r[15]!).way)), .sl 1 (Aq eI ((r[15]!).sizes)), .sl 1 (Aq eI ((r[15]!).strengths)), .val (.string ((r[16]!).name)), .val (.int .i64 ((r[16]!).kind)), .val (.int .i64 ((r[16]!).way)), .sl 1 (Aq eI ((r[16]!).sizes)), .sl 1 (Aq eI ((r[16]!).strengths)), .val (.string ((r[17]!).name)), .val (.int .i64 ((r[17]!).kind)), .val (.int .i64 ((r[17]!).way)), .sl 1 (Aq eI ((r[17]!).sizes)), .sl 1 (Aq eI ((r[17]!).strengths)), .val (.string ((r[18]!).name)), .val (.int .i64 ((r[18]!).kind)), .val (.int .i64 ((r[18]!).way)), .sl 1 (Aq eI ((r[18]!).sizes)), .sl 1 (Aq eI ((r[18]!).strengths)), .val (.string ((r[19]!).name)), .val (.int .i64 ((r[19]!).kind)), .val (.int .i64 ((r[19]!).way)), .sl 1 (Aq eI ((r[19]!).sizes)), .sl 1 (Aq eI ((r[19]!).strengths)), .val (.string ((r[20]!).name)), .val (.int .i64 ((r[20]!).kind)), .val (.int .i64 ((r[20]!).way)), .sl 1 (Aq eI ((r[20]!).sizes)), .sl 1 (Aq eI ((r[20]!).strengths)), .val (.string ((r[21]!).name)), .val (.int .i64 ((r[21]!).kind)), .val (.int .i64 ((r[21]!).way)), .sl 1 (Aq eI ((r[21]!).sizes)), .sl 1 (Aq eI ((r[21]!).strengths)), .val (.string ((r[22]!).name)), .val (.int .i64 ((r[22]!).kind)), .val (.int .i64 ((r[22]!).way)), .sl 1 (Aq eI ((r[22]!).sizes)), .sl 1 (Aq eI ((r[22]!).strengths))] /\ b' = []) := by
 unfold N7 at G
 refine Fn.of Tryz.func145 rfl rfl rfl fun w0 I ρ0 => ?_
 show B2 _ ⟨w0, I, ρ0, 0, 0, 46⟩ _ _ _
 refine Bh 0 8 A5 fun B => ?_
 refine B9 8 376 B ?_
 refine Kh Ek z3 Jv ([18] : List Int) eI ?_
 refine C0 rfl rfl (.build (r := [.val (.string (⟨#[109, 100, 53]⟩ : ByteArray)), .val (.int .i64 1), .val (.int .i64 0), .val (.slice none 0 0), .row 8]) Gj Jp Mr (by kernel_rfl) rfl) rfl rfl ?_
 refine Kh Ek z3 Jv ([60] : List Int) eI ?_
 refine C0 rfl rfl (.build (r := [.val (.string (⟨#[115, 104, 97, 49]⟩ : ByteArray)), .val (.int .i64 1), .val (.int .i64 0), .val (.slice none 0 0), .row 24]) Gj Jp Mr (by kernel_rfl) rfl) rfl rfl ?_
 refine Kh Ek z3 Jv ([128] : List Int) eI ?_
 refine C0 rfl rfl (.build (r := [.val (.string (⟨#[115, 104, 97, 50, 53, 54]⟩ : ByteArray)), .val (.int .i64 1), .val (.int .i64 0), .val (.slice none 0 0), .row 40]) Gj Jp Mr (by kernel_rfl) rfl) rfl rfl ?_
 refine Kh Ek z3 Jv ([192] : List Int) eI ?_
 refine C0 rfl rfl (.build (r := [.val (.string (⟨#[115, 104, 97, 51, 56, 52]⟩ : ByteArray)), .val (.int .i64 1), .val (.int .i64 0), .val (.slice none 0 0), .row 56]) Gj Jp Mr (by kernel_rfl) rfl) rfl rfl ?_
 refine C0 rfl rfl (.build (r := [.val (.string (⟨#[114, 115, 97]⟩ : ByteArray)), .val (.int .i64 2), .val (.int .i64 1), .val (.slice none 0 0), .val (.slice none 0 0)]) Gj Jp Mr (by kernel_rfl) rfl) rfl rfl ?_
 refine C0 rfl rfl (.build (r := [.val (.string (⟨#[100, 115, 97]⟩ : ByteArray)), .val (.int .i64 2), .val (.int .i64 1), .val (.slice none 0 0), .val (.slice none 0 0)]) Gj Jp Mr (by kernel_rfl) rfl) rfl rfl ?_
 refine C0 rfl rfl (.build (r := [.val (.string (⟨#[101, 99, 100, 115, 97]⟩ : ByteArray)), .val (.int .i64 2), .val (.int .i64 2), .val (.slice none 0 0), .val (.slice none 0 0)]) Gj Jp Mr (by kernel_rfl) rfl) rfl rfl ?_
 refine Kh Ek z3 Jv ([128] : List Int) eI ?_
 refine C0 rfl rfl (.build (r := [.val (.string (⟨#[101, 100, 50, 53, 53, 49, 57]⟩ : ByteArray)), .val (.int .i64 2), .val (.int .i64 0), .val (.slice none 0 0), .row 96]) Gj Jp Mr (by kernel_rfl) rfl) rfl rfl ?_
 refine Kh Ek z3 Jv ([44, 65, 87] : List Int) eI ?_
 refine Kh Ek z3 Jv ([128, 192, 256] : List Int) eI ?_
 refine C0 rfl rfl (.build (r := [.val (.string (⟨#[109, 108, 100, 115, 97]⟩ : ByteArray)), .val (.int .i64 2), .val (.int .i64 3), .row 112, .row 120]) Gj Jp Mr (by kernel_rfl) rfl) rfl rfl ?_
 refine C0 rfl rfl (.build (r := [.val (.string (⟨#[114, 115, 97, 107, 120]⟩ : ByteArray)), .val (.int .i64 3), .val (.int .i64 1), .val (.slice none 0 0), .val (.slice none 0 0)]) Gj Jp Mr (by kernel_rfl) rfl) rfl rfl ?_
 refine C0 rfl rfl (.build (r := [.val (.string (⟨#[100, 104, 101]⟩ : ByteArray)), .val (.int .i64 3), .val (.int .i64 1), .val (.slice none 0 0), .val (.slice none 0 0)]) Gj Jp Mr (by kernel_rfl) rfl) rfl rfl ?_
 refine C0 rfl rfl (.build (r := [.val (.string (⟨#[101, 99, 100, 104, 101]⟩ : ByteArray)), .val (.int .i64 3), .val (.int .i64 2), .val (.slice none 0 0), .val (.slice none 0 0)]) Gj Jp Mr (by kernel_rfl) rfl) rfl rfl ?_
 refine Kh Ek z3 Jv ([512, 768, 1024] : List Int) eI ?_
 refine Kh Ek z3 Jv ([128, 192, 256] : List Int) eI ?_
 refine C0 rfl rfl (.build (r := [.val (.string (⟨#[109, 108, 107, 101, 109]⟩ : ByteArray)), .val (.int .i64 3), .val (.int .i64 3), .row 160, .row 168]) Gj Jp Mr (by kernel_rfl) rfl) rfl rfl ?_
 refine Kh Ek z3 Jv ([40, 128] : List Int) eI ?_
 refine Kh Ek z3 Jv ([40, 60] : List Int) eI ?_
 refine C0 rfl rfl (.build (r := [.val (.string (⟨#[114, 99, 52]⟩ : ByteArray)), .val (.int .i64 4), .val (.int .i64 3), .row 184, .row 192]) Gj Jp Mr (by kernel_rfl) rfl) rfl rfl ?_
 refine Kh Ek z3 Jv ([112, 168] : List Int) eI ?_
 refine Kh Ek z3 Jv ([80, 112] : List Int) eI ?_
 refine C0 rfl rfl (.build (r := [.val (.string (⟨#[100, 101, 115, 51]⟩ : ByteArray)), .val (.int .i64 4), .val (.int .i64 3), .row 208, .row 216]) Gj Jp Mr (by kernel_rfl) rfl) rfl rfl ?_
 refine Kh Ek z3 Jv ([128, 256] : List Int) eI ?_
 refine Kh Ek z3 Jv ([128, 256] : List Int) eI ?_
 refine C0 rfl rfl (.build (r := [.val (.string (⟨#[97, 101, 115, 99, 98, 99]⟩ : ByteArray)), .val (.int .i64 4), .val (.int .i64 3), .row 232, .row 240]) Gj Jp Mr (by kernel_rfl) rfl) rfl rfl ?_
 refine Kh Ek z3 Jv ([128, 256] : List Int) eI ?_
 refine Kh Ek z3 Jv ([128, 256] : List Int) eI ?_
 refine C0 rfl rfl (.build (r := [.val (.string (⟨#[97, 101, 115, 103, 99, 109]⟩ : ByteArray)), .val (.int .i64 4), .val (.int .i64 3), .row 256, .row 264]) Gj Jp Mr (by kernel_rfl) rfl) rfl rfl ?_
 refine Kh Ek z3 Jv ([256] : List Int) eI ?_
 refine C0 rfl rfl (.build (r := [.val (.string (⟨#[99, 104, 97, 99, 104, 97]⟩ : ByteArray)), .val (.int .i64 4), .val (.int .i64 0), .val (.slice none 0 0), .row 280]) Gj Jp Mr (by kernel_rfl) rfl) rfl rfl ?_
 refine Kh Ek z3 Jv ([64] : List Int) eI ?_
 refine C0 rfl rfl (.build (r := [.val (.string (⟨#[104, 109, 97, 99, 109, 100, 53]⟩ : ByteArray)), .val (.int .i64 5), .val (.int .i64 0), .val (.slice none 0 0), .row 296]) Gj Jp Mr (by kernel_rfl) rfl) rfl rfl ?_
 refine Kh Ek z3 Jv ([80] : List Int) eI ?_
 refine C0 rfl rfl (.build (r := [.val (.string (⟨#[104, 109, 97, 99, 115, 104, 97, 49]⟩ : ByteArray)), .val (.int .i64 5), .val (.int .i64 0), .val (.slice none 0 0), .row 312]) Gj Jp Mr (by kernel_rfl) rfl) rfl rfl ?_
 refine Kh Ek z3 Jv ([128] : List Int) eI ?_
 refine C0 rfl rfl (.build (r := [.val (.string (⟨#[104, 109, 97, 99, 115, 104, 97, 50, 53, 54]⟩ : ByteArray)), .val (.int .i64 5), .val (.int .i64 0), .val (.slice none 0 0), .row 328]) Gj Jp Mr (by kernel_rfl) rfl) rfl rfl ?_
 refine Kh Ek z3 Jv ([256] : List Int) eI ?_
 refine C0 rfl rfl (.build (r := [.val (.string (⟨#[97, 101, 97, 100]⟩ : ByteArray)), .val (.int .i64 5), .val (.int .i64 0), .val (.slice none 0 0), .row 344]) Gj Jp Mr (by kernel_rfl) rfl) rfl rfl ?_
 refine C0 rfl rfl (.buildArr (sz := 5) (r := [.val (.string (⟨#[]⟩ : ByteArray)), .val (.int .i64 0), .val (.int .i64 0), .val (.slice none 0 0), .val (.slice none 0 0), .val (.string (⟨#[109, 100, 53]⟩ : ByteArray)), .val (.int .i64 1), .val (.int .i64 0), .val (.slice none 0 0), .row 8, .val (.string (⟨#[115, 104, 97, 49]⟩ : ByteArray)), .val (.int .i64 1), .val (.int .i64 0), .val (.slice none 0 0), .row 24, .val (.string (⟨#[115, 104, 97, 50, 53, 54]⟩ : ByteArray)), .val (.int .i64 1), .val (.int .i64 0), .val (.slice none 0 0), .row 40, .val (.string (⟨#[115, 104, 97, 51, 56, 52]⟩ : ByteArray)), .val (.int .i64 1), .val (.int .i64 0), .val (.slice none 0 0), .row 56, .val (.string (⟨#[114, 115, 97]⟩ : ByteArray)), .val (.int .i64 2), .val (.int .i64 1), .val (.slice none 0 0), .val (.slice none 0 0), .val (.string (⟨#[100, 115, 97]⟩ : ByteArray)), .val (.int .i64 2), .val (.int .i64 1), .val (.slice none 0 0), .val (.slice none 0 0), .val (.string (⟨#[101, 99, 100, 115, 97]⟩ : ByteArray)), .val (.int .i64 2), .val (.int .i64 2), .val (.slice none 0 0), .val (.slice none 0 0), .val (.string (⟨#[101, 100, 50, 53, 53, 49, 57]⟩ : ByteArray)), .val (.int .i64 2), .val (.int .i64 0), .val (.slice none 0 0), .row 96, .val (.string (⟨#[109, 108, 100, 115, 97]⟩ : ByteArray)), .val (.int .i64 2), .val (.int .i64 3), .row 112, .row 120, .val (.string (⟨#[114, 115, 97, 107, 120]⟩ : ByteArray)), .val (.int .i64 3), .val (.int .i64 1), .val (.slice none 0 0), .val (.slice none 0 0), .val (.string (⟨#[100, 104, 101]⟩ : ByteArray)), .val (.int .i64 3), .val (.int .i64 1), .val (.slice none 0 0), .val (.slice none 0 0), .val (.string (⟨#[101, 99, 100, 104, 101]⟩ : ByteArray)), .val (.int .i64 3), .val (.int .i64 2), .val (.slice none 0 0), .val (.slice none 0 0), .val (.string (⟨#[109, 108, 107, 101, 109]⟩ : ByteArray)), .val (.int .i64 3), .val (.int .i64 3), .row 160, .row 168, .val (.string (⟨#[114, 99, 52]⟩ : ByteArray)), .val (.int .i64 4), .val (.int .i64 3), .row 184, .row 192, .val (.string (⟨#[100, 101, 115, 51]⟩ : ByteArray)), .val (.int .i64 4), .val (.int .i64 3), .row 208, .row 216, .val (.string (⟨#[97, 101, 115, 99, 98, 99]⟩ : ByteArray)), .val (.int .i64 4), .val (.int .i64 3), .row 232, .row 240, .val (.string (⟨#[97, 101, 115, 103, 99, 109]⟩ : ByteArray)), .val (.int .i64 4), .val (.int .i64 3), .row 256, .row 264, .val (.string (⟨#[99, 104, 97, 99, 104, 97]⟩ : ByteArray)), .val (.int .i64 4), .val (.int .i64 0), .val (.slice none 0 0), .row 280, .val (.string (⟨#[104, 109, 97, 99, 109, 100, 53]⟩ : ByteArray)), .val (.int .i64 5), .val (.int .i64 0), .val (.slice none 0 0), .row 296, .val (.string (⟨#[104, 109, 97, 99, 115, 104, 97, 49]⟩ : ByteArray)), .val (.int .i64 5), .val (.int .i64 0), .val (.slice none 0 0), .row 312, .val (.string (⟨#[104, 109, 97, 99, 115, 104, 97, 50, 53, 54]⟩ : ByteArray)), .val (.int .i64 5), .val (.int .i64 0), .val (.slice none 0 0), .row 328, .val (.string (⟨#[97, 101, 97, 100]⟩ : ByteArray)), .val (.int .i64 5), .val (.int .i64 0), .val (.slice none 0 0), .row 344]) qU (by kernel_rfl) aBz (by kernel_rfl) rfl) rfl rfl ?_
 exact De
theorem Us (alg : Int) (r : Bv × Bool) (G : Ef alg = some r) : Fn Tryz.prog 119 0 [vk alg] [] (fun d' b' => d' = .tup [.agg (Bv.dv r.1), .val (.bool r.2)] /\ b' = []) := by
 unfold Ef at G
 refine Fn.of Tryz.func119 rfl rfl rfl fun w0 I ρ0 => ?_
 show B2 _ ⟨w0, I, ρ0, 0, 0, 14⟩ _ _ _
 refine Bh 0 16 A5 fun B => ?_
 refine Aj <| Bo (ι := Bool) (fun (x9_1 : Bool) => mk [(0, vk alg), (2, .ptr 0 0), (9, .val (.bool x9_1))] [(0, .box [.val (.string (⟨#[]⟩ : ByteArray)), .val (.int .i64 0), .val (.int .i64 0), .val (.slice none 0 0), .val (.slice none 0 0)] 141)] 1) (fun (x9_1 : Bool) => Ef.j1 alg x9_1 = some r) ?_ ?_
 refine Ak (B8 _ _ []) 16 64 B rfl rfl ?_
 refine Aw ?_
 rcases D9 G with ⟨h2, G⟩ | ⟨h2, G⟩
 refine Bj fun B => ?_
 exact ⟨true, G, A1 [(0, 0)]⟩
 refine Bj fun B => ?_
 exact ⟨decide (22 < alg), G, A1 [(0, 0)]⟩
 rintro x9_1 G
 replace G : Ef.j1 alg x9_1 = some r := G
 show B2 _ _ _ _ (mk _ _ _)
 unfold Ef.j1 at G
 refine C4 rfl G (fun h5 G => ?_) fun h5 G => ?_
 refine B9 1 25 A5 ?_
 refine Qz Gj Jp Mr ?_
 exact De
 refine Dg ?_
 refine B9 1 41 A5 ?_
 obtain ⟨y, hy, G⟩ := Ab G
 refine Do (Xo _ hy) ?_
 refine Aw ?_
 obtain ⟨e, he, G⟩ := Ab G
 refine C0 rfl rfl (Z9 (f := Bv.enc) (L := (aB0 23 y)) qU vP Bv.enc_len rfl rfl he (d2 := [ws e.name, vk e.kind, vk e.way, .sl 1 (Aq eI e.sizes), .sl 1 (Aq eI e.strengths)]) rfl) rfl rfl ?_
 exact De
theorem Ux (bits : Int) (r : Int) (G : Db bits = some r) : Fn Tryz.prog 120 0 [vk bits] [] (fun d' b' => d' = vk r /\ b' = []) := by
 unfold Db at G
 refine Fn.of Tryz.func120 rfl rfl rfl fun w0 I ρ0 => ?_
 show B2 _ ⟨w0, I, ρ0, 0, 0, 21⟩ _ _ _
 refine Bh 0 8 A5 fun B => ?_
 refine Aj <| B9 8 64 B ?_
 refine C0 rfl rfl (.buildArr (sz := 1) (r := [.val (.int .i64 1024), .val (.int .i64 56)]) Tu (by kernel_rfl) lI (by kernel_rfl) rfl) rfl rfl ?_
 refine C0 rfl rfl (.buildArr (sz := 1) (r := [.val (.int .i64 2048), .val (.int .i64 80)]) Tu (by kernel_rfl) lI (by kernel_rfl) rfl) rfl rfl ?_
 refine C0 rfl rfl (.buildArr (sz := 1) (r := [.val (.int .i64 3072), .val (.int .i64 112)]) Tu (by kernel_rfl) lI (by kernel_rfl) rfl) rfl rfl ?_
 refine C0 rfl rfl (.buildArr (sz := 1) (r := [.val (.int .i64 7680), .val (.int .i64 128)]) Tu (by kernel_rfl) lI (by kernel_rfl) rfl) rfl rfl ?_
 refine C0 rfl rfl (.buildArr (sz := 1) (r := [.val (.int .i64 15360), .val (.int .i64 192)]) Tu (by kernel_rfl) lI (by kernel_rfl) rfl) rfl rfl ?_
 refine C0 rfl rfl (.buildArr (sz := 2) (r := [.val (.int .i64 1024), .val (.int .i64 56), .val (.int .i64 2048), .val (.int .i64 80), .val (.int .i64 3072), .val (.int .i64 112), .val (.int .i64 7680), .val (.int .i64 128), .val (.int .i64 15360), .val (.int .i64 192)]) qG (by kernel_rfl) aBy (by kernel_rfl) rfl) rfl rfl ?_
 refine Bj fun B => ?_
 refine Ap <| Jy (fun (x11_1 : Int) => mk [(0, vk bits), (10, .agg [.val (.int .i64 1024), .val (.int .i64 56), .val (.int .i64 2048), .val (.int .i64 80), .val (.int .i64 3072), .val (.int .i64 112), .val (.int .i64 7680), .val (.int .i64 128), .val (.int .i64 15360), .val (.int .i64 192)]), (11, vk x11_1)] [] 0) G (A1 []) ?_
 rintro x11_1 m1 o1 G hn1
 replace G : Db.l1 bits x11_1 = some o1 := G
 show B2 _ _ _ _ (mk _ _ _)
 unfold Db.l1 at G
 refine Bh 0 8 A5 fun B => ?_
 refine Aj <| C4 rfl G (fun h4 G => ?_) fun h4 G => ?_
 refine Dg ?_
 refine Aj <| Ap <| B9 8 32 B ?_
 obtain ⟨e, he, G⟩ := Ab G
 refine C0 rfl rfl (Z9 (f := (eA 2 eI)) (L := ([([1024, 56] : List Int), ([2048, 80] : List Int), ([3072, 112] : List Int), ([7680, 128] : List Int), ([15360, 192] : List Int)] : List (List Int))) qG vY (zE It) rfl rfl he (d2 := [.val (.int .i64 (e[0]!)), .val (.int .i64 (e[1]!))]) rfl) rfl rfl ?_
 refine Bj fun B => ?_
 refine B9 32 64 B ?_
 refine Aw ?_
 refine Gd (rd := [16]) rfl rfl (.idxA (j := 0) Tu hH rfl (by decide)) rfl rfl ?_
 refine Bj fun B => ?_
 refine C4 rfl G (fun h7 G => ?_) fun h7 G => ?_
 refine B9 64 88 B ?_
 refine Gd (rd := [16]) rfl rfl (.idxA (j := 1) Tu hH rfl (by decide)) rfl rfl ?_
 refine Bj fun B => ?_
 refine Fg ?_
 replace G := Cn G hn1
 exact Zh
 refine Dg ?_
 refine Ak (B8 _ _ []) 64 80 B rfl rfl ?_
 refine Bj fun B => ?_
 obtain rfl := oi_ G
 exact ⟨(W (x11_1 + 1), m1), Nat.lt_succ_self _, hn1, A1 []⟩
 refine Jl ?_
 replace G := Cn G hn1
 refine Bh 8 16 B fun B => ?_
 exact La
theorem Ny (s : (List Int)) (v : Int) (r : Int) (G : B3 s v = some r) : Fn Tryz.prog 121 0 [.sl 1 (Aq eI s), vk v] [] (fun d' b' => d' = vk r /\ b' = []) := by
 unfold B3 at G
 refine Fn.of Tryz.func121 rfl rfl rfl fun w0 I ρ0 => ?_
 show B2 _ ⟨w0, I, ρ0, 0, 0, 19⟩ _ _ _
 refine Bh 0 8 A5 fun B => ?_
 refine Aj <| Bh 8 32 B fun B => ?_
 refine Ap <| Jy (fun (x8_1 : Int) => mk [(0, .sl 1 (Aq eI s)), (1, vk v), (7, .val (.int .i64 (s.length : Int))), (8, vk x8_1)] [] 0) G (A1 []) ?_
 rintro x8_1 m1 o1 G hn1
 replace G : B3.l1 s v x8_1 = some o1 := G
 show B2 _ _ _ _ (mk _ _ _)
 unfold B3.l1 at G
 refine Bh 0 8 A5 fun B => ?_
 refine Aj <| C4 rfl G (fun h4 G => ?_) fun h4 G => ?_
 refine Dg ?_
 refine Aj <| Ap <| Bh 8 24 B fun B => ?_
 refine B9 24 72 B ?_
 refine Aw ?_
 obtain ⟨e, he, G⟩ := Ab G
 refine Aw ?_
 refine Ra he ?_
 refine Bj fun B => ?_
 refine C4 rfl G (fun h7 G => ?_) fun h7 G => ?_
 refine Bh 72 88 B fun B => ?_
 refine Fg ?_
 replace G := Cn G hn1
 exact Zh
 refine Dg ?_
 refine Ak (B8 _ _ []) 72 88 B rfl rfl ?_
 refine Bj fun B => ?_
 obtain rfl := oi_ G
 exact ⟨(W (x8_1 + 1), m1), Nat.lt_succ_self _, hn1, A1 []⟩
 refine Jl ?_
 replace G := Cn G hn1
 refine Bh 8 16 B fun B => ?_
 exact La
theorem Jc (s : (List Int)) (v : Int) (r : Bool) (G : D0 s v = some r) : Fn Tryz.prog 91 0 [.sl 1 (Aq eI s), vk v] [] (fun d' b' => d' = .val (.bool r) /\ b' = []) := by
 unfold D0 at G
 refine Fn.of Tryz.func91 rfl rfl rfl fun w0 I ρ0 => ?_
 show B2 _ ⟨w0, I, ρ0, 0, 0, 9⟩ _ _ _
 refine Bh 0 8 A5 fun B => ?_
 refine B9 8 48 B ?_
 refine Aw ?_
 obtain ⟨y, hy, G⟩ := Ab G
 refine Do (Ny _ _ _ hy) ?_
 exact De
theorem Tl (u : As) (r : Int) (G : A8 u = some r) : Fn Tryz.prog 85 0 [.agg [vk u.Alg, vk u.Bits]] [] (fun d' b' => d' = vk r /\ b' = []) := by
 unfold A8 at G
 refine Fn.of Tryz.func85 rfl rfl rfl fun w0 I ρ0 => ?_
 show B2 _ ⟨w0, I, ρ0, 0, 0, 61⟩ _ _ _
 refine Bh 0 16 A5 fun B => ?_
 refine B9 16 88 B ?_
 refine Aw ?_
 obtain ⟨y, hy, G⟩ := Ab G
 refine Do (Us _ _ hy) ?_
 refine Bj fun B => ?_
 refine Aj <| Bh 88 104 B fun B => ?_
 refine C4 rfl G (fun h4 G => ?_) fun h4 G => ?_
 refine B9 104 112 B ?_
 exact De
 refine Dg ?_
 refine Aj <| Bh 104 120 B fun B => ?_
 refine Ap <| Bh 120 136 B fun B => ?_
 refine C4 rfl G (fun h8 G => ?_) fun h8 G => ?_
 refine Bh 136 160 B fun B => ?_
 refine C4 rfl G (fun h10 G => ?_) fun h10 G => ?_
 refine B9 160 200 B ?_
 refine Aw ?_
 obtain ⟨e, he, G⟩ := Ab G
 refine Aw ?_
 refine Ra he ?_
 exact De
 refine Dg ?_
 refine Bh 160 168 B fun B => ?_
 exact La
 refine Bh 136 152 B fun B => ?_
 refine C4 rfl G (fun h13 G => ?_) fun h13 G => ?_
 refine Bo (ι := Bool) (fun (x34_1 : Bool) => mk [(1, .ptr 0 0), (34, .val (.bool x34_1))] [(0, .box [vk u.Alg, vk u.Bits] 28)] 1) (fun (x34_1 : Bool) => A8.j1 u x34_1 = some r) ?_ ?_
 refine Ak (B8 _ _ []) 152 216 B rfl rfl ?_
 refine Aw ?_
 rcases D9 G with ⟨h14, G⟩ | ⟨h14, G⟩
 refine Bj fun B => ?_
 exact ⟨decide (u.Bits <= 16384), G, A1 [(0, 0)]⟩
 refine Bj fun B => ?_
 exact ⟨false, G, A1 [(0, 0)]⟩
 rintro x34_1 G
 replace G : A8.j1 u x34_1 = some r := G
 show B2 _ _ _ _ (mk _ _ _)
 unfold A8.j1 at G
 refine C4 rfl G (fun h17 G => ?_) fun h17 G => ?_
 refine B9 1 33 A5 ?_
 refine Aw ?_
 obtain ⟨y_2, hy_2, G⟩ := Ab G
 refine Do (Ux _ _ hy_2) ?_
 exact De
 refine Dg ?_
 refine Bh 1 9 A5 fun B => ?_
 exact La
 refine Bh 152 168 B fun B => ?_
 refine C4 rfl G (fun h20 G => ?_) fun h20 G => ?_
 refine B9 168 200 B ?_
 refine Kh Ek z3 Jv ([160, 224, 256, 384, 521] : List Int) eI ?_
 refine Aw ?_
 obtain ⟨y_3, hy_3, G⟩ := Ab G
 refine Ig [168] [] [] true (Jc _ _ _ hy_3) ?_
 refine Gk fun B => ?_
 refine C4 rfl G (fun h22 G => ?_) fun h22 G => ?_
 refine B9 200 232 B ?_
 refine Aw ?_
 obtain ⟨q, hq, G⟩ := Ab G
 refine C0 rfl rfl (Rw hq) rfl rfl ?_
 exact De
 refine Dg ?_
 refine Bh 200 208 B fun B => ?_
 exact La
 refine Bh 168 184 B fun B => ?_
 refine C4 rfl G (fun h25 G => ?_) fun h25 G => ?_
 refine B9 184 232 B ?_
 refine Aw ?_
 obtain ⟨y_4, hy_4, G⟩ := Ab G
 refine Do (Ny _ _ _ hy_4) ?_
 refine Bj fun B => ?_
 refine Bh 232 248 B fun B => ?_
 refine C4 rfl G (fun h28 G => ?_) fun h28 G => ?_
 refine B9 248 296 B ?_
 refine Aw ?_
 obtain ⟨e_2, he_2, G⟩ := Ab G
 refine Aw ?_
 refine Ra he_2 ?_
 exact De
 refine Dg ?_
 refine Bh 248 256 B fun B => ?_
 exact La
 refine Dg ?_
 refine Bh 184 192 B fun B => ?_
 exact La
theorem Kd (u : As) (r : Bool) (G : Gc u = some r) : Fn Tryz.prog 54 0 [.agg [vk u.Alg, vk u.Bits]] [] (fun d' b' => d' = .val (.bool r) /\ b' = []) := by
 unfold Gc at G
 refine Fn.of Tryz.func54 rfl rfl rfl fun w0 I ρ0 => ?_
 show B2 _ ⟨w0, I, ρ0, 0, 0, 6⟩ _ _ _
 refine Bh 0 16 A5 fun B => ?_
 refine B9 16 48 B ?_
 refine Aw ?_
 obtain ⟨y, hy, G⟩ := Ab G
 refine Do (Tl _ _ hy) ?_
 exact De
theorem Kl (alg : Int) (r : Int) (G : Gv alg = some r) : Fn Tryz.prog 88 0 [vk alg] [] (fun d' b' => d' = vk r /\ b' = []) := by
 unfold Gv at G
 refine Fn.of Tryz.func88 rfl rfl rfl fun w0 I ρ0 => ?_
 show B2 _ ⟨w0, I, ρ0, 0, 0, 12⟩ _ _ _
 refine Bh 0 8 A5 fun B => ?_
 refine B9 8 72 B ?_
 refine Aw ?_
 obtain ⟨y, hy, G⟩ := Ab G
 refine Do (Us _ _ hy) ?_
 refine Bj fun B => ?_
 refine Bh 72 96 B fun B => ?_
 exact La
theorem U0 (f : Aa) (r : Bool) (G : A3 f = some r) : Fn Tryz.prog 59 0 [.agg (Aa.dv f)] [] (fun d' b' => d' = .val (.bool r) /\ b' = []) := by
 unfold A3 at G
 refine Fn.of Tryz.func59 rfl rfl rfl fun w0 I ρ0 => ?_
 show B2 _ ⟨w0, I, ρ0, 0, 0, 114⟩ _ _ _
 refine Bh 0 16 A5 fun B => ?_
 refine Bo (ι := Bool) (fun (bare_1 : Bool) => mk [(1, .ptr 0 0), (3, .val (.bool bare_1))] [(0, .box (Aa.dv f) 30)] 1) (fun (bare_1 : Bool) => A3.j1 f bare_1 = some r) ?_ ?_
 refine Ak (B8 _ _ []) 16 96 B rfl rfl ?_
 refine Aw ?_
 refine Qz Iu Mm Vf ?_
 refine C0 rfl rfl (Tw f.Use (As.mk 0 0)) rfl rfl ?_
 refine Aw ?_
 rcases D9 G with ⟨h2, G⟩ | ⟨h2, G⟩
 refine Bj fun B => ?_
 exact ⟨decide (f.Text = (⟨#[]⟩ : ByteArray)), G, A1 [(0, 0)]⟩
 refine Bj fun B => ?_
 exact ⟨false, G, A1 [(0, 0)]⟩
 rintro bare_1 G
 replace G : A3.j1 f bare_1 = some r := G
 show B2 _ _ _ _ (mk _ _ _)
 unfold A3.j1 at G
 refine Aj <| Bh 1 17 A5 fun B => ?_
 refine Ap <| Bo (ι := Bool) (fun (x15_2 : Bool) => mk [(1, .ptr 0 0), (3, .val (.bool bare_1)), (14, vk f.Kind), (15, .val (.bool x15_2))] [(0, .box (Aa.dv f) 30)] 1) (fun (x15_2 : Bool) => A3.j2 f bare_1 x15_2 = some r) ?_ ?_
 refine Bh 17 33 B fun B => ?_
 refine C4 rfl G (fun h7 G => ?_) fun h7 G => ?_
 refine Dg ?_
 exact ⟨decide (f.Kind = 1), G, A1 [(0, 0)]⟩
 refine Ak (B8 _ _ []) 33 49 B rfl rfl ?_
 refine Bj fun B => ?_
 exact ⟨decide (f.Kind = 8), G, A1 [(0, 0)]⟩
 rintro x15_2 G
 replace G : A3.j2 f bare_1 x15_2 = some r := G
 show B2 _ _ _ _ (mk _ _ _)
 unfold A3.j2 at G
 refine C4 rfl G (fun h9 G => ?_) fun h9 G => ?_
 refine B9 1 113 A5 ?_
 refine Aw ?_
 obtain ⟨y, hy, G⟩ := Ab G
 refine Do (Kd _ _ hy) ?_
 refine Aw ?_
 rcases D9 G with ⟨h10, G⟩ | ⟨h10, G⟩
 refine Aw ?_
 rcases D9 G with ⟨h11, G⟩ | ⟨h11, G⟩
 exact De
 exact De
 exact De
 refine Bh 1 17 A5 fun B => ?_
 refine C4 rfl G (fun h16 G => ?_) fun h16 G => ?_
 refine B9 17 113 B ?_
 refine Aw ?_
 rcases D9 G with ⟨h17, G⟩ | ⟨h17, G⟩
 refine Aw ?_
 rcases D9 G with ⟨h18, G⟩ | ⟨h18, G⟩
 exact De
 exact De
 exact De
 refine Bh 17 33 B fun B => ?_
 refine C4 rfl G (fun h23 G => ?_) fun h23 G => ?_
 refine B9 33 241 B ?_
 refine Aw ?_
 obtain ⟨y_2, hy_2, G⟩ := Ab G
 refine Do (Kd _ _ hy_2) ?_
 refine Aw ?_
 rcases D9 G with ⟨h24, G⟩ | ⟨h24, G⟩
 refine Aw ?_
 obtain ⟨y_3, hy_3, G⟩ := Ab G
 refine Do (Kl _ _ hy_3) ?_
 refine Aw ?_
 rcases D9 G with ⟨h25, G⟩ | ⟨h25, G⟩
 refine Aw ?_
 rcases D9 G with ⟨h26, G⟩ | ⟨h26, G⟩
 refine Aw ?_
 rcases D9 G with ⟨h27, G⟩ | ⟨h27, G⟩
 exact De
 exact De
 exact De
 exact De
 exact De
 refine Bo (ι := Bool) (fun (x71_3 : Bool) => mk [(1, .ptr 0 0), (3, .val (.bool bare_1)), (14, vk f.Kind), (71, .val (.bool x71_3))] [(0, .box (Aa.dv f) 30)] 1) (fun (x71_3 : Bool) => A3.j3 f bare_1 x71_3 = some r) ?_ ?_
 refine Bh 33 49 B fun B => ?_
 refine C4 rfl G (fun h34 G => ?_) fun h34 G => ?_
 refine Dg ?_
 exact ⟨decide (f.Kind = 4), G, A1 [(0, 0)]⟩
 refine Ak (B8 _ _ []) 49 65 B rfl rfl ?_
 refine Bj fun B => ?_
 exact ⟨decide (f.Kind = 5), G, A1 [(0, 0)]⟩
 rintro x71_3 G
 replace G : A3.j3 f bare_1 x71_3 = some r := G
 show B2 _ _ _ _ (mk _ _ _)
 unfold A3.j3 at G
 refine C4 rfl G (fun h36 G => ?_) fun h36 G => ?_
 refine B9 1 97 A5 ?_
 refine Aw ?_
 rcases D9 G with ⟨h37, G⟩ | ⟨h37, G⟩
 refine Aw ?_
 rcases D9 G with ⟨h38, G⟩ | ⟨h38, G⟩
 exact De
 exact De
 exact De
 refine Bh 1 17 A5 fun B => ?_
 refine C4 rfl G (fun h43 G => ?_) fun h43 G => ?_
 refine B9 17 113 B ?_
 refine Aw ?_
 rcases D9 G with ⟨h44, G⟩ | ⟨h44, G⟩
 refine Aw ?_
 rcases D9 G with ⟨h45, G⟩ | ⟨h45, G⟩
 exact De
 exact De
 exact De
 refine Bh 17 33 B fun B => ?_
 refine C4 rfl G (fun h50 G => ?_) fun h50 G => ?_
 refine B9 33 153 B ?_
 refine Aw ?_
 refine Qz Iu Mm Vf ?_
 refine C0 rfl rfl (Tw f.Use (As.mk 0 0)) rfl rfl ?_
 refine Aw ?_
 rcases D9 G with ⟨h51, G⟩ | ⟨h51, G⟩
 refine Aw ?_
 rcases D9 G with ⟨h52, G⟩ | ⟨h52, G⟩
 refine Aw ?_
 obtain ⟨y_4, hy_4, G⟩ := Ab G
 refine Do (He _ _ hy_4) ?_
 exact De
 exact De
 exact De
 refine Dg ?_
 refine Bh 33 41 B fun B => ?_
 exact La
theorem L8 (f : Aa) (r : Int) (G : Bd f = some r) : Fn Tryz.prog 28 0 [.agg (Aa.dv f)] [] (fun d' b' => d' = vk r /\ b' = []) := by
 unfold Bd at G
 refine Fn.of Tryz.func28 rfl rfl rfl fun w0 I ρ0 => ?_
 show B2 _ ⟨w0, I, ρ0, 0, 0, 62⟩ _ _ _
 refine Bh 0 16 A5 fun B => ?_
 refine Bo (ι := Bool) (fun (where_1 : Bool) => mk [(1, .ptr 0 0), (3, .val (.bool where_1))] [(0, .box (Aa.dv f) 30)] 1) (fun (where_1 : Bool) => Bd.j1 f where_1 = some r) ?_ ?_
 refine Ak (B8 _ _ []) 16 168 B rfl rfl ?_
 refine Aw ?_
 obtain ⟨y, hy, G⟩ := Ab G
 refine Do (He _ _ hy) ?_
 refine Aw ?_
 rcases D9 G with ⟨h2, G⟩ | ⟨h2, G⟩
 refine Aw ?_
 obtain ⟨y_2, hy_2, G⟩ := Ab G
 refine Do (He _ _ hy_2) ?_
 refine Aw ?_
 rcases D9 G with ⟨h3, G⟩ | ⟨h3, G⟩
 refine Aw ?_
 rcases D9 G with ⟨h4, G⟩ | ⟨h4, G⟩
 refine Bj fun B => ?_
 exact ⟨decide (f.Machine <= 1099511627776), G, A1 [(0, 0)]⟩
 refine Bj fun B => ?_
 exact ⟨false, G, A1 [(0, 0)]⟩
 refine Bj fun B => ?_
 exact ⟨false, G, A1 [(0, 0)]⟩
 refine Bj fun B => ?_
 exact ⟨false, G, A1 [(0, 0)]⟩
 rintro where_1 G
 replace G : Bd.j1 f where_1 = some r := G
 show B2 _ _ _ _ (mk _ _ _)
 unfold Bd.j1 at G
 refine Bo (ι := Bool) (fun (when_2 : Bool) => mk [(1, .ptr 0 0), (3, .val (.bool where_1)), (4, .val (.bool when_2))] [(0, .box (Aa.dv f) 30)] 1) (fun (when_2 : Bool) => Bd.j2 f where_1 when_2 = some r) ?_ ?_
 refine Ak (B8 _ _ []) 1 153 A5 rfl rfl ?_
 refine Aw ?_
 rcases D9 G with ⟨h9, G⟩ | ⟨h9, G⟩
 refine Aw ?_
 rcases D9 G with ⟨h10, G⟩ | ⟨h10, G⟩
 refine Aw ?_
 rcases D9 G with ⟨h11, G⟩ | ⟨h11, G⟩
 refine Bj fun B => ?_
 exact ⟨decide (f.Confidence <= 100), G, A1 [(0, 0)]⟩
 refine Bj fun B => ?_
 exact ⟨false, G, A1 [(0, 0)]⟩
 refine Bj fun B => ?_
 exact ⟨false, G, A1 [(0, 0)]⟩
 refine Bj fun B => ?_
 exact ⟨false, G, A1 [(0, 0)]⟩
 rintro when_2 G
 replace G : Bd.j2 f where_1 when_2 = some r := G
 show B2 _ _ _ _ (mk _ _ _)
 unfold Bd.j2 at G
 refine Aj <| Bo (ι := Bool) (fun (x61_3 : Bool) => mk [(61, .val (.bool x61_3))] [] 0) (fun (x61_3 : Bool) => Bd.j3 x61_3 = some r) ?_ ?_
 refine Ak (B8 _ _ []) 1 169 A5 rfl rfl ?_
 refine Aw ?_
 rcases D9 G with ⟨h16, G⟩ | ⟨h16, G⟩
 refine Bj fun B => ?_
 exact ⟨true, G, A1 []⟩
 refine Aw ?_
 rcases D9 G with ⟨h18, G⟩ | ⟨h18, G⟩
 refine Bj fun B => ?_
 exact ⟨true, G, A1 []⟩
 refine Aw ?_
 rcases D9 G with ⟨h20, G⟩ | ⟨h20, G⟩
 refine Bj fun B => ?_
 exact ⟨true, G, A1 []⟩
 refine Aw ?_
 rcases D9 G with ⟨h22, G⟩ | ⟨h22, G⟩
 refine Bj fun B => ?_
 exact ⟨true, G, A1 []⟩
 refine Aw ?_
 obtain ⟨y_3, hy_3, G⟩ := Ab G
 refine Do (U0 _ _ hy_3) ?_
 refine Bj fun B => ?_
 exact ⟨!y_3, G, A1 []⟩
 rintro x61_3 G
 replace G : Bd.j3 x61_3 = some r := G
 show B2 _ _ _ _ (mk _ _ _)
 unfold Bd.j3 at G
 refine C4 rfl G (fun h25 G => ?_) fun h25 G => ?_
 refine B9 0 8 A5 ?_
 exact De
 refine Dg ?_
 refine Bh 0 8 A5 fun B => ?_
 exact La
theorem M4 (at' : Aa) (r : Dh × Int) (G : Gu at' = some r) : Fn Tryz.prog 35 0 [.agg (Aa.dv at')] [] (fun d' b' => d' = .tup [.ptr 0 0, vk r.2] /\ b' = [.box [vk r.1.at_.Source, ws r.1.at_.Host, vk r.1.at_.Machine, vk r.1.at_.Day, vk r.1.at_.Confidence, vk r.1.at_.Kind, ws r.1.at_.Subject, vk r.1.at_.Use.Alg, vk r.1.at_.Use.Bits, vk r.1.at_.Number, ws r.1.at_.Text, .row 1] 80, .row 30 11 (Aq Aa.enc r.1.l)]) := by
 unfold Gu at G
 refine Fn.of Tryz.func35 rfl rfl rfl fun w0 I ρ0 => ?_
 show B2 _ ⟨w0, I, ρ0, 0, 0, 14⟩ _ _ _
 refine Bh 0 24 A5 fun B => ?_
 refine B9 24 96 B ?_
 refine Qz Iu Mm Vf ?_
 refine Bj fun B => ?_
 refine Aj <| Bq (B8 _ _ []) (by kernel_rfl) [0, 1, 3, 0, 8, 31, 63] 96 152 B rfl rfl (by kernel_rfl) ?_
 refine Aw ?_
 refine C0 rfl rfl (.build (r := [vk at'.Source, ws at'.Host, vk at'.Machine, vk at'.Day, vk at'.Confidence, .val (.int .i64 4), ws at'.Subject, .val (.int .i64 0), .val (.int .i64 0), .val (.int .i64 1), .val (.string (⟨#[]⟩ : ByteArray)), .val (.slice none 0 0)]) nH aEh z80 (by kernel_rfl) rfl) rfl rfl ?_
 refine Aw ?_
 obtain ⟨y, hy, G⟩ := Ab G
 refine Do (L8 _ _ hy) ?_
 refine Bj fun B => ?_
 refine Fg ?_
 obtain rfl := oi_ G
 exact Gr [(0, 112)] ⟨rfl, rfl⟩
end Go.Proofs.YtidpkjdkfkkgiaaGreat
