import Derived.Test.YtidpkjdkfkkgiaaGreatT1
import Derived.Test.YtidpkjdkfkkgiaaGreatA6
import Derived.Test.YtidpkjdkfkkgiaaGreatA7
import Derived.Test.YtidpkjdkfkkgiaaGreatA8
set_option linter.unusedVariables false
set_option linter.unusedSimpArgs false
set_option maxRecDepth 100000
set_option maxHeartbeats 1600000
namespace Go.Proofs.YtidpkjdkfkkgiaaGreat
open Go.RowKit
theorem V3 (d : Ad) (name : ByteArray) (key : As) (id : Int) (r : (List Af) × Ad) (G : F5 d name key id = some r) : Fn Tryz.prog 33 1 [.ptr 0 0, ws name, .agg [vk key.Alg, vk key.Bits], vk id] [.box [.sl 1 (Aq eI d.L), vk d.At] 66] (fun d' b' => d' = .row 1 /\ b' = [.box [.sl 1 (Aq eI r.2.L), vk r.2.At] 66, .row 107 15 (Aq Af.enc r.1)]) := by
 unfold F5 at G
 refine Fn.of Tryz.func33 rfl rfl rfl fun w0 I ρ0 => ?_
 show B2 _ ⟨w0, I, ρ0, 1, 1, 56⟩ _ _ _
 refine Bh 1 17 A5 fun B => ?_
 refine Aj <| Ak (B8 _ _ [25]) 17 49 B rfl rfl ?_
 refine Aw ?_
 refine Tt Ek z3 Jv ([1, 0, 2] : List Int) eI ?_
 obtain ⟨y, hy, G⟩ := Ab G
 refine Ig [0] [0] [] false (C8 _ _ _ hy) ?_
 refine Bj fun B => ?_
 refine B9 49 89 B ?_
 refine Aw ?_
 obtain ⟨y_2, hy_2, G⟩ := Ab G
 refine Ig [0] [0] [] false (Cg _ _ _ hy_2) ?_
 refine Bj fun B => ?_
 refine Bh 89 97 B fun B => ?_
 refine Aj <| Bh 97 105 B fun B => ?_
 refine Ap <| Jy (fun ((signer_1, issuer_1, i_1, d_1, above_1) : Int × ByteArray × Int × Ad × List Af) => mk [(0, .ptr 0 0), (1, ws name), (3, vk id), (6, .ptr 1 0), (9, vk y.1), (10, vk signer_1), (11, ws issuer_1), (12, .row 2), (13, vk i_1)] [(0, .box [.sl 1 (Aq eI d_1.L), vk d_1.At] 66), (1, .box [vk key.Alg, vk key.Bits] 28), (2, .row 107 15 (Aq Af.enc above_1))] 3) G (A1 [(0, 0), (1, 1)]) ?_
 rintro ⟨signer_1, issuer_1, i_1, d_1, above_1⟩ m1 o1 G hn1
 replace G : F5.l1 name key id y signer_1 issuer_1 i_1 d_1 above_1 = some o1 := G
 show B2 _ _ _ _ (mk _ _ _)
 unfold F5.l1 at G
 refine Aj <| Bh 3 27 A5 fun B => ?_
 refine C4 rfl G (fun h7 G => ?_) fun h7 G => ?_
 refine Dg ?_
 refine Aj <| Ap <| B9 27 67 B ?_
 refine Kh Zr z9 wU ([(⟨#[99, 97]⟩ : ByteArray), (⟨#[99, 98]⟩ : ByteArray), (⟨#[99, 99]⟩ : ByteArray)] : List ByteArray) eS ?_
 refine Aw ?_
 obtain ⟨e, he, G⟩ := Ab G
 refine Aw ?_
 refine Gd (rd := [27]) rfl rfl (.loadR1 ty9 (Gt cW (Cw he) (o := 0) (c := .str e) rfl rfl)) rfl rfl ?_
 refine Bj fun B => ?_
 refine B9 67 147 B ?_
 refine Aw ?_
 refine Qz Iu Mm Vf ?_
 refine Aw ?_
 obtain ⟨y_3, hy_3, G⟩ := Ab G
 refine Ig [0] [0] [] false (Of _ _ _ _ _ _ _ _ hy_3) ?_
 refine Bj fun B => ?_
 refine B9 147 187 B ?_
 refine Aw ?_
 refine Kh gX lG rN ([y_3.1] : List Af) Af.enc ?_
 refine Aw ?_
 obtain ⟨l, hl, G⟩ := Ab G
 refine Gd (rd := [155, 2]) rfl rfl (D5 gX Af.enc_len .row rfl .row rfl hl rfl) rfl rfl ?_
 refine Bj fun B => ?_
 refine Ak (B8 _ _ []) 187 227 B rfl rfl ?_
 refine Bj fun B => ?_
 refine Ak (B8 _ _ []) 227 251 B rfl rfl ?_
 refine Bj fun B => ?_
 obtain rfl := oi_ G
 exact ⟨((W (11 + i_1), e, W (i_1 + 1), y_3.2, l), m1), Nat.lt_succ_self _, hn1, A1 [(0, 0), (1, 1), (2, 171)]⟩
 refine Jl ?_
 replace G := Cn G hn1
 refine B9 27 115 B ?_
 refine Aw ?_
 obtain ⟨y_4, hy_4, G⟩ := Ab G
 refine Ig [0] [0] [] false (Of _ _ _ _ _ _ _ _ hy_4) ?_
 refine Kh gX lG rN ([y_4.1] : List Af) Af.enc ?_
 refine Aw ?_
 obtain ⟨l_2, hl_2, G⟩ := Ab G
 refine Gd (rd := [83, 2]) rfl rfl (D5 gX Af.enc_len .row rfl .row rfl hl_2 rfl) rfl rfl ?_
 refine Bj fun B => ?_
 refine Fg ?_
 obtain rfl := oi_ G
 exact Gr [(0, 0), (1, 99)] ⟨rfl, rfl⟩
theorem Wk (d : Ad) (name : ByteArray) (r : A6 × Ad) (G : Bm d name = some r) : Fn Tryz.prog 9 1 [.ptr 0 0, ws name] [.box [.sl 1 (Aq eI d.L), vk d.At] 66] (fun d' b' => d' = .agg (A6.dv r.1) /\ b' = [.box [.sl 1 (Aq eI r.2.L), vk r.2.At] 66]) := by
 unfold Bm at G
 refine Fn.of Tryz.func9 rfl rfl rfl fun w0 I ρ0 => ?_
 show B2 _ ⟨w0, I, ρ0, 1, 1, 100⟩ _ _ _
 refine Bh 1 9 A5 fun B => ?_
 refine Aj <| Ak (B8 _ _ [25]) 9 113 B rfl rfl ?_
 refine Aw ?_
 refine Tt Ek z3 Jv ([1, 1, 2, 3] : List Int) eI ?_
 obtain ⟨y, hy, G⟩ := Ab G
 refine Ig [0] [0] [] false (C8 _ _ _ hy) ?_
 refine Aw ?_
 obtain ⟨y_2, hy_2, G⟩ := Ab G
 refine Ig [0] [0] [] false (Zl _ _ hy_2) ?_
 refine Aw ?_
 obtain ⟨y_3, hy_3, G⟩ := Ab G
 refine Ig [0] [0] [] false (I4 _ _ _ hy_3) ?_
 refine Aw ?_
 obtain ⟨y_4, hy_4, G⟩ := Ab G
 refine Ig [0] [0] [] false (I4 _ _ _ hy_4) ?_
 refine Qz Td aEc z34 ?_
 refine Bj fun B => ?_
 refine Aj <| Bq (B8 _ _ []) (by kernel_rfl) [0, 1, 0, 0, 8, 24, 60, 127, 255, 511] 113 193 B rfl rfl (by kernel_rfl) ?_
 refine Aw ?_
 obtain ⟨y_5, hy_5, G⟩ := Ab G
 refine Ig [0] [0] [] false (Cg _ _ _ hy_5) ?_
 refine Bj fun B => ?_
 refine Bo (ι := List Int × Int × Int × Int) (fun ((d_1, d_1_2, e_1, e_1_2) : List Int × Int × Int × Int) => mk [(0, .ptr 0 0), (1, ws name), (4, .ptr 1 0), (5, .ptr 2 0)] [(0, .box [.sl 1 (Aq eI d_1), vk d_1_2] 66), (1, .box [.val (.string (⟨#[]⟩ : ByteArray)), .val (.int .i64 0), .val (.int .i64 0), .val (.slice none 0 0), .val (.bool false), .val (.slice none 0 0), .val (.slice none 0 0), .val (.slice none 0 0), .val (.bool false)] 34), (2, .box [ws name, vk e_1, vk e_1_2, .sl 1 (Aq eI y_2.1), .val (.bool y_3.1), .val (.slice none 0 0), .val (.slice none 0 0), .val (.slice none 0 0), .val (.bool y_4.1)] 34)] 3) (fun ((d_1, d_1_2, e_1, e_1_2) : List Int × Int × Int × Int) => Bm.j1 name y_2 y_3 y_4 d_1 d_1_2 e_1 e_1_2 = some r) ?_ ?_
 refine B9 193 217 B ?_
 refine Aw ?_
 obtain ⟨y_6, hy_6, G⟩ := Ab G
 refine Ig [0] [0] [] false (Cg _ _ _ hy_6) ?_
 refine Bj fun B => ?_
 refine C4 rfl G (fun h5 G => ?_) fun h5 G => ?_
 refine Ak (B8 _ _ [225]) 217 273 B rfl rfl ?_
 refine Aw ?_
 refine Tt Ek z3 Jv ([3, 4, 2] : List Int) eI ?_
 obtain ⟨y_7, hy_7, G⟩ := Ab G
 refine Ig [0] [0] [] false (C8 _ _ _ hy_7) ?_
 refine Bj fun B => ?_
 exact ⟨(y_7.2.L, y_7.2.At, 1, y_7.1), G, A1 [(0, 0), (1, 1), (2, 97)]⟩
 refine Dg ?_
 exact ⟨(y_6.2.L, y_6.2.At, y.1, W (y.1 + y_5.1)), G, A1 [(0, 0), (1, 1), (2, 97)]⟩
 rintro ⟨d_1, d_1_2, e_1, e_1_2⟩ G
 replace G : Bm.j1 name y_2 y_3 y_4 d_1 d_1_2 e_1 e_1_2 = some r := G
 show B2 _ _ _ _ (mk _ _ _)
 unfold Bm.j1 at G
 refine Aj <| Aj <| Ak (B8 _ _ [11]) 3 35 A5 rfl rfl ?_
 refine Aw ?_
 refine Tt Ek z3 Jv ([1, 2, 1, 3, 0] : List Int) eI ?_
 obtain ⟨y_8, hy_8, G⟩ := Ab G
 refine Ig [0] [0] [] false (C8 _ _ _ hy_8) ?_
 refine Bj fun B => ?_
 refine Ap <| Jy (fun ((i_2, d_2, d_2_2, l_2) : Int × List Int × Int × List Be) => mk [(0, .ptr 0 0), (1, ws name), (4, .ptr 1 0), (5, .ptr 2 0), (6, vk i_2)] [(0, .box [.sl 1 (Aq eI d_2), vk d_2_2] 66), (1, .box [.val (.string (⟨#[]⟩ : ByteArray)), .val (.int .i64 0), .val (.int .i64 0), .val (.slice none 0 0), .val (.bool false), .val (.slice none 0 0), .val (.slice none 0 0), .val (.slice none 0 0), .val (.bool false)] 34), (2, .box [ws name, vk e_1, vk e_1_2, .sl 1 (Aq eI y_2.1), .val (.bool y_3.1), .row 3, .val (.slice none 0 0), .val (.slice none 0 0), .val (.bool y_4.1)] 34), (3, .row 39 4 (Aq Be.enc l_2))] 4) G (A1 [(0, 0), (1, 1), (2, 2)]) ?_
 rintro ⟨i_2, d_2, d_2_2, l_2⟩ m2 o2 G hn2
 replace G : Bm.l2 name y_2 y_3 y_4 e_1 e_1_2 i_2 d_2 d_2_2 l_2 = some o2 := G
 show B2 _ _ _ _ (mk _ _ _)
 unfold Bm.l2 at G
 refine Aj <| Bh 4 20 A5 fun B => ?_
 refine C4 rfl G (fun h9 G => ?_) fun h9 G => ?_
 refine Dg ?_
 refine Aj <| Ap <| B9 20 52 B ?_
 refine Aw ?_
 obtain ⟨y_9, hy_9, G⟩ := Ab G
 refine Ig [0] [0] [] false (iC _ _ hy_9) ?_
 refine Bj fun B => ?_
 refine Bo (ι := List Int × Int × Int × Int) (fun ((d_3, d_3_2, key_3, key_3_2) : List Int × Int × Int × Int) => mk [(0, .ptr 0 0), (1, ws name), (4, .ptr 1 0), (5, .ptr 2 0), (6, vk i_2), (7, .ptr 3 0)] [(0, .box [.sl 1 (Aq eI d_3), vk d_3_2] 66), (1, .box [.val (.string (⟨#[]⟩ : ByteArray)), .val (.int .i64 0), .val (.int .i64 0), .val (.slice none 0 0), .val (.bool false), .val (.slice none 0 0), .val (.slice none 0 0), .val (.slice none 0 0), .val (.bool false)] 34), (2, .box [ws name, vk e_1, vk e_1_2, .sl 1 (Aq eI y_2.1), .val (.bool y_3.1), .row 4, .val (.slice none 0 0), .val (.slice none 0 0), .val (.bool y_4.1)] 34), (3, .box [vk key_3, vk key_3_2] 28), (4, .row 39 4 (Aq Be.enc l_2))] 5) (fun ((d_3, d_3_2, key_3, key_3_2) : List Int × Int × Int × Int) => Bm.j3 name i_2 l_2 d_3 d_3_2 key_3 key_3_2 = some o2) ?_ ?_
 refine B9 52 76 B ?_
 refine Aw ?_
 obtain ⟨y_10, hy_10, G⟩ := Ab G
 refine Ig [0] [0] [] false (Cg _ _ _ hy_10) ?_
 refine Bj fun B => ?_
 refine C4 rfl G (fun h12 G => ?_) fun h12 G => ?_
 refine Aj <| Ak (B8 _ _ [84]) 76 116 B rfl rfl ?_
 refine Aw ?_
 refine Tt Ek z3 Jv ([5, 7] : List Int) eI ?_
 obtain ⟨y_11, hy_11, G⟩ := Ab G
 refine Ig [0] [0] [] false (C8 _ _ _ hy_11) ?_
 refine Qz Iu Mm Vf ?_
 refine Bj fun B => ?_
 refine Ak (B8 _ _ []) 116 164 B rfl rfl ?_
 refine Aw ?_
 obtain ⟨y_12, hy_12, G⟩ := Ab G
 refine Ig [0] [0] [] false (Wf _ _ _ hy_12) ?_
 refine Bj fun B => ?_
 exact ⟨(y_12.2.L, y_12.2.At, y_11.1, y_12.1), G, A1 [(0, 0), (1, 1), (2, 2), (3, 36), (4, 3)]⟩
 refine Dg ?_
 exact ⟨(y_10.2.L, y_10.2.At, y_9.1.Alg, y_9.1.Bits), G, A1 [(0, 0), (1, 1), (2, 2), (3, 36), (4, 3)]⟩
 rintro ⟨d_3, d_3_2, key_3, key_3_2⟩ G
 replace G : Bm.j3 name i_2 l_2 d_3 d_3_2 key_3 key_3_2 = some o2 := G
 show B2 _ _ _ _ (mk _ _ _)
 unfold Bm.j3 at G
 refine B9 5 37 A5 ?_
 refine Aw ?_
 obtain ⟨y_13, hy_13, G⟩ := Ab G
 refine Ig [0] [0] [] false (Cg _ _ _ hy_13) ?_
 refine Bj fun B => ?_
 refine B9 37 77 B ?_
 refine Aw ?_
 refine Qz jA aD3 z39 ?_
 refine Bj fun B => ?_
 refine Bo (ι := List Int × Int × List Af) (fun ((d_4, d_4_2, l_4) : List Int × Int × List Af) => mk [(0, .ptr 0 0), (1, ws name), (4, .ptr 1 0), (5, .ptr 2 0), (6, vk i_2), (9, .ptr 3 0)] [(0, .box [.sl 1 (Aq eI d_4), vk d_4_2] 66), (1, .box [.val (.string (⟨#[]⟩ : ByteArray)), .val (.int .i64 0), .val (.int .i64 0), .val (.slice none 0 0), .val (.bool false), .val (.slice none 0 0), .val (.slice none 0 0), .val (.slice none 0 0), .val (.bool false)] 34), (2, .box [ws name, vk e_1, vk e_1_2, .sl 1 (Aq eI y_2.1), .val (.bool y_3.1), .row 4, .val (.slice none 0 0), .val (.slice none 0 0), .val (.bool y_4.1)] 34), (3, .box [vk key_3, vk key_3_2, .val (.int .i64 (W (100 + y_13.1))), .row 5] 39), (4, .row 39 4 (Aq Be.enc l_2)), (5, .row 107 15 (Aq Af.enc l_4))] 6) (fun ((d_4, d_4_2, l_4) : List Int × Int × List Af) => Bm.j4 i_2 l_2 key_3 key_3_2 y_13 d_4 d_4_2 l_4 = some o2) ?_ ?_
 refine B9 77 101 B ?_
 refine Aw ?_
 obtain ⟨y_14, hy_14, G⟩ := Ab G
 refine Ig [0] [0] [] false (I4 _ _ _ hy_14) ?_
 refine Bj fun B => ?_
 refine C4 rfl G (fun h18 G => ?_) fun h18 G => ?_
 refine Ak (B8 _ _ []) 101 157 B rfl rfl ?_
 refine Aw ?_
 obtain ⟨y_15, hy_15, G⟩ := Ab G
 refine G9 (rd := [0]) (ps := [0]) (gs := []) false rfl (V3 _ _ _ _ _ hy_15) rfl rfl (.cons (.ptr rfl) (.cons .val (.cons (.agg (.cons .val (.cons .val .nil))) (.cons .val .nil)))) ⟨_, _, _, rfl, .head _, ⟨_, rfl, (by repeat' (first | exact K3.nil | apply K3.cons | exact Ag.val | exact Ag.sl | exact Ag.nils | exact Ag.ptr rfl | exact Ag.rowK rfl))⟩, rfl⟩ rfl (by intro h; cases h) rfl (by intro h; first | (cases h; done) | exact ⟨_, _, ⟨rfl, rfl⟩, by simp, by simp⟩) ?_
 rintro _ _ ⟨rfl, rfl⟩
 refine Bj fun B => ?_
 exact ⟨(y_15.2.L, y_15.2.At, y_15.1), G, A1 [(0, 0), (1, 1), (2, 2), (3, 61), (4, 4), (5, 133)]⟩
 refine Dg ?_
 exact ⟨(y_14.2.L, y_14.2.At, ([] : List Af)), G, A1 [(0, 0), (1, 1), (2, 2), (3, 61), (4, 4)]⟩
 rintro ⟨d_4, d_4_2, l_4⟩ G
 replace G : Bm.j4 i_2 l_2 key_3 key_3_2 y_13 d_4 d_4_2 l_4 = some o2 := G
 show B2 _ _ _ _ (mk _ _ _)
 unfold Bm.j4 at G
 refine E3 (σ' := mk [(0, .ptr 0 0), (1, ws name), (4, .ptr 1 0), (5, .ptr 2 0), (6, vk i_2), (9, .ptr 3 0)] [(0, .box [.sl 1 (Aq eI d_4), vk d_4_2] 66), (1, .box [.val (.string (⟨#[]⟩ : ByteArray)), .val (.int .i64 0), .val (.int .i64 0), .val (.slice none 0 0), .val (.bool false), .val (.slice none 0 0), .val (.slice none 0 0), .val (.slice none 0 0), .val (.bool false)] 34), (2, .box [ws name, vk e_1, vk e_1_2, .sl 1 (Aq eI y_2.1), .val (.bool y_3.1), .row 4, .val (.slice none 0 0), .val (.slice none 0 0), .val (.bool y_4.1)] 34), (3, .box [vk key_3, vk key_3_2, .val (.int .i64 (W (100 + y_13.1))), .sl 15 (Aq Af.enc l_4)] 39), (4, .row 39 4 (Aq Be.enc l_2))] 5) (A1 [(0, 0), (1, 1), (2, 2), (3, 3), (4, 4)]) ?_
 refine Ak (B8 _ _ []) 5 61 A5 rfl rfl ?_
 refine Aw ?_
 refine Kh qK z39 aAl ([(Be.mk (As.mk key_3 key_3_2) (W (100 + y_13.1)) l_4)] : List Be) Be.enc ?_
 obtain ⟨l, hl, G⟩ := Ab G
 refine Gd (rd := [4, 29]) rfl rfl (D5 qK Be.enc_len .row rfl .row rfl hl rfl) rfl rfl ?_
 refine Bj fun B => ?_
 refine Ak (B8 _ _ []) 61 85 B rfl rfl ?_
 refine Bj fun B => ?_
 obtain rfl := oi_ G
 exact ⟨((W (i_2 - 1), d_4, d_4_2, l), m2), Nat.lt_succ_self _, hn2, A1 [(0, 0), (1, 1), (2, 2), (3, 37)]⟩
 refine Jl ?_
 replace G := Cn G hn2
 refine Aj <| Ak (B8 _ _ [20, 28, 36, 44]) 20 108 B rfl rfl ?_
 refine Tt Ek z3 Jv ([1, 2] : List Int) eI ?_
 refine Tt Ek z3 Jv ([1, 2] : List Int) eI ?_
 refine Tt Ek z3 Jv ([1] : List Int) eI ?_
 refine Tt Ek z3 Jv ([2, 11] : List Int) eI ?_
 refine Kh zD z22 aCh ([([1, 2] : List Int), ([1, 2] : List Int), ([1] : List Int), ([2, 11] : List Int), ([] : (List Int))] : List (List Int)) (eL 1 eI) ?_
 refine Aw ?_
 obtain ⟨y_16, hy_16, G⟩ := Ab G
 refine Ig [0] [0] [] false (Cg _ _ _ hy_16) ?_
 obtain ⟨e, he, G⟩ := Ab G
 refine Aw ?_
 refine Gd (rd := [52]) rfl rfl (.loadR1 wG (Gt (hZ _ _) (Cw he) (o := 0) (c := .sl 1 (Aq eI e)) rfl rfl)) rfl rfl ?_
 refine Bj fun B => ?_
 refine Aj <| Ak (B8 _ _ [108, 116, 124]) 108 188 B rfl rfl ?_
 refine Tt Ek z3 Jv ([1, 2, 3, 4] : List Int) eI ?_
 refine Tt Ek z3 Jv ([2, 3, 4] : List Int) eI ?_
 refine Tt Ek z3 Jv ([3, 4] : List Int) eI ?_
 refine Kh zD z22 aCh ([([1, 2, 3, 4] : List Int), ([2, 3, 4] : List Int), ([3, 4] : List Int)] : List (List Int)) (eL 1 eI) ?_
 refine Aw ?_
 obtain ⟨y_17, hy_17, G⟩ := Ab G
 refine Ig [0] [0] [] false (Cg _ _ _ hy_17) ?_
 obtain ⟨e_2, he_2, G⟩ := Ab G
 refine Aw ?_
 refine Gd (rd := [132]) rfl rfl (.loadR1 wG (Gt (hZ _ _) (Cw he_2) (o := 0) (c := .sl 1 (Aq eI e_2)) rfl rfl)) rfl rfl ?_
 refine Bj fun B => ?_
 refine Bh 188 204 B fun B => ?_
 refine Fg ?_
 obtain rfl := oi_ G
 exact Gr [(0, 0)] ⟨rfl, rfl⟩
theorem T8 (l : (List Af)) (r : (List Af)) (G : Di l = some r) : Fn Tryz.prog 34 0 [.sl 15 (Aq Af.enc l)] [] (fun d' b' => d' = .sl 15 (Aq Af.enc r) /\ b' = []) := by
 unfold Di at G
 refine Fn.of Tryz.func34 rfl rfl rfl fun w0 I ρ0 => ?_
 show B2 _ ⟨w0, I, ρ0, 0, 0, 20⟩ _ _ _
 refine Bh 0 8 A5 fun B => ?_
 refine Bh 8 16 B fun B => ?_
 refine Aj <| Bh 16 24 B fun B => ?_
 refine Ap <| Jy (fun ((i_1, out_1) : Int × List Af) => mk [(0, .sl 15 (Aq Af.enc l)), (3, .row 0), (4, vk i_1)] [(0, .row 107 15 (Aq Af.enc out_1))] 1) G (A1 []) ?_
 rintro ⟨i_1, out_1⟩ m1 o1 G hn1
 replace G : Di.l1 l i_1 out_1 = some o1 := G
 show B2 _ _ _ _ (mk _ _ _)
 unfold Di.l1 at G
 refine Aj <| Bh 1 33 A5 fun B => ?_
 refine C4 rfl G (fun h5 G => ?_) fun h5 G => ?_
 refine Dg ?_
 refine Aj <| Ap <| Ak (B8 _ _ []) 33 105 B rfl rfl ?_
 refine Aw ?_
 obtain ⟨e, he, G⟩ := Ab G
 refine Aw ?_
 refine dF he ?_
 obtain ⟨y, hy, G⟩ := Ab G
 refine Do (T6 _ _ hy) ?_
 refine Kh gX lG rN ([y] : List Af) Af.enc ?_
 obtain ⟨l_2, hl_2, G⟩ := Ab G
 refine Gd (rd := [0, 81]) rfl rfl (D5 gX Af.enc_len .row rfl .row rfl hl_2 rfl) rfl rfl ?_
 refine Bj fun B => ?_
 refine Ak (B8 _ _ []) 105 129 B rfl rfl ?_
 refine Bj fun B => ?_
 obtain rfl := oi_ G
 exact ⟨((W (i_1 + 1), l_2), m1), Nat.lt_succ_self _, hn1, A1 [(0, 89)]⟩
 refine Jl ?_
 replace G := Cn G hn1
 refine Bh 33 49 B fun B => ?_
 exact La
theorem bR (e : A6) (r : A6) (G : Ey e = some r) : Fn Tryz.prog 10 0 [.agg (A6.dv e)] [] (fun d' b' => d' = .agg [ws r.Name, vk r.Least, vk r.Most, .row 0, .val (.bool r.OwnOrder), .row 1, .sl 1 (Aq eI r.Anchors), .sl 1 (Aq eI r.Hashes), .val (.bool r.Fallback)] /\ b' = [.row 3 1 (Aq eI r.Suites), .row 39 4 (Aq Be.enc r.Identities)]) := by
 unfold Ey at G
 refine Fn.of Tryz.func10 rfl rfl rfl fun w0 I ρ0 => ?_
 show B2 _ ⟨w0, I, ρ0, 0, 0, 44⟩ _ _ _
 refine Bh 0 16 A5 fun B => ?_
 refine B9 16 64 B ?_
 refine C0 rfl rfl (Em Ek z3 (by decide) rfl rfl rfl rfl Jv (cs := []) .nil rfl (l := ([] : List Int)) (f := eI) rfl) rfl rfl ?_
 refine Aw ?_
 obtain ⟨l, hl, G⟩ := Ab G
 refine Gd (rd := [16]) rfl rfl (D5 Ek It .row rfl .sl rfl hl rfl) rfl rfl ?_
 refine Bj fun B => ?_
 refine B9 64 112 B ?_
 refine C0 rfl rfl (Em Ek z3 (by decide) rfl rfl rfl rfl Jv (cs := []) .nil rfl (l := ([] : List Int)) (f := eI) rfl) rfl rfl ?_
 refine Aw ?_
 obtain ⟨l_2, hl_2, G⟩ := Ab G
 refine Gd (rd := [64]) rfl rfl (D5 Ek It .row rfl .sl rfl hl_2 rfl) rfl rfl ?_
 refine Bj fun B => ?_
 refine B9 112 160 B ?_
 refine C0 rfl rfl (Em Ek z3 (by decide) rfl rfl rfl rfl Jv (cs := []) .nil rfl (l := ([] : List Int)) (f := eI) rfl) rfl rfl ?_
 refine Aw ?_
 obtain ⟨l_3, hl_3, G⟩ := Ab G
 refine Gd (rd := [112]) rfl rfl (D5 Ek It .row rfl .sl rfl hl_3 rfl) rfl rfl ?_
 refine Bj fun B => ?_
 refine Bh 160 168 B fun B => ?_
 refine Aj <| Bh 168 176 B fun B => ?_
 refine Ap <| Jy (fun ((i_1, l_1) : Int × List Be) => mk [(1, .ptr 0 0), (2, .ptr 1 0), (3, .row 2), (4, vk i_1)] [(0, .box [ws e.Name, vk e.Least, vk e.Most, .row 3, .val (.bool e.OwnOrder), .sl 4 (Aq Be.enc e.Identities), .row 4, .row 5, .val (.bool e.Fallback)] 34), (1, .box [.val (.string (⟨#[]⟩ : ByteArray)), .val (.int .i64 0), .val (.int .i64 0), .val (.slice none 0 0), .val (.bool false), .val (.slice none 0 0), .val (.slice none 0 0), .val (.slice none 0 0), .val (.bool false)] 34), (2, .row 39 4 (Aq Be.enc l_1)), (3, .row 3 1 (Aq eI l)), (4, .row 3 1 (Aq eI l_2)), (5, .row 3 1 (Aq eI l_3))] 6) G (A1 [(0, 0), (1, 8), (3, 40), (4, 88), (5, 136)]) ?_
 rintro ⟨i_1, l_1⟩ m1 o1 G hn1
 replace G : Ey.l1 e l l_2 l_3 i_1 l_1 = some o1 := G
 show B2 _ _ _ _ (mk _ _ _)
 unfold Ey.l1 at G
 refine Aj <| Bh 6 46 A5 fun B => ?_
 refine C4 rfl G (fun h8 G => ?_) fun h8 G => ?_
 refine Dg ?_
 refine Aj <| Ap <| B9 46 102 B ?_
 refine Aw ?_
 obtain ⟨e_2, he_2, G⟩ := Ab G
 refine Aw ?_
 refine dF he_2 ?_
 refine Bj fun B => ?_
 refine B9 102 142 B ?_
 refine Aw ?_
 obtain ⟨y, hy, G⟩ := Ab G
 refine Do (T8 _ _ hy) ?_
 refine Bj fun B => ?_
 refine Ak (B8 _ _ []) 142 182 B rfl rfl ?_
 refine Aw ?_
 refine Kh qK z39 aAl ([(Be.mk e_2.Key e_2.KeyId y)] : List Be) Be.enc ?_
 obtain ⟨l_4, hl_4, G⟩ := Ab G
 refine Gd (rd := [2, 158]) rfl rfl (D5 qK Be.enc_len .row rfl .row rfl hl_4 rfl) rfl rfl ?_
 refine Bj fun B => ?_
 refine Ak (B8 _ _ []) 182 206 B rfl rfl ?_
 refine Bj fun B => ?_
 obtain rfl := oi_ G
 exact ⟨((W (i_1 + 1), l_4), m1), Nat.lt_succ_self _, hn1, A1 [(0, 0), (1, 1), (2, 166), (3, 3), (4, 4), (5, 5)]⟩
 refine Jl ?_
 replace G := Cn G hn1
 refine Bh 46 70 B fun B => ?_
 refine Bh 70 86 B fun B => ?_
 refine Fg ?_
 obtain rfl := oi_ G
 exact Gr [(0, 3), (1, 2)] ⟨rfl, rfl⟩
theorem Kw (s : ByteArray) (c : UInt8) (r : Int) (G : F4 s c = some r) : Fn Tryz.prog 148 0 [ws s, .val (.int .u8 (c.toNat : Int))] [] (fun d' b' => d' = vk r /\ b' = []) := by
 unfold F4 at G
 refine Fn.of Tryz.func148 rfl rfl rfl fun w0 I ρ0 => ?_
 show B2 _ ⟨w0, I, ρ0, 0, 0, 8⟩ _ _ _
 refine Bh 0 8 A5 fun B => ?_
 refine B9 8 40 B ?_
 refine Aw ?_
 refine Lf (rd := []) rfl rfl (.extV rfl tR (aE1 s c)) rfl rfl (fun _ => ⟨_, rfl⟩) ?_
 rintro _ rfl
 exact De
theorem Ex (s : ByteArray) (c : UInt8) (r : Int) (G : Dt s c = some r) : Fn Tryz.prog 129 0 [ws s, .val (.int .u8 (c.toNat : Int))] [] (fun d' b' => d' = vk r /\ b' = []) := by
 unfold Dt at G
 refine Fn.of Tryz.func129 rfl rfl rfl fun w0 I ρ0 => ?_
 show B2 _ ⟨w0, I, ρ0, 0, 0, 8⟩ _ _ _
 refine Bh 0 8 A5 fun B => ?_
 refine B9 8 40 B ?_
 refine Aw ?_
 obtain ⟨y, hy, G⟩ := Ab G
 refine Do (Kw _ _ _ hy) ?_
 exact De
theorem Ub (c : UInt8) (others : ByteArray) (r : Bool) (G : Ic c others = some r) : Fn Tryz.prog 90 0 [.val (.int .u8 (c.toNat : Int)), ws others] [] (fun d' b' => d' = .val (.bool r) /\ b' = []) := by
 unfold Ic at G
 refine Fn.of Tryz.func90 rfl rfl rfl fun w0 I ρ0 => ?_
 show B2 _ ⟨w0, I, ρ0, 0, 0, 33⟩ _ _ _
 refine Bh 0 8 A5 fun B => ?_
 refine B9 8 240 B ?_
 refine Aw ?_
 rcases D9 G with ⟨h2, G⟩ | ⟨h2, G⟩
 refine Aw ?_
 rcases D9 G with ⟨h3, G⟩ | ⟨h3, G⟩
 exact De
 refine Aw ?_
 rcases D9 G with ⟨h5, G⟩ | ⟨h5, G⟩
 refine Aw ?_
 rcases D9 G with ⟨h6, G⟩ | ⟨h6, G⟩
 exact De
 refine Aw ?_
 rcases D9 G with ⟨h8, G⟩ | ⟨h8, G⟩
 refine Aw ?_
 rcases D9 G with ⟨h9, G⟩ | ⟨h9, G⟩
 exact De
 refine Aw ?_
 obtain ⟨y, hy, G⟩ := Ab G
 refine Do (Ex _ _ _ hy) ?_
 exact De
 refine Aw ?_
 obtain ⟨y_2, hy_2, G⟩ := Ab G
 refine Do (Ex _ _ _ hy_2) ?_
 exact De
 refine Aw ?_
 rcases D9 G with ⟨h13, G⟩ | ⟨h13, G⟩
 refine Aw ?_
 rcases D9 G with ⟨h14, G⟩ | ⟨h14, G⟩
 exact De
 refine Aw ?_
 obtain ⟨y_3, hy_3, G⟩ := Ab G
 refine Do (Ex _ _ _ hy_3) ?_
 exact De
 refine Aw ?_
 obtain ⟨y_4, hy_4, G⟩ := Ab G
 refine Do (Ex _ _ _ hy_4) ?_
 exact De
 refine Aw ?_
 rcases D9 G with ⟨h18, G⟩ | ⟨h18, G⟩
 refine Aw ?_
 rcases D9 G with ⟨h19, G⟩ | ⟨h19, G⟩
 exact De
 refine Aw ?_
 rcases D9 G with ⟨h21, G⟩ | ⟨h21, G⟩
 refine Aw ?_
 rcases D9 G with ⟨h22, G⟩ | ⟨h22, G⟩
 exact De
 refine Aw ?_
 obtain ⟨y_5, hy_5, G⟩ := Ab G
 refine Do (Ex _ _ _ hy_5) ?_
 exact De
 refine Aw ?_
 obtain ⟨y_6, hy_6, G⟩ := Ab G
 refine Do (Ex _ _ _ hy_6) ?_
 exact De
 refine Aw ?_
 rcases D9 G with ⟨h26, G⟩ | ⟨h26, G⟩
 refine Aw ?_
 rcases D9 G with ⟨h27, G⟩ | ⟨h27, G⟩
 exact De
 refine Aw ?_
 obtain ⟨y_7, hy_7, G⟩ := Ab G
 refine Do (Ex _ _ _ hy_7) ?_
 exact De
 refine Aw ?_
 obtain ⟨y_8, hy_8, G⟩ := Ab G
 refine Do (Ex _ _ _ hy_8) ?_
 exact De
theorem Wv (s : ByteArray) (r : Bool) (G : Dw s = some r) : Fn Tryz.prog 62 0 [ws s] [] (fun d' b' => d' = .val (.bool r) /\ b' = []) := by
 unfold Dw at G
 refine Fn.of Tryz.func62 rfl rfl rfl fun w0 I ρ0 => ?_
 show B2 _ ⟨w0, I, ρ0, 0, 0, 24⟩ _ _ _
 refine Bh 0 8 A5 fun B => ?_
 refine Aj <| B9 8 40 B ?_
 refine Aw ?_
 refine C0 rfl rfl (cA Vc oV Mc) rfl rfl ?_
 refine Bj fun B => ?_
 refine Ap <| Jy (fun (x8_1 : Int) => mk [(0, ws s), (6, .sl 1 (Aq e8 (Im s))), (7, .val (.int .i64 ((Im s).length : Int))), (8, vk x8_1)] [] 0) G (A1 []) ?_
 rintro x8_1 m1 o1 G hn1
 replace G : Dw.l1 s x8_1 = some o1 := G
 show B2 _ _ _ _ (mk _ _ _)
 unfold Dw.l1 at G
 refine Bh 0 8 A5 fun B => ?_
 refine Aj <| C4 rfl G (fun h4 G => ?_) fun h4 G => ?_
 refine Dg ?_
 refine Aj <| Ap <| B9 8 32 B ?_
 obtain ⟨e, he, G⟩ := Ab G
 refine Aw ?_
 refine Ra he ?_
 refine Bj fun B => ?_
 refine B9 32 56 B ?_
 refine Aw ?_
 obtain ⟨y, hy, G⟩ := Ab G
 refine Do (Ub _ _ _ hy) ?_
 refine Bj fun B => ?_
 refine C4 rfl G (fun h7 G => ?_) fun h7 G => ?_
 refine Bh 56 64 B fun B => ?_
 refine Fg ?_
 replace G := Cn G hn1
 exact Zh
 refine Dg ?_
 refine Ak (B8 _ _ []) 56 72 B rfl rfl ?_
 refine Bj fun B => ?_
 obtain rfl := oi_ G
 exact ⟨(W (x8_1 + 1), m1), Nat.lt_succ_self _, hn1, A1 []⟩
 refine Jl ?_
 replace G := Cn G hn1
 refine B9 8 80 B ?_
 refine Aw ?_
 refine C0 rfl rfl (Tn Vc) rfl rfl ?_
 refine Aw ?_
 rcases D9 G with ⟨h10, G⟩ | ⟨h10, G⟩
 refine Aw ?_
 refine C0 (E5 rfl rfl h10) rfl (Tn Vc) rfl rfl ?_
 exact De
 exact De
theorem C6 (alg : Int) (bits : Int) (r : As) (G : Co alg bits = some r) : Fn Tryz.prog 114 0 [vk alg, vk bits] [] (fun d' b' => d' = .agg [vk r.Alg, vk r.Bits] /\ b' = []) := by
 unfold Co at G
 refine Fn.of Tryz.func114 rfl rfl rfl fun w0 I ρ0 => ?_
 show B2 _ ⟨w0, I, ρ0, 0, 0, 8⟩ _ _ _
 refine Bh 0 8 A5 fun B => ?_
 refine B9 8 40 B ?_
 refine Aw ?_
 refine Qz Iu Mm Vf ?_
 exact De
theorem Ve  (r : (List Ay)) (G : Dd = some r) : Fn Tryz.prog 77 0 [] [] (fun d' b' => d' = .sl 12 (Aq Ay.enc r) /\ b' = []) := by
 unfold Dd at G
 refine Fn.of Tryz.func77 rfl rfl rfl fun w0 I ρ0 => ?_
 show B2 _ ⟨w0, I, ρ0, 0, 0, 125⟩ _ _ _
 refine Bh 0 8 A5 fun B => ?_
 refine B9 8 128 B ?_
 obtain ⟨y, hy, G⟩ := Ab G
 refine Do (C6 _ _ _ hy) ?_
 obtain ⟨y_2, hy_2, G⟩ := Ab G
 refine Do (C6 _ _ _ hy_2) ?_
 obtain ⟨y_3, hy_3, G⟩ := Ab G
 refine Do (C6 _ _ _ hy_3) ?_
 obtain ⟨y_4, hy_4, G⟩ := Ab G
 refine Do (C6 _ _ _ hy_4) ?_
 refine C0 rfl rfl (.build (r := [.val (.int .i64 0), .val (.int .i64 0)]) Iu Mm Vf (by kernel_rfl) rfl) rfl rfl ?_
 refine Bj fun B => ?_
 refine B9 128 248 B ?_
 obtain ⟨y_5, hy_5, G⟩ := Ab G
 refine Do (C6 _ _ _ hy_5) ?_
 obtain ⟨y_6, hy_6, G⟩ := Ab G
 refine Do (C6 _ _ _ hy_6) ?_
 obtain ⟨y_7, hy_7, G⟩ := Ab G
 refine Do (C6 _ _ _ hy_7) ?_
 obtain ⟨y_8, hy_8, G⟩ := Ab G
 refine Do (C6 _ _ _ hy_8) ?_
 obtain ⟨y_9, hy_9, G⟩ := Ab G
 refine Do (C6 _ _ _ hy_9) ?_
 refine Bj fun B => ?_
 refine B9 248 344 B ?_
 obtain ⟨y_10, hy_10, G⟩ := Ab G
 refine Do (C6 _ _ _ hy_10) ?_
 obtain ⟨y_11, hy_11, G⟩ := Ab G
 refine Do (C6 _ _ _ hy_11) ?_
 obtain ⟨y_12, hy_12, G⟩ := Ab G
 refine Do (C6 _ _ _ hy_12) ?_
 obtain ⟨y_13, hy_13, G⟩ := Ab G
 refine Do (C6 _ _ _ hy_13) ?_
 refine Bj fun B => ?_
 refine Aj <| Bq (B8 _ _ []) (by kernel_rfl) [0, 0, 0, 0, 15, 0, 0, 4, 0, 484, 0, 0, 0, 0, 15360, 132, 0, 0, 0, 491652, 32900, 0, 0, 0, 15761540, 0, 0, 0, 0, 503316480, 1081476, 0, 0, 0, 16107208836, 0, 0, 0, 0, 515396075520, 0, 0, 1074823300, 4399121334404, 16493749239940, 0, 0, 0, 0, 527765581332480, 13195214356612, 0, 0, 0, 16901693816995972, 0, 0, 0, 0, 540431955284459520, 0, 0, 0, 0, 17293822569102704640, 0, 0, 0, 0, 553402322211286548480, 0, 0, 0, 0, 17708874310761169551360, 1139095121199236, 0, 0, 0, 566683979083452546842756, 1208925819614629174706175, 2417851639229258349412351] 344 1000 B rfl rfl (by kernel_rfl) ?_
 refine Aw ?_
 obtain ⟨y_14, hy_14, G⟩ := Ab G
 refine Do (C6 _ _ _ hy_14) ?_
 refine Aw ?_
 refine C0 rfl rfl (.build (r := [.val (.int .i64 0), .val (.string (⟨#[114, 115, 97, 45, 114, 99, 52, 45, 109, 100, 53]⟩ : ByteArray)), vk y.Alg, vk y.Bits, vk y_2.Alg, vk y_2.Bits, vk y_14.Alg, vk y_14.Bits, vk y_10.Alg, vk y_10.Bits, .val (.int .i64 1), .val (.int .i64 2)]) J3 P7 Zg (by kernel_rfl) rfl) rfl rfl ?_
 refine Aw ?_
 obtain ⟨y_15, hy_15, G⟩ := Ab G
 refine Do (C6 _ _ _ hy_15) ?_
 refine Aw ?_
 refine C0 rfl rfl (.build (r := [.val (.int .i64 0), .val (.string (⟨#[114, 115, 97, 45, 114, 99, 52, 45, 115, 104, 97]⟩ : ByteArray)), vk y.Alg, vk y.Bits, vk y_2.Alg, vk y_2.Bits, vk y_15.Alg, vk y_15.Bits, vk y_11.Alg, vk y_11.Bits, .val (.int .i64 1), .val (.int .i64 3)]) J3 P7 Zg (by kernel_rfl) rfl) rfl rfl ?_
 refine Aw ?_
 refine C0 rfl rfl (.build (r := [.val (.int .i64 0), .val (.string (⟨#[114, 115, 97, 45, 100, 101, 115, 51, 45, 115, 104, 97]⟩ : ByteArray)), vk y.Alg, vk y.Bits, vk y_2.Alg, vk y_2.Bits, vk y_5.Alg, vk y_5.Bits, vk y_11.Alg, vk y_11.Bits, .val (.int .i64 1), .val (.int .i64 3)]) J3 P7 Zg (by kernel_rfl) rfl) rfl rfl ?_
 obtain ⟨y_16, hy_16, G⟩ := Ab G
 refine Do (C6 _ _ _ hy_16) ?_
 refine Aw ?_
 refine C0 rfl rfl (.build (r := [.val (.int .i64 0), .val (.string (⟨#[100, 104, 101, 45, 100, 115, 97, 45, 100, 101, 115, 51, 45, 115, 104, 97]⟩ : ByteArray)), vk y_16.Alg, vk y_16.Bits, vk y_3.Alg, vk y_3.Bits, vk y_5.Alg, vk y_5.Bits, vk y_11.Alg, vk y_11.Bits, .val (.int .i64 1), .val (.int .i64 3)]) J3 P7 Zg (by kernel_rfl) rfl) rfl rfl ?_
 obtain ⟨y_17, hy_17, G⟩ := Ab G
 refine Do (C6 _ _ _ hy_17) ?_
 refine Aw ?_
 refine C0 rfl rfl (.build (r := [.val (.int .i64 0), .val (.string (⟨#[100, 104, 101, 45, 114, 115, 97, 45, 100, 101, 115, 51, 45, 115, 104, 97]⟩ : ByteArray)), vk y_17.Alg, vk y_17.Bits, vk y_2.Alg, vk y_2.Bits, vk y_5.Alg, vk y_5.Bits, vk y_11.Alg, vk y_11.Bits, .val (.int .i64 1), .val (.int .i64 3)]) J3 P7 Zg (by kernel_rfl) rfl) rfl rfl ?_
 refine Aw ?_
 refine C0 rfl rfl (.build (r := [.val (.int .i64 0), .val (.string (⟨#[114, 115, 97, 45, 97, 101, 115, 49, 50, 56, 45, 115, 104, 97]⟩ : ByteArray)), vk y.Alg, vk y.Bits, vk y_2.Alg, vk y_2.Bits, vk y_6.Alg, vk y_6.Bits, vk y_11.Alg, vk y_11.Bits, .val (.int .i64 1), .val (.int .i64 3)]) J3 P7 Zg (by kernel_rfl) rfl) rfl rfl ?_
 obtain ⟨y_18, hy_18, G⟩ := Ab G
 refine Do (C6 _ _ _ hy_18) ?_
 refine Aw ?_
 refine C0 rfl rfl (.build (r := [.val (.int .i64 0), .val (.string (⟨#[100, 104, 101, 45, 114, 115, 97, 45, 97, 101, 115, 49, 50, 56, 45, 115, 104, 97]⟩ : ByteArray)), vk y_18.Alg, vk y_18.Bits, vk y_2.Alg, vk y_2.Bits, vk y_6.Alg, vk y_6.Bits, vk y_11.Alg, vk y_11.Bits, .val (.int .i64 1), .val (.int .i64 3)]) J3 P7 Zg (by kernel_rfl) rfl) rfl rfl ?_
 refine Aw ?_
 refine C0 rfl rfl (.build (r := [.val (.int .i64 0), .val (.string (⟨#[101, 99, 100, 104, 101, 45, 114, 115, 97, 45, 97, 101, 115, 49, 50, 56, 45, 115, 104, 97]⟩ : ByteArray)), vk y_13.Alg, vk y_13.Bits, vk y_2.Alg, vk y_2.Bits, vk y_6.Alg, vk y_6.Bits, vk y_11.Alg, vk y_11.Bits, .val (.int .i64 1), .val (.int .i64 3)]) J3 P7 Zg (by kernel_rfl) rfl) rfl rfl ?_
 refine Aw ?_
 obtain ⟨y_19, hy_19, G⟩ := Ab G
 refine Do (C6 _ _ _ hy_19) ?_
 obtain ⟨y_20, hy_20, G⟩ := Ab G
 refine Do (C6 _ _ _ hy_20) ?_
 refine C0 rfl rfl (.build (r := [.val (.int .i64 0), .val (.string (⟨#[101, 99, 100, 104, 101, 45, 101, 99, 100, 115, 97, 45, 97, 101, 115, 50, 53, 54, 45, 115, 104, 97, 50, 53, 54]⟩ : ByteArray)), vk y_13.Alg, vk y_13.Bits, vk y_4.Alg, vk y_4.Bits, vk y_19.Alg, vk y_19.Bits, vk y_20.Alg, vk y_20.Bits, .val (.int .i64 3), .val (.int .i64 3)]) J3 P7 Zg (by kernel_rfl) rfl) rfl rfl ?_
 refine Aw ?_
 refine C0 rfl rfl (.build (r := [.val (.int .i64 0), .val (.string (⟨#[101, 99, 100, 104, 101, 45, 114, 115, 97, 45, 97, 101, 115, 49, 50, 56, 45, 103, 99, 109]⟩ : ByteArray)), vk y_13.Alg, vk y_13.Bits, vk y_2.Alg, vk y_2.Bits, vk y_7.Alg, vk y_7.Bits, vk y_12.Alg, vk y_12.Bits, .val (.int .i64 3), .val (.int .i64 3)]) J3 P7 Zg (by kernel_rfl) rfl) rfl rfl ?_
 obtain ⟨y_21, hy_21, G⟩ := Ab G
 refine Do (C6 _ _ _ hy_21) ?_
 refine Aw ?_
 refine C0 rfl rfl (.build (r := [.val (.int .i64 0), .val (.string (⟨#[101, 99, 100, 104, 101, 45, 101, 99, 100, 115, 97, 45, 97, 101, 115, 50, 53, 54, 45, 103, 99, 109]⟩ : ByteArray)), vk y_21.Alg, vk y_21.Bits, vk y_4.Alg, vk y_4.Bits, vk y_8.Alg, vk y_8.Bits, vk y_12.Alg, vk y_12.Bits, .val (.int .i64 3), .val (.int .i64 3)]) J3 P7 Zg (by kernel_rfl) rfl) rfl rfl ?_
 refine Aw ?_
 refine C0 rfl rfl (.build (r := [.val (.int .i64 0), .val (.string (⟨#[101, 99, 100, 104, 101, 45, 114, 115, 97, 45, 99, 104, 97, 99, 104, 97]⟩ : ByteArray)), vk y_13.Alg, vk y_13.Bits, vk y_2.Alg, vk y_2.Bits, vk y_9.Alg, vk y_9.Bits, vk y_12.Alg, vk y_12.Bits, .val (.int .i64 3), .val (.int .i64 3)]) J3 P7 Zg (by kernel_rfl) rfl) rfl rfl ?_
 refine Aw ?_
 refine C0 rfl rfl (.build (r := [.val (.int .i64 0), .val (.string (⟨#[114, 115, 97, 45, 97, 101, 115, 50, 53, 54, 45, 103, 99, 109]⟩ : ByteArray)), vk y.Alg, vk y.Bits, vk y_2.Alg, vk y_2.Bits, vk y_8.Alg, vk y_8.Bits, vk y_12.Alg, vk y_12.Bits, .val (.int .i64 3), .val (.int .i64 3)]) J3 P7 Zg (by kernel_rfl) rfl) rfl rfl ?_
 refine Aw ?_
 refine C0 rfl rfl (.build (r := [.val (.int .i64 0), .val (.string (⟨#[97, 101, 115, 49, 50, 56, 45, 103, 99, 109]⟩ : ByteArray)), vk y_13.Alg, vk y_13.Bits, .val (.int .i64 0), .val (.int .i64 0), vk y_7.Alg, vk y_7.Bits, vk y_12.Alg, vk y_12.Bits, .val (.int .i64 4), .val (.int .i64 4)]) J3 P7 Zg (by kernel_rfl) rfl) rfl rfl ?_
 refine Aw ?_
 refine C0 rfl rfl (.build (r := [.val (.int .i64 0), .val (.string (⟨#[99, 104, 97, 99, 104, 97]⟩ : ByteArray)), vk y_13.Alg, vk y_13.Bits, .val (.int .i64 0), .val (.int .i64 0), vk y_9.Alg, vk y_9.Bits, vk y_12.Alg, vk y_12.Bits, .val (.int .i64 4), .val (.int .i64 4)]) J3 P7 Zg (by kernel_rfl) rfl) rfl rfl ?_
 obtain ⟨y_22, hy_22, G⟩ := Ab G
 refine Do (C6 _ _ _ hy_22) ?_
 refine Aw ?_
 refine C0 rfl rfl (.build (r := [.val (.int .i64 0), .val (.string (⟨#[109, 108, 107, 101, 109, 45, 97, 101, 115, 50, 53, 54, 45, 103, 99, 109]⟩ : ByteArray)), vk y_22.Alg, vk y_22.Bits, .val (.int .i64 0), .val (.int .i64 0), vk y_8.Alg, vk y_8.Bits, vk y_12.Alg, vk y_12.Bits, .val (.int .i64 4), .val (.int .i64 4)]) J3 P7 Zg (by kernel_rfl) rfl) rfl rfl ?_
 refine C0 rfl rfl (Em nI Zg (by decide) rfl rfl rfl rfl aBp (cs := [.int .i64 0, .str (⟨#[114, 115, 97, 45, 114, 99, 52, 45, 109, 100, 53]⟩ : ByteArray), .int .i64 y.Alg, .int .i64 y.Bits, .int .i64 y_2.Alg, .int .i64 y_2.Bits, .int .i64 y_14.Alg, .int .i64 y_14.Bits, .int .i64 y_10.Alg, .int .i64 y_10.Bits, .int .i64 1, .int .i64 2, .int .i64 0, .str (⟨#[114, 115, 97, 45, 114, 99, 52, 45, 115, 104, 97]⟩ : ByteArray), .int .i64 y.Alg, .int .i64 y.Bits, .int .i64 y_2.Alg, .int .i64 y_2.Bits, .int .i64 y_15.Alg, .int .i64 y_15.Bits, .int .i64 y_11.Alg, .int .i64 y_11.Bits, .int .i64 1, .int .i64 3, .int .i64 0, .str (⟨#[114, 115, 97, 45, 100, 101, 115, 51, 45, 115, 104, 97]⟩ : ByteArray), .int .i64 y.Alg, .int .i64 y.Bits, .int .i64 y_2.Alg, .int .i64 y_2.Bits, .int .i64 y_5.Alg, .int .i64 y_5.Bits, .int .i64 y_11.Alg, .int .i64 y_11.Bits, .int .i64 1, .int .i64 3, .int .i64 0, .str (⟨#[100, 104, 101, 45, 100, 115, 97, 45, 100, 101, 115, 51, 45, 115, 104, 97]⟩ : ByteArray), .int .i64 y_16.Alg, .int .i64 y_16.Bits, .int .i64 y_3.Alg, .int .i64 y_3.Bits, .int .i64 y_5.Alg, .int .i64 y_5.Bits, .int .i64 y_11.Alg, .int .i64 y_11.Bits, .int .i64 1, .int .i64 3, .int .i64 0, .str (⟨#[100, 104, 101, 45, 114, 115, 97, 45, 100, 101, 115, 51, 45, 115, 104, 97]⟩ : ByteArray), .int .i64 y_17.Alg, .int .i64 y_17.Bits, .int .i64 y_2.Alg, .int .i64 y_2.Bits, .int .i64 y_5.Alg, .int .i64 y_5.Bits, .int .i64 y_11.Alg, .int .i64 y_11.Bits, .int .i64 1, .int .i64 3, .int .i64 0, .str (⟨#[114, 115, 97, 45, 97, 101, 115, 49, 50, 56, 45, 115, 104, 97]⟩ : ByteArray), .int .i64 y.Alg, .int .i64 y.Bits, .int .i64 y_2.Alg, .int .i64 y_2.Bits, .int .i64 y_6.Alg, .int .i64 y_6.Bits, .int .i64 y_11.Alg, .int .i64 y_11.Bits, .int .i64 1, .int .i64 3, .int .i64 0, .str (⟨#[100, 104, 101, 45, 114, 115, 97, 45, 97, 101, 115, 49, 50, 56, 45, 115, 104, 97]⟩ : ByteArray), .int .i64 y_18.Alg, .int .i64 y_18.Bits, .int .i64 y_2.Alg, .int .i64 y_2.Bits, .int .i64 y_6.Alg, .int .i64 y_6.Bits, .int .i64 y_11.Alg, .int .i64 y_11.Bits, .int .i64 1, .int .i64 3, .int .i64 0, .str (⟨#[101, 99, 100, 104, 101, 45, 114, 115, 97, 45, 97, 101, 115, 49, 50, 56, 45, 115, 104, 97]⟩ : ByteArray), .int .i64 y_13.Alg, .int .i64 y_13.Bits, .int .i64 y_2.Alg, .int .i64 y_2.Bits, .int .i64 y_6.Alg, .int .i64 y_6.Bits, .int .i64 y_11.Alg, .int .i64 y_11.Bits, .int .i64 1, .int .i64 3, .int .i64 0, .str (⟨#[101, 99, 100, 104, 101, 45, 101, 99, 100, 115, 97, 45, 97, 101, 115, 50, 53, 54, 45, 115, 104, 97, 50, 53, 54]⟩ : ByteArray), .int .i64 y_13.Alg, .int .i64 y_13.Bits, .int .i64 y_4.Alg, .int .i64 y_4.Bits, .int .i64 y_19.Alg, .int .i64 y_19.Bits, .int .i64 y_20.Alg, .int .i64 y_20.Bits, .int .i64 3, .int .i64 3, .int .i64 0, .str (⟨#[101, 99, 100, 104, 101, 45, 114, 115, 97, 45, 97, 101, 115, 49, 50, 56, 45, 103, 99, 109]⟩ : ByteArray), .int .i64 y_13.Alg, .int .i64 y_13.Bits, .int .i64 y_2.Alg, .int .i64 y_2.Bits, .int .i64 y_7.Alg, .int .i64 y_7.Bits, .int .i64 y_12.Alg, .int .i64 y_12.Bits, .int .i64 3, .int .i64 3, .int .i64 0, .str (⟨#[101, 99, 100, 104, 101, 45, 101, 99, 100, 115, 97, 45, 97, 101, 115, 50, 53, 54, 45, 103, 99, 109]⟩ : ByteArray), .int .i64 y_21.Alg, .int .i64 y_21.Bits, .int .i64 y_4.Alg, .int .i64 y_4.Bits, .int .i64 y_8.Alg, .int .i64 y_8.Bits, .int .i64 y_12.Alg, .int .i64 y_12.Bits, .int .i64 3, .int .i64 3, .int .i64 0, .str (⟨#[101, 99, 100, 104, 101, 45, 114, 115, 97, 45, 99, 104, 97, 99, 104, 97]⟩ : ByteArray), .int .i64 y_13.Alg, .int .i64 y_13.Bits, .int .i64 y_2.Alg, .int .i64 y_2.Bits, .int .i64 y_9.Alg, .int .i64 y_9.Bits, .int .i64 y_12.Alg, .int .i64 y_12.Bits, .int .i64 3, .int .i64 3, .int .i64 0, .str (⟨#[114, 115, 97, 45, 97, 101, 115, 50, 53, 54, 45, 103, 99, 109]⟩ : ByteArray), .int .i64 y.Alg, .int .i64 y.Bits, .int .i64 y_2.Alg, .int .i64 y_2.Bits, .int .i64 y_8.Alg, .int .i64 y_8.Bits, .int .i64 y_12.Alg, .int .i64 y_12.Bits, .int .i64 3, .int .i64 3, .int .i64 0, .str (⟨#[97, 101, 115, 49, 50, 56, 45, 103, 99, 109]⟩ : ByteArray), .int .i64 y_13.Alg, .int .i64 y_13.Bits, .int .i64 0, .int .i64 0, .int .i64 y_7.Alg, .int .i64 y_7.Bits, .int .i64 y_12.Alg, .int .i64 y_12.Bits, .int .i64 4, .int .i64 4, .int .i64 0, .str (⟨#[99, 104, 97, 99, 104, 97]⟩ : ByteArray), .int .i64 y_13.Alg, .int .i64 y_13.Bits, .int .i64 0, .int .i64 0, .int .i64 y_9.Alg, .int .i64 y_9.Bits, .int .i64 y_12.Alg, .int .i64 y_12.Bits, .int .i64 4, .int .i64 4, .int .i64 0, .str (⟨#[109, 108, 107, 101, 109, 45, 97, 101, 115, 50, 53, 54, 45, 103, 99, 109]⟩ : ByteArray), .int .i64 y_22.Alg, .int .i64 y_22.Bits, .int .i64 0, .int .i64 0, .int .i64 y_8.Alg, .int .i64 y_8.Bits, .int .i64 y_12.Alg, .int .i64 y_12.Bits, .int .i64 4, .int .i64 4]) (.cons .int (.cons .str (.cons .int (.cons .int (.cons .int (.cons .int (.cons .int (.cons .int (.cons .int (.cons .int (.cons .int (.cons .int (.cons .int (.cons .str (.cons .int (.cons .int (.cons .int (.cons .int (.cons .int (.cons .int (.cons .int (.cons .int (.cons .int (.cons .int (.cons .int (.cons .str (.cons .int (.cons .int (.cons .int (.cons .int (.cons .int (.cons .int (.cons .int (.cons .int (.cons .int (.cons .int (.cons .int (.cons .str (.cons .int (.cons .int (.cons .int (.cons .int (.cons .int (.cons .int (.cons .int (.cons .int (.cons .int (.cons .int (.cons .int (.cons .str (.cons .int (.cons .int (.cons .int (.cons .int (.cons .int (.cons .int (.cons .int (.cons .int (.cons .int (.cons .int (.cons .int (.cons .str (.cons .int (.cons .int (.cons .int (.cons .int (.cons .int (.cons .int (.cons .int (.cons .int (.cons .int (.cons .int (.cons .int (.cons .str (.cons .int (.cons .int (.cons .int (.cons .int (.cons .int (.cons .int (.cons .int (.cons .int (.cons .int (.cons .int (.cons .int (.cons .str (.cons .int (.cons .int (.cons .int (.cons .int (.cons .int (.cons .int (.cons .int (.cons .int (.cons .int (.cons .int (.cons .int (.cons .str (.cons .int (.cons .int (.cons .int (.cons .int (.cons .int (.cons .int (.cons .int (.cons .int (.cons .int (.cons .int (.cons .int (.cons .str (.cons .int (.cons .int (.cons .int (.cons .int (.cons .int (.cons .int (.cons .int (.cons .int (.cons .int (.cons .int (.cons .int (.cons .str (.cons .int (.cons .int (.cons .int (.cons .int (.cons .int (.cons .int (.cons .int (.cons .int (.cons .int (.cons .int (.cons .int (.cons .str (.cons .int (.cons .int (.cons .int (.cons .int (.cons .int (.cons .int (.cons .int (.cons .int (.cons .int (.cons .int (.cons .int (.cons .str (.cons .int (.cons .int (.cons .int (.cons .int (.cons .int (.cons .int (.cons .int (.cons .int (.cons .int (.cons .int (.cons .int (.cons .str (.cons .int (.cons .int (.cons .int (.cons .int (.cons .int (.cons .int (.cons .int (.cons .int (.cons .int (.cons .int (.cons .int (.cons .str (.cons .int (.cons .int (.cons .int (.cons .int (.cons .int (.cons .int (.cons .int (.cons .int (.cons .int (.cons .int (.cons .int (.cons .str (.cons .int (.cons .int (.cons .int (.cons .int (.cons .int (.cons .int (.cons .int (.cons .int (.cons .int (.cons .int .nil)))))))))))))))))))))))))))))))))))))))))))))))))))))))))))))))))))))))))))))))))))))))))))))))))))))))))))))))))))))))))))))))))))))))))))))))))))))))))))))))))))))))))))))))))))))))))))))))) rfl (l := ([(Ay.mk 0 (⟨#[114, 115, 97, 45, 114, 99, 52, 45, 109, 100, 53]⟩ : ByteArray) y y_2 y_14 y_10 1 2), (Ay.mk 0 (⟨#[114, 115, 97, 45, 114, 99, 52, 45, 115, 104, 97]⟩ : ByteArray) y y_2 y_15 y_11 1 3), (Ay.mk 0 (⟨#[114, 115, 97, 45, 100, 101, 115, 51, 45, 115, 104, 97]⟩ : ByteArray) y y_2 y_5 y_11 1 3), (Ay.mk 0 (⟨#[100, 104, 101, 45, 100, 115, 97, 45, 100, 101, 115, 51, 45, 115, 104, 97]⟩ : ByteArray) y_16 y_3 y_5 y_11 1 3), (Ay.mk 0 (⟨#[100, 104, 101, 45, 114, 115, 97, 45, 100, 101, 115, 51, 45, 115, 104, 97]⟩ : ByteArray) y_17 y_2 y_5 y_11 1 3), (Ay.mk 0 (⟨#[114, 115, 97, 45, 97, 101, 115, 49, 50, 56, 45, 115, 104, 97]⟩ : ByteArray) y y_2 y_6 y_11 1 3), (Ay.mk 0 (⟨#[100, 104, 101, 45, 114, 115, 97, 45, 97, 101, 115, 49, 50, 56, 45, 115, 104, 97]⟩ : ByteArray) y_18 y_2 y_6 y_11 1 3), (Ay.mk 0 (⟨#[101, 99, 100, 104, 101, 45, 114, 115, 97, 45, 97, 101, 115, 49, 50, 56, 45, 115, 104, 97]⟩ : ByteArray) y_13 y_2 y_6 y_11 1 3), (Ay.mk 0 (⟨#[101, 99, 100, 104, 101, 45, 101, 99, 100, 115, 97, 45, 97, 101, 115, 50, 53, 54, 45, 115, 104, 97, 50, 53, 54]⟩ : ByteArray) y_13 y_4 y_19 y_20 3 3), (Ay.mk 0 (⟨#[101, 99, 100, 104, 101, 45, 114, 115, 97, 45, 97, 101, 115, 49, 50, 56, 45, 103, 99, 109]⟩ : ByteArray) y_13 y_2 y_7 y_12 3 3), (Ay.mk 0 (⟨#[101, 99, 100, 104, 101, 45, 101, 99, 100, 115, 97, 45, 97, 101, 115, 50, 53, 54, 45, 103, 99, 109]⟩ : ByteArray) y_21 y_4 y_8 y_12 3 3), (Ay.mk 0 (⟨#[101, 99, 100, 104, 101, 45, 114, 115, 97, 45, 99, 104, 97, 99, 104, 97]⟩ : ByteArray) y_13 y_2 y_9 y_12 3 3), (Ay.mk 0 (⟨#[114, 115, 97, 45, 97, 101, 115, 50, 53, 54, 45, 103, 99, 109]⟩ : ByteArray) y y_2 y_8 y_12 3 3), (Ay.mk 0 (⟨#[97, 101, 115, 49, 50, 56, 45, 103, 99, 109]⟩ : ByteArray) y_13 (As.mk 0 0) y_7 y_12 4 4), (Ay.mk 0 (⟨#[99, 104, 97, 99, 104, 97]⟩ : ByteArray) y_13 (As.mk 0 0) y_9 y_12 4 4), (Ay.mk 0 (⟨#[109, 108, 107, 101, 109, 45, 97, 101, 115, 50, 53, 54, 45, 103, 99, 109]⟩ : ByteArray) y_22 (As.mk 0 0) y_8 y_12 4 4)] : List Ay)) (f := Ay.enc) rfl) rfl rfl ?_
 refine Bj fun B => ?_
 refine Aj <| Bh 1000 1024 B fun B => ?_
 refine Ap <| Jy (fun ((x114_1, l_1) : Int × List Ay) => mk [(15, .row 0), (113, .val (.int .i64 (([(Ay.mk 0 (⟨#[114, 115, 97, 45, 114, 99, 52, 45, 109, 100, 53]⟩ : ByteArray) y y_2 y_14 y_10 1 2), (Ay.mk 0 (⟨#[114, 115, 97, 45, 114, 99, 52, 45, 115, 104, 97]⟩ : ByteArray) y y_2 y_15 y_11 1 3), (Ay.mk 0 (⟨#[114, 115, 97, 45, 100, 101, 115, 51, 45, 115, 104, 97]⟩ : ByteArray) y y_2 y_5 y_11 1 3), (Ay.mk 0 (⟨#[100, 104, 101, 45, 100, 115, 97, 45, 100, 101, 115, 51, 45, 115, 104, 97]⟩ : ByteArray) y_16 y_3 y_5 y_11 1 3), (Ay.mk 0 (⟨#[100, 104, 101, 45, 114, 115, 97, 45, 100, 101, 115, 51, 45, 115, 104, 97]⟩ : ByteArray) y_17 y_2 y_5 y_11 1 3), (Ay.mk 0 (⟨#[114, 115, 97, 45, 97, 101, 115, 49, 50, 56, 45, 115, 104, 97]⟩ : ByteArray) y y_2 y_6 y_11 1 3), (Ay.mk 0 (⟨#[100, 104, 101, 45, 114, 115, 97, 45, 97, 101, 115, 49, 50, 56, 45, 115, 104, 97]⟩ : ByteArray) y_18 y_2 y_6 y_11 1 3), (Ay.mk 0 (⟨#[101, 99, 100, 104, 101, 45, 114, 115, 97, 45, 97, 101, 115, 49, 50, 56, 45, 115, 104, 97]⟩ : ByteArray) y_13 y_2 y_6 y_11 1 3), (Ay.mk 0 (⟨#[101, 99, 100, 104, 101, 45, 101, 99, 100, 115, 97, 45, 97, 101, 115, 50, 53, 54, 45, 115, 104, 97, 50, 53, 54]⟩ : ByteArray) y_13 y_4 y_19 y_20 3 3), (Ay.mk 0 (⟨#[101, 99, 100, 104, 101, 45, 114, 115, 97, 45, 97, 101, 115, 49, 50, 56, 45, 103, 99, 109]⟩ : ByteArray) y_13 y_2 y_7 y_12 3 3), (Ay.mk 0 (⟨#[101, 99, 100, 104, 101, 45, 101, 99, 100, 115, 97, 45, 97, 101, 115, 50, 53, 54, 45, 103, 99, 109]⟩ : ByteArray) y_21 y_4 y_8 y_12 3 3), (Ay.mk 0 (⟨#[101, 99, 100, 104, 101, 45, 114, 115, 97, 45, 99, 104, 97, 99, 104, 97]⟩ : ByteArray) y_13 y_2 y_9 y_12 3 3), (Ay.mk 0 (⟨#[114, 115, 97, 45, 97, 101, 115, 50, 53, 54, 45, 103, 99, 109]⟩ : ByteArray) y y_2 y_8 y_12 3 3), (Ay.mk 0 (⟨#[97, 101, 115, 49, 50, 56, 45, 103, 99, 109]⟩ : ByteArray) y_13 (As.mk 0 0) y_7 y_12 4 4), (Ay.mk 0 (⟨#[99, 104, 97, 99, 104, 97]⟩ : ByteArray) y_13 (As.mk 0 0) y_9 y_12 4 4), (Ay.mk 0 (⟨#[109, 108, 107, 101, 109, 45, 97, 101, 115, 50, 53, 54, 45, 103, 99, 109]⟩ : ByteArray) y_22 (As.mk 0 0) y_8 y_12 4 4)] : List Ay).length : Int))), (114, vk x114_1)] [(0, .row 86 12 (Aq Ay.enc l_1))] 1) G (A1 [(0, 984)]) ?_
 rintro ⟨x114_1, l_1⟩ m1 o1 G hn1
 replace G : Dd.l1 y y_2 y_3 y_4 y_5 y_6 y_7 y_8 y_9 y_10 y_11 y_12 y_13 y_14 y_15 y_16 y_17 y_18 y_19 y_20 y_21 y_22 x114_1 l_1 = some o1 := G
 show B2 _ _ _ _ (mk _ _ _)
 unfold Dd.l1 at G
 refine Bh 1 9 A5 fun B => ?_
 refine Aj <| C4 rfl G (fun h8 G => ?_) fun h8 G => ?_
 refine Dg ?_
 refine Aj <| Ap <| Bh 9 25 B fun B => ?_
 refine Ak (B8 _ _ []) 25 81 B rfl rfl ?_
 refine Aw ?_
 obtain ⟨e, he, G⟩ := Ab G
 refine Aw ?_
 refine Gd (rd := [0]) rfl rfl (eQ hH rfl (Fh Ay.enc_len (Cw he) (o := 0) (m := 1) (by decide) rfl) Jv (cs' := [.int .i64 (W (x114_1 + 1))]) (.cons .int .nil) (Xr Ay.enc_len (Cw he) (o := 0) (x' := (Ay.mk (W (x114_1 + 1)) e.Name e.Exchange e.Sign e.Cipher e.Mac e.Least e.Most)) (Nat.le_of_ble_eq_true rfl) rfl rfl)) rfl rfl ?_
 refine Gk fun B => ?_
 refine Ak (B8 _ _ []) 81 97 B rfl rfl ?_
 refine Bj fun B => ?_
 obtain rfl := oi_ G
 exact ⟨((W (x114_1 + 1), Cs l_1 ((x114_1).toNat) (Ay.mk (W (x114_1 + 1)) e.Name e.Exchange e.Sign e.Cipher e.Mac e.Least e.Most)), m1), Nat.lt_succ_self _, hn1, A1 [(0, 0)]⟩
 refine Jl ?_
 replace G := Cn G hn1
 refine Bh 9 25 B fun B => ?_
 exact La
end Go.Proofs.YtidpkjdkfkkgiaaGreat
