import Derived.Test.YtidpkjdkfkkgiaaGreatT1
import Derived.Test.YtidpkjdkfkkgiaaGreatA6
set_option linter.unusedVariables false
set_option linter.unusedSimpArgs false
set_option maxRecDepth 100000
set_option maxHeartbeats 1600000
namespace Go.Proofs.YtidpkjdkfkkgiaaGreat
open Go.RowKit
theorem Xm (alg : Int) (r : Int) (G : Da alg = some r) : Fn Tryz.prog 124 0 [vk alg] [] (fun d' b' => d' = vk r /\ b' = []) := by
 unfold Da at G
 refine Fn.of Tryz.func124 rfl rfl rfl fun w0 I ρ0 => ?_
 show B2 _ ⟨w0, I, ρ0, 0, 0, 21⟩ _ _ _
 refine Bh 0 8 A5 fun B => ?_
 refine Aj <| Bh 8 16 B fun B => ?_
 refine Ap <| Bh 16 32 B fun B => ?_
 refine C4 rfl G (fun h4 G => ?_) fun h4 G => ?_
 refine B9 32 40 B ?_
 exact De
 refine Bh 32 48 B fun B => ?_
 refine C4 rfl G (fun h7 G => ?_) fun h7 G => ?_
 refine B9 48 56 B ?_
 exact De
 refine Bo (ι := Bool) (fun (x8_1 : Bool) => mk [(3, vk alg), (8, .val (.bool x8_1))] [] 0) (fun (x8_1 : Bool) => Da.j1 alg x8_1 = some r) ?_ ?_
 refine Bh 48 64 B fun B => ?_
 refine C4 rfl G (fun h10 G => ?_) fun h10 G => ?_
 refine Dg ?_
 exact ⟨decide (alg = 3), G, A1 []⟩
 refine Bh 64 80 B fun B => ?_
 refine C4 rfl G (fun h12 G => ?_) fun h12 G => ?_
 refine Dg ?_
 exact ⟨decide (alg = 8), G, A1 []⟩
 refine Ak (B8 _ _ []) 80 96 B rfl rfl ?_
 refine Bj fun B => ?_
 exact ⟨decide (alg = 21), G, A1 []⟩
 rintro x8_1 G
 replace G : Da.j1 alg x8_1 = some r := G
 show B2 _ _ _ _ (mk _ _ _)
 unfold Da.j1 at G
 refine C4 rfl G (fun h14 G => ?_) fun h14 G => ?_
 refine B9 0 8 A5 ?_
 exact De
 refine Bh 0 16 A5 fun B => ?_
 refine C4 rfl G (fun h17 G => ?_) fun h17 G => ?_
 refine B9 16 24 B ?_
 exact De
 refine Bo (ι := Bool) (fun (x14_2 : Bool) => mk [(3, vk alg), (14, .val (.bool x14_2))] [] 0) (fun (x14_2 : Bool) => Da.j2 alg x14_2 = some r) ?_ ?_
 refine Bh 16 32 B fun B => ?_
 refine C4 rfl G (fun h20 G => ?_) fun h20 G => ?_
 refine Dg ?_
 exact ⟨decide (alg = 18), G, A1 []⟩
 refine Ak (B8 _ _ []) 32 48 B rfl rfl ?_
 refine Bj fun B => ?_
 exact ⟨decide (alg = 22), G, A1 []⟩
 rintro x14_2 G
 replace G : Da.j2 alg x14_2 = some r := G
 show B2 _ _ _ _ (mk _ _ _)
 unfold Da.j2 at G
 refine C4 rfl G (fun h22 G => ?_) fun h22 G => ?_
 refine B9 0 8 A5 ?_
 exact De
 refine Bh 0 16 A5 fun B => ?_
 refine C4 rfl G (fun h25 G => ?_) fun h25 G => ?_
 refine B9 16 24 B ?_
 exact De
 refine Bh 16 32 B fun B => ?_
 refine C4 rfl G (fun h28 G => ?_) fun h28 G => ?_
 refine B9 32 40 B ?_
 exact De
 refine Dg ?_
 refine Bh 32 40 B fun B => ?_
 exact La
theorem O3 (u : As) (r : Int) (G : Au u = some r) : Fn Tryz.prog 86 0 [.agg [vk u.Alg, vk u.Bits]] [] (fun d' b' => d' = vk r /\ b' = []) := by
 unfold Au at G
 refine Fn.of Tryz.func86 rfl rfl rfl fun w0 I ρ0 => ?_
 show B2 _ ⟨w0, I, ρ0, 0, 0, 76⟩ _ _ _
 refine Bh 0 16 A5 fun B => ?_
 refine Bh 16 40 B fun B => ?_
 refine Aj <| Bh 40 56 B fun B => ?_
 refine Ap <| Bo (ι := Bool) (fun (x8_1 : Bool) => mk [(1, .ptr 0 0), (3, vk u.Bits), (7, vk u.Alg), (8, .val (.bool x8_1))] [(0, .box [vk u.Alg, vk u.Bits] 28)] 1) (fun (x8_1 : Bool) => Au.j1 u x8_1 = some r) ?_ ?_
 refine Bh 56 72 B fun B => ?_
 refine C4 rfl G (fun h5 G => ?_) fun h5 G => ?_
 refine Dg ?_
 exact ⟨decide (u.Alg = 5), G, A1 [(0, 0)]⟩
 refine Bh 72 88 B fun B => ?_
 refine C4 rfl G (fun h7 G => ?_) fun h7 G => ?_
 refine Dg ?_
 exact ⟨decide (u.Alg = 6), G, A1 [(0, 0)]⟩
 refine Bh 88 104 B fun B => ?_
 refine C4 rfl G (fun h9 G => ?_) fun h9 G => ?_
 refine Dg ?_
 exact ⟨decide (u.Alg = 10), G, A1 [(0, 0)]⟩
 refine Ak (B8 _ _ []) 104 120 B rfl rfl ?_
 refine Bj fun B => ?_
 exact ⟨decide (u.Alg = 11), G, A1 [(0, 0)]⟩
 rintro x8_1 G
 replace G : Au.j1 u x8_1 = some r := G
 show B2 _ _ _ _ (mk _ _ _)
 unfold Au.j1 at G
 refine C4 rfl G (fun h11 G => ?_) fun h11 G => ?_
 refine B9 1 25 A5 ?_
 refine Aw ?_
 obtain ⟨y, hy, G⟩ := Ab G
 refine Do (Wj _ _ hy) ?_
 exact De
 refine Bo (ι := Bool) (fun (x15_2 : Bool) => mk [(1, .ptr 0 0), (3, vk u.Bits), (7, vk u.Alg), (15, .val (.bool x15_2))] [(0, .box [vk u.Alg, vk u.Bits] 28)] 1) (fun (x15_2 : Bool) => Au.j2 u x15_2 = some r) ?_ ?_
 refine Bh 1 17 A5 fun B => ?_
 refine C4 rfl G (fun h14 G => ?_) fun h14 G => ?_
 refine Dg ?_
 exact ⟨decide (u.Alg = 7), G, A1 [(0, 0)]⟩
 refine Ak (B8 _ _ []) 17 33 B rfl rfl ?_
 refine Bj fun B => ?_
 exact ⟨decide (u.Alg = 12), G, A1 [(0, 0)]⟩
 rintro x15_2 G
 replace G : Au.j2 u x15_2 = some r := G
 show B2 _ _ _ _ (mk _ _ _)
 unfold Au.j2 at G
 refine C4 rfl G (fun h16 G => ?_) fun h16 G => ?_
 refine Aj <| Bo (ι := Bool) (fun (x35_3 : Bool) => mk [(3, vk u.Bits), (35, .val (.bool x35_3))] [] 0) (fun (x35_3 : Bool) => Au.j3 u x35_3 = some r) ?_ ?_
 refine Ak (B8 _ _ []) 1 145 A5 rfl rfl ?_
 refine Aw ?_
 rcases D9 G with ⟨h17, G⟩ | ⟨h17, G⟩
 refine Bj fun B => ?_
 exact ⟨true, G, A1 []⟩
 refine Aw ?_
 rcases D9 G with ⟨h19, G⟩ | ⟨h19, G⟩
 refine Bj fun B => ?_
 exact ⟨true, G, A1 []⟩
 refine Aw ?_
 rcases D9 G with ⟨h21, G⟩ | ⟨h21, G⟩
 refine Bj fun B => ?_
 exact ⟨true, G, A1 []⟩
 refine Aw ?_
 rcases D9 G with ⟨h23, G⟩ | ⟨h23, G⟩
 refine Bj fun B => ?_
 exact ⟨true, G, A1 []⟩
 refine Bj fun B => ?_
 exact ⟨decide (u.Bits = 521), G, A1 []⟩
 rintro x35_3 G
 replace G : Au.j3 u x35_3 = some r := G
 show B2 _ _ _ _ (mk _ _ _)
 unfold Au.j3 at G
 refine C4 rfl G (fun h26 G => ?_) fun h26 G => ?_
 refine B9 0 24 A5 ?_
 refine Aw ?_
 obtain ⟨q, hq, G⟩ := Ab G
 refine C0 rfl rfl (Rw hq) rfl rfl ?_
 exact De
 refine Dg ?_
 refine Bh 0 8 A5 fun B => ?_
 exact La
 refine Bh 1 17 A5 fun B => ?_
 refine C4 rfl G (fun h30 G => ?_) fun h30 G => ?_
 refine B9 17 57 B ?_
 refine Aw ?_
 refine Kh Ek z3 Jv ([44, 65, 87] : List Int) eI ?_
 refine Kh Ek z3 Jv ([128, 192, 256] : List Int) eI ?_
 obtain ⟨y_2, hy_2, G⟩ := Ab G
 refine Ig [25, 33] [] [] true (I7 _ _ _ _ hy_2) ?_
 exact De
 refine Bh 17 33 B fun B => ?_
 refine C4 rfl G (fun h33 G => ?_) fun h33 G => ?_
 refine B9 33 73 B ?_
 refine Aw ?_
 refine Kh Ek z3 Jv ([512, 768, 1024] : List Int) eI ?_
 refine Kh Ek z3 Jv ([128, 192, 256] : List Int) eI ?_
 obtain ⟨y_3, hy_3, G⟩ := Ab G
 refine Ig [41, 49] [] [] true (I7 _ _ _ _ hy_3) ?_
 exact De
 refine Bh 33 49 B fun B => ?_
 refine C4 rfl G (fun h36 G => ?_) fun h36 G => ?_
 refine B9 49 89 B ?_
 refine Aw ?_
 refine Kh Ek z3 Jv ([40, 128] : List Int) eI ?_
 refine Kh Ek z3 Jv ([40, 60] : List Int) eI ?_
 obtain ⟨y_4, hy_4, G⟩ := Ab G
 refine Ig [57, 65] [] [] true (I7 _ _ _ _ hy_4) ?_
 exact De
 refine Bh 49 65 B fun B => ?_
 refine C4 rfl G (fun h39 G => ?_) fun h39 G => ?_
 refine B9 65 105 B ?_
 refine Aw ?_
 refine Kh Ek z3 Jv ([112, 168] : List Int) eI ?_
 refine Kh Ek z3 Jv ([80, 112] : List Int) eI ?_
 obtain ⟨y_5, hy_5, G⟩ := Ab G
 refine Ig [73, 81] [] [] true (I7 _ _ _ _ hy_5) ?_
 exact De
 refine Bo (ι := Bool) (fun (x62_4 : Bool) => mk [(1, .ptr 0 0), (3, vk u.Bits), (62, .val (.bool x62_4))] [(0, .box [vk u.Alg, vk u.Bits] 28)] 1) (fun (x62_4 : Bool) => Au.j4 u x62_4 = some r) ?_ ?_
 refine Bh 65 81 B fun B => ?_
 refine C4 rfl G (fun h42 G => ?_) fun h42 G => ?_
 refine Dg ?_
 exact ⟨decide (u.Alg = 16), G, A1 [(0, 0)]⟩
 refine Ak (B8 _ _ []) 81 97 B rfl rfl ?_
 refine Bj fun B => ?_
 exact ⟨decide (u.Alg = 17), G, A1 [(0, 0)]⟩
 rintro x62_4 G
 replace G : Au.j4 u x62_4 = some r := G
 show B2 _ _ _ _ (mk _ _ _)
 unfold Au.j4 at G
 refine C4 rfl G (fun h44 G => ?_) fun h44 G => ?_
 refine B9 1 41 A5 ?_
 refine Aw ?_
 refine Kh Ek z3 Jv ([128, 256] : List Int) eI ?_
 refine Kh Ek z3 Jv ([128, 256] : List Int) eI ?_
 obtain ⟨y_6, hy_6, G⟩ := Ab G
 refine Ig [9, 17] [] [] true (I7 _ _ _ _ hy_6) ?_
 exact De
 refine Dg ?_
 refine B9 1 65 A5 ?_
 refine Aw ?_
 refine Kh Ek z3 Jv ([0] : List Int) eI ?_
 refine Aw ?_
 obtain ⟨y_7, hy_7, G⟩ := Ab G
 refine Do (Xm _ _ hy_7) ?_
 refine Kh Ek z3 Jv ([y_7] : List Int) eI ?_
 obtain ⟨y_8, hy_8, G⟩ := Ab G
 refine Ig [9, 41] [] [] true (I7 _ _ _ _ hy_8) ?_
 exact De
theorem Pt (code : Int) (r : Int) (G : Ho code = some r) : Fn Tryz.prog 78 0 [vk code] [] (fun d' b' => d' = vk r /\ b' = []) := by
 unfold Ho at G
 refine Fn.of Tryz.func78 rfl rfl rfl fun w0 I ρ0 => ?_
 show B2 _ ⟨w0, I, ρ0, 0, 0, 15⟩ _ _ _
 refine Bh 0 8 A5 fun B => ?_
 refine B9 8 72 B ?_
 refine Aw ?_
 obtain ⟨y, hy, G⟩ := Ab G
 refine Do (Zs _ _ hy) ?_
 refine Bj fun B => ?_
 refine Aj <| Bh 72 88 B fun B => ?_
 refine C4 rfl G (fun h4 G => ?_) fun h4 G => ?_
 refine B9 88 96 B ?_
 exact De
 refine Dg ?_
 refine B9 88 120 B ?_
 refine Aw ?_
 obtain ⟨y_2, hy_2, G⟩ := Ab G
 refine Do (O3 _ _ hy_2) ?_
 exact De
theorem bX (l : (List Int)) (r : (List Int)) (G : C2 l = some r) : Fn Tryz.prog 46 0 [.sl 1 (Aq eI l)] [] (fun d' b' => d' = .sl 1 (Aq eI r) /\ b' = []) := by
 unfold C2 at G
 refine Fn.of Tryz.func46 rfl rfl rfl fun w0 I ρ0 => ?_
 show B2 _ ⟨w0, I, ρ0, 0, 0, 48⟩ _ _ _
 refine Bh 0 8 A5 fun B => ?_
 refine Bh 8 16 B fun B => ?_
 refine Aj <| Bh 16 24 B fun B => ?_
 refine Ap <| Jy (fun ((i_1, out_1) : Int × List Int) => mk [(0, .sl 1 (Aq eI l)), (3, .row 0), (4, vk i_1)] [(0, .row 3 1 (Aq eI out_1))] 1) G (A1 []) ?_
 rintro ⟨i_1, out_1⟩ m1 o1 G hn1
 replace G : C2.l1 l i_1 out_1 = some o1 := G
 show B2 _ _ _ _ (mk _ _ _)
 unfold C2.l1 at G
 refine Aj <| Bh 1 33 A5 fun B => ?_
 refine C4 rfl G (fun h5 G => ?_) fun h5 G => ?_
 refine Dg ?_
 refine Aj <| Ap <| Bh 33 57 B fun B => ?_
 refine Aj <| Ap <| Jy (fun (k_2 : Int) => mk [(0, .sl 1 (Aq eI l)), (3, .row 0), (4, vk i_1), (5, vk k_2)] [(0, .row 3 1 (Aq eI out_1))] 1) G (A1 [(0, 0)]) ?_
 rintro k_2 m2 o2 G hn2
 replace G : C2.l2 l i_1 out_1 k_2 = some o2 := G
 show B2 _ _ _ _ (mk _ _ _)
 unfold C2.l2 at G
 refine Aj <| Bo (ι := Bool) (fun (x29_3 : Bool) => mk [(0, .sl 1 (Aq eI l)), (3, .row 0), (4, vk i_1), (5, vk k_2), (29, .val (.bool x29_3))] [(0, .row 3 1 (Aq eI out_1))] 1) (fun (x29_3 : Bool) => C2.j3 l i_1 out_1 k_2 x29_3 = some o2) ?_ ?_
 refine Bq (B8 _ _ []) (by kernel_rfl) [0, 1, 3, 7, 7, 23, 63, 127, 255, 7, 7, 1543, 3591, 8191, 16383, 32767] 1 129 A5 rfl rfl (by kernel_rfl) ?_
 refine Aw ?_
 rcases D9 G with ⟨h7, G⟩ | ⟨h7, G⟩
 refine Aw ?_
 obtain ⟨e, he, G⟩ := Ab G
 refine Aw ?_
 refine Gd (rd := [0]) (E5 rfl rfl h7) rfl (.loadR1 hH (Gt It (Cw he) (o := 0) (c := .int .i64 e) rfl rfl)) rfl rfl ?_
 obtain ⟨y, hy, G⟩ := Ab G
 refine Do (Pt _ _ hy) ?_
 refine Aw ?_
 obtain ⟨e_2, he_2, G⟩ := Ab G
 refine Aw ?_
 refine Ra he_2 ?_
 obtain ⟨y_2, hy_2, G⟩ := Ab G
 refine Do (Pt _ _ hy_2) ?_
 refine Bj fun B => ?_
 exact ⟨decide (y < y_2), G, A1 [(0, 0)]⟩
 refine Bj fun B => ?_
 exact ⟨false, G, A1 [(0, 0)]⟩
 rintro x29_3 G
 replace G : C2.j3 l i_1 out_1 k_2 x29_3 = some o2 := G
 show B2 _ _ _ _ (mk _ _ _)
 unfold C2.j3 at G
 refine C4 rfl G (fun h10 G => ?_) fun h10 G => ?_
 refine Dg ?_
 refine Ap <| Ak (B8 _ _ []) 1 25 A5 rfl rfl ?_
 refine Bj fun B => ?_
 obtain rfl := oi_ G
 exact ⟨(W (k_2 - 1), m2), Nat.lt_succ_self _, hn2, A1 [(0, 0)]⟩
 refine Jl ?_
 replace G := Cn G hn2
 refine Bq (B8 _ _ []) (by kernel_rfl) [0, 0, 0, 6, 15, 0, 0, 96, 224, 480, 1023, 0, 0, 6144, 16383, 32767] 1 129 A5 rfl rfl (by kernel_rfl) ?_
 refine C0 rfl rfl (Em Ek z3 (by decide) rfl rfl rfl rfl Jv (cs := []) .nil rfl (l := ([] : List Int)) (f := eI) rfl) rfl rfl ?_
 refine Aw ?_
 obtain ⟨l_2, hl_2, G⟩ := Ab G
 refine Gd (rd := [0]) rfl rfl (aR Ek It hl_2) rfl rfl ?_
 obtain ⟨l_3, hl_3, G⟩ := Ab G
 refine Gd (rd := [1, 0]) rfl rfl (D5 Ek It .row rfl (.part (jW It (Zb hl_2))) (eW It _ _ _ (Zb hl_2)) hl_3 rfl) rfl rfl ?_
 refine Aw ?_
 obtain ⟨e_3, he_3, G⟩ := Ab G
 refine Aw ?_
 refine Ra he_3 ?_
 refine Kh Ek z3 Jv ([e_3] : List Int) eI ?_
 obtain ⟨l_4, hl_4, G⟩ := Ab G
 refine Gd (rd := [33, 73]) rfl rfl (D5 Ek It .row rfl .row rfl hl_4 rfl) rfl rfl ?_
 refine Aw ?_
 obtain ⟨l_5, hl_5, G⟩ := Ab G
 refine Gd (rd := [0]) rfl rfl (V1 Ek It hl_5) rfl rfl ?_
 obtain ⟨l_6, hl_6, G⟩ := Ab G
 refine Gd (rd := [81, 0]) rfl rfl (D5 Ek It .row rfl (.part (jW It (Zb hl_5))) (eW It _ _ _ (Zb hl_5)) hl_6 rfl) rfl rfl ?_
 refine Bj fun B => ?_
 refine Ak (B8 _ _ []) 129 153 B rfl rfl ?_
 refine Bj fun B => ?_
 obtain rfl := oi_ G
 exact ⟨((W (i_1 + 1), l_6), m1), Nat.lt_succ_self _, hn1, A1 [(0, 113)]⟩
 refine Jl ?_
 replace G := Cn G hn1
 refine Bh 33 49 B fun B => ?_
 exact La
theorem Zl (d : Ad) (r : (List Int) × Ad) (G : Dn d = some r) : Fn Tryz.prog 19 1 [.ptr 0 0] [.box [.sl 1 (Aq eI d.L), vk d.At] 66] (fun d' b' => d' = .sl 1 (Aq eI r.1) /\ b' = [.box [.sl 1 (Aq eI r.2.L), vk r.2.At] 66]) := by
 unfold Dn at G
 refine Fn.of Tryz.func19 rfl rfl rfl fun w0 I ρ0 => ?_
 show B2 _ ⟨w0, I, ρ0, 1, 1, 29⟩ _ _ _
 refine Bh 1 9 A5 fun B => ?_
 refine Bh 9 17 B fun B => ?_
 refine Aj <| B9 17 49 B ?_
 refine Aw ?_
 obtain ⟨y, hy, G⟩ := Ab G
 refine Ig [0] [0] [] false (Cg _ _ _ hy) ?_
 refine Bj fun B => ?_
 refine Ap <| Jy (fun ((i_1, d_1, l_1) : Int × Ad × List Int) => mk [(0, .ptr 0 0), (3, .row 1), (4, vk i_1)] [(0, .box [.sl 1 (Aq eI d_1.L), vk d_1.At] 66), (1, .row 3 1 (Aq eI l_1))] 2) G (A1 [(0, 0)]) ?_
 rintro ⟨i_1, d_1, l_1⟩ m1 o1 G hn1
 replace G : Dn.l1 i_1 d_1 l_1 = some o1 := G
 show B2 _ _ _ _ (mk _ _ _)
 unfold Dn.l1 at G
 refine Aj <| Bh 2 18 A5 fun B => ?_
 refine C4 rfl G (fun h5 G => ?_) fun h5 G => ?_
 refine Dg ?_
 refine Bo (ι := Ad × List Int) (fun ((d_2, l_2) : Ad × List Int) => mk [(0, .ptr 0 0), (3, .row 1), (4, vk i_1)] [(0, .box [.sl 1 (Aq eI d_2.L), vk d_2.At] 66), (1, .row 3 1 (Aq eI l_2))] 2) (fun ((d_2, l_2) : Ad × List Int) => Dn.j2 i_1 d_2 l_2 = some o1) ?_ ?_
 refine Ap <| B9 18 50 B ?_
 refine Aw ?_
 obtain ⟨y_2, hy_2, G⟩ := Ab G
 refine Ig [0] [0] [] false (Cg _ _ _ hy_2) ?_
 refine Bj fun B => ?_
 refine B9 50 82 B ?_
 refine Aw ?_
 obtain ⟨y_3, hy_3, G⟩ := Ab G
 refine Ig [1] [] [] true (V8 _ _ _ hy_3) ?_
 refine Bj fun B => ?_
 refine C4 rfl G (fun h8 G => ?_) fun h8 G => ?_
 refine Ak (B8 _ _ []) 82 122 B rfl rfl ?_
 refine Aw ?_
 refine Kh Ek z3 Jv ([W (1 + y_2.1)] : List Int) eI ?_
 obtain ⟨l, hl, G⟩ := Ab G
 refine Gd (rd := [1, 98]) rfl rfl (D5 Ek It .row rfl .row rfl hl rfl) rfl rfl ?_
 refine Bj fun B => ?_
 exact ⟨(y_2.2, l), G, A1 [(0, 0), (1, 106)]⟩
 refine Dg ?_
 exact ⟨(y_2.2, l_1), G, A1 [(0, 0), (1, 1)]⟩
 rintro ⟨d_2, l_2⟩ G
 replace G : Dn.j2 i_1 d_2 l_2 = some o1 := G
 show B2 _ _ _ _ (mk _ _ _)
 unfold Dn.j2 at G
 refine Ak (B8 _ _ []) 2 26 A5 rfl rfl ?_
 refine Bj fun B => ?_
 obtain rfl := oi_ G
 exact ⟨((W (i_1 - 1), d_2, l_2), m1), Nat.lt_succ_self _, hn1, A1 [(0, 0), (1, 1)]⟩
 refine Jl ?_
 replace G := Cn G hn1
 refine Aj <| B9 18 34 B ?_
 refine Aw ?_
 obtain ⟨y_4, hy_4, G⟩ := Ab G
 refine Ig [0] [0] [] false (I4 _ _ _ hy_4) ?_
 refine Gk fun B => ?_
 refine C4 rfl G (fun h12 G => ?_) fun h12 G => ?_
 refine E3 (σ' := mk [(3, .sl 1 (Aq eI l_1))] [(0, .box [.sl 1 (Aq eI y_4.2.L), vk y_4.2.At] 66)] 1) (A1 [(0, 0)]) ?_
 refine Ak (B8 _ _ []) 1 25 A5 rfl rfl ?_
 refine Aw ?_
 obtain ⟨y_5, hy_5, G⟩ := Ab G
 refine Do (bX _ _ hy_5) ?_
 refine Bj fun B => ?_
 refine Bh 25 41 B fun B => ?_
 refine Fg ?_
 obtain rfl := oi_ G
 exact Gr [(0, 0)] ⟨rfl, rfl⟩
 refine Dg ?_
 refine Bh 34 50 B fun B => ?_
 refine Fg ?_
 obtain rfl := oi_ G
 exact Gr [(0, 0)] ⟨rfl, rfl⟩
theorem Wf (d : Ad) (a : Int) (r : Int × Ad) (G : B7 d a = some r) : Fn Tryz.prog 32 1 [.ptr 0 0, vk a] [.box [.sl 1 (Aq eI d.L), vk d.At] 66] (fun d' b' => d' = vk r.1 /\ b' = [.box [.sl 1 (Aq eI r.2.L), vk r.2.At] 66]) := by
 unfold B7 at G
 refine Fn.of Tryz.func32 rfl rfl rfl fun w0 I ρ0 => ?_
 show B2 _ ⟨w0, I, ρ0, 1, 1, 46⟩ _ _ _
 refine Bh 1 9 A5 fun B => ?_
 refine Aj <| Bh 9 17 B fun B => ?_
 refine Ap <| Bo (ι := Bool) (fun (x6_1 : Bool) => mk [(0, .ptr 0 0), (5, vk a), (6, .val (.bool x6_1))] [(0, .box [.sl 1 (Aq eI d.L), vk d.At] 66)] 1) (fun (x6_1 : Bool) => B7.j1 d a x6_1 = some r) ?_ ?_
 refine Bh 17 33 B fun B => ?_
 refine C4 rfl G (fun h4 G => ?_) fun h4 G => ?_
 refine Dg ?_
 exact ⟨decide (a = 5), G, A1 [(0, 0)]⟩
 refine Bh 33 49 B fun B => ?_
 refine C4 rfl G (fun h6 G => ?_) fun h6 G => ?_
 refine Dg ?_
 exact ⟨decide (a = 6), G, A1 [(0, 0)]⟩
 refine Bh 49 65 B fun B => ?_
 refine C4 rfl G (fun h8 G => ?_) fun h8 G => ?_
 refine Dg ?_
 exact ⟨decide (a = 10), G, A1 [(0, 0)]⟩
 refine Ak (B8 _ _ []) 65 81 B rfl rfl ?_
 refine Bj fun B => ?_
 exact ⟨decide (a = 11), G, A1 [(0, 0)]⟩
 rintro x6_1 G
 replace G : B7.j1 d a x6_1 = some r := G
 show B2 _ _ _ _ (mk _ _ _)
 unfold B7.j1 at G
 refine C4 rfl G (fun h10 G => ?_) fun h10 G => ?_
 refine Aj <| Ak (B8 _ _ [9]) 1 33 A5 rfl rfl ?_
 refine Aw ?_
 refine Tt Ek z3 Jv ([2048, 1024, 512, 3072, 1023, 4096, 16384] : List Int) eI ?_
 obtain ⟨y, hy, G⟩ := Ab G
 refine Ig [0] [0] [] false (C8 _ _ _ hy) ?_
 refine Bj fun B => ?_
 refine Fg ?_
 obtain rfl := oi_ G
 exact Gr [(0, 0)] ⟨rfl, rfl⟩
 refine Bo (ι := Bool) (fun (x14_2 : Bool) => mk [(0, .ptr 0 0), (5, vk a), (14, .val (.bool x14_2))] [(0, .box [.sl 1 (Aq eI d.L), vk d.At] 66)] 1) (fun (x14_2 : Bool) => B7.j2 d a x14_2 = some r) ?_ ?_
 refine Bh 1 17 A5 fun B => ?_
 refine C4 rfl G (fun h13 G => ?_) fun h13 G => ?_
 refine Dg ?_
 exact ⟨decide (a = 7), G, A1 [(0, 0)]⟩
 refine Ak (B8 _ _ []) 17 33 B rfl rfl ?_
 refine Bj fun B => ?_
 exact ⟨decide (a = 12), G, A1 [(0, 0)]⟩
 rintro x14_2 G
 replace G : B7.j2 d a x14_2 = some r := G
 show B2 _ _ _ _ (mk _ _ _)
 unfold B7.j2 at G
 refine C4 rfl G (fun h15 G => ?_) fun h15 G => ?_
 refine Aj <| Ak (B8 _ _ [9]) 1 33 A5 rfl rfl ?_
 refine Aw ?_
 refine Tt Ek z3 Jv ([256, 160, 224, 384, 521] : List Int) eI ?_
 obtain ⟨y_2, hy_2, G⟩ := Ab G
 refine Ig [0] [0] [] false (C8 _ _ _ hy_2) ?_
 refine Bj fun B => ?_
 refine Fg ?_
 obtain rfl := oi_ G
 exact Gr [(0, 0)] ⟨rfl, rfl⟩
 refine Bh 1 17 A5 fun B => ?_
 refine C4 rfl G (fun h18 G => ?_) fun h18 G => ?_
 refine Aj <| Ak (B8 _ _ [25]) 17 49 B rfl rfl ?_
 refine Aw ?_
 refine Tt Ek z3 Jv ([65, 44, 87] : List Int) eI ?_
 obtain ⟨y_3, hy_3, G⟩ := Ab G
 refine Ig [0] [0] [] false (C8 _ _ _ hy_3) ?_
 refine Bj fun B => ?_
 refine Fg ?_
 obtain rfl := oi_ G
 exact Gr [(0, 0)] ⟨rfl, rfl⟩
 refine Bh 17 33 B fun B => ?_
 refine C4 rfl G (fun h21 G => ?_) fun h21 G => ?_
 refine Aj <| Ak (B8 _ _ [41]) 33 65 B rfl rfl ?_
 refine Aw ?_
 refine Tt Ek z3 Jv ([768, 512, 1024] : List Int) eI ?_
 obtain ⟨y_4, hy_4, G⟩ := Ab G
 refine Ig [0] [0] [] false (C8 _ _ _ hy_4) ?_
 refine Bj fun B => ?_
 refine Fg ?_
 obtain rfl := oi_ G
 exact Gr [(0, 0)] ⟨rfl, rfl⟩
 refine Bh 33 49 B fun B => ?_
 refine C4 rfl G (fun h24 G => ?_) fun h24 G => ?_
 refine Aj <| Ak (B8 _ _ [57]) 49 81 B rfl rfl ?_
 refine Aw ?_
 refine Tt Ek z3 Jv ([128, 40] : List Int) eI ?_
 obtain ⟨y_5, hy_5, G⟩ := Ab G
 refine Ig [0] [0] [] false (C8 _ _ _ hy_5) ?_
 refine Bj fun B => ?_
 refine Fg ?_
 obtain rfl := oi_ G
 exact Gr [(0, 0)] ⟨rfl, rfl⟩
 refine Bh 49 65 B fun B => ?_
 refine C4 rfl G (fun h27 G => ?_) fun h27 G => ?_
 refine Aj <| Ak (B8 _ _ [73]) 65 97 B rfl rfl ?_
 refine Aw ?_
 refine Tt Ek z3 Jv ([168, 112] : List Int) eI ?_
 obtain ⟨y_6, hy_6, G⟩ := Ab G
 refine Ig [0] [0] [] false (C8 _ _ _ hy_6) ?_
 refine Bj fun B => ?_
 refine Fg ?_
 obtain rfl := oi_ G
 exact Gr [(0, 0)] ⟨rfl, rfl⟩
 refine Bo (ι := Bool) (fun (x40_3 : Bool) => mk [(0, .ptr 0 0), (40, .val (.bool x40_3))] [(0, .box [.sl 1 (Aq eI d.L), vk d.At] 66)] 1) (fun (x40_3 : Bool) => B7.j3 d x40_3 = some r) ?_ ?_
 refine Bh 65 81 B fun B => ?_
 refine C4 rfl G (fun h30 G => ?_) fun h30 G => ?_
 refine Dg ?_
 exact ⟨decide (a = 16), G, A1 [(0, 0)]⟩
 refine Ak (B8 _ _ []) 81 97 B rfl rfl ?_
 refine Bj fun B => ?_
 exact ⟨decide (a = 17), G, A1 [(0, 0)]⟩
 rintro x40_3 G
 replace G : B7.j3 d x40_3 = some r := G
 show B2 _ _ _ _ (mk _ _ _)
 unfold B7.j3 at G
 refine C4 rfl G (fun h32 G => ?_) fun h32 G => ?_
 refine Aj <| Ak (B8 _ _ [9]) 1 33 A5 rfl rfl ?_
 refine Aw ?_
 refine Tt Ek z3 Jv ([128, 256] : List Int) eI ?_
 obtain ⟨y_7, hy_7, G⟩ := Ab G
 refine Ig [0] [0] [] false (C8 _ _ _ hy_7) ?_
 refine Bj fun B => ?_
 refine Fg ?_
 obtain rfl := oi_ G
 exact Gr [(0, 0)] ⟨rfl, rfl⟩
 refine Dg ?_
 refine Bh 1 9 A5 fun B => ?_
 refine Fg ?_
 obtain rfl := oi_ G
 exact Gr [(0, 0)] ⟨rfl, rfl⟩
theorem iC (d : Ad) (r : As × Ad) (G : No d = some r) : Fn Tryz.prog 31 1 [.ptr 0 0] [.box [.sl 1 (Aq eI d.L), vk d.At] 66] (fun d' b' => d' = .agg [vk r.1.Alg, vk r.1.Bits] /\ b' = [.box [.sl 1 (Aq eI r.2.L), vk r.2.At] 66]) := by
 unfold No at G
 refine Fn.of Tryz.func31 rfl rfl rfl fun w0 I ρ0 => ?_
 show B2 _ ⟨w0, I, ρ0, 1, 1, 12⟩ _ _ _
 refine Bh 1 9 A5 fun B => ?_
 refine Aj <| Ak (B8 _ _ [17]) 9 41 B rfl rfl ?_
 refine Aw ?_
 refine Tt Ek z3 Jv ([5, 7, 5, 6, 8, 9] : List Int) eI ?_
 obtain ⟨y, hy, G⟩ := Ab G
 refine Ig [0] [0] [] false (C8 _ _ _ hy) ?_
 refine Bj fun B => ?_
 refine B9 41 89 B ?_
 refine Aw ?_
 obtain ⟨y_2, hy_2, G⟩ := Ab G
 refine Ig [0] [0] [] false (Wf _ _ _ hy_2) ?_
 refine Qz Iu Mm Vf ?_
 refine Bj fun B => ?_
 refine Fg ?_
 obtain rfl := oi_ G
 exact Gr [(0, 0)] ⟨rfl, rfl⟩
theorem T6 (c : Af) (r : Af) (G : Jx c = some r) : Fn Tryz.prog 61 0 [.agg (Af.dv c)] [] (fun d' b' => d' = .agg (Af.dv r) /\ b' = []) := by
 unfold Jx at G
 refine Fn.of Tryz.func61 rfl rfl rfl fun w0 I ρ0 => ?_
 show B2 _ ⟨w0, I, ρ0, 0, 0, 9⟩ _ _ _
 refine Bh 0 16 A5 fun B => ?_
 refine B9 16 64 B ?_
 refine C0 rfl rfl (Em Zr z9 (by decide) rfl rfl rfl rfl wU (cs := []) .nil rfl (l := ([] : List ByteArray)) (f := eS) rfl) rfl rfl ?_
 refine Aw ?_
 obtain ⟨l, hl, G⟩ := Ab G
 refine Gd (rd := [16]) rfl rfl (D5 Zr cW .row rfl .sl rfl hl rfl) rfl rfl ?_
 refine Bj fun B => ?_
 refine Bh 64 80 B fun B => ?_
 exact La
theorem Qe (s : ByteArray) (r : Bool) (G : Cd s = some r) : Fn Tryz.prog 84 0 [ws s] [] (fun d' b' => d' = .val (.bool r) /\ b' = []) := by
 unfold Cd at G
 refine Fn.of Tryz.func84 rfl rfl rfl fun w0 I ρ0 => ?_
 show B2 _ ⟨w0, I, ρ0, 0, 0, 28⟩ _ _ _
 refine Bh 0 8 A5 fun B => ?_
 refine Aj <| Bo (ι := Bool) (fun (x11_1 : Bool) => mk [(0, ws s), (11, .val (.bool x11_1))] [] 0) (fun (x11_1 : Bool) => Cd.j1 s x11_1 = some r) ?_ ?_
 refine Ak (B8 _ _ []) 8 72 B rfl rfl ?_
 refine Aw ?_
 refine C0 rfl rfl (Tn Vc) rfl rfl ?_
 refine Aw ?_
 rcases D9 G with ⟨h2, G⟩ | ⟨h2, G⟩
 refine Bj fun B => ?_
 exact ⟨true, G, A1 []⟩
 refine Aw ?_
 refine C0 (E5 rfl rfl h2) rfl (Tn Vc) rfl rfl ?_
 refine Bj fun B => ?_
 exact ⟨decide (32 < (s.size : Int)), G, A1 []⟩
 rintro x11_1 G
 replace G : Cd.j1 s x11_1 = some r := G
 show B2 _ _ _ _ (mk _ _ _)
 unfold Cd.j1 at G
 refine C4 rfl G (fun h5 G => ?_) fun h5 G => ?_
 refine B9 0 8 A5 ?_
 exact De
 refine Dg ?_
 refine Aj <| Bh 0 8 A5 fun B => ?_
 refine Ap <| Jy (fun (i_2 : Int) => mk [(0, ws s), (3, vk i_2)] [] 0) G (A1 []) ?_
 rintro i_2 m2 o2 G hn2
 replace G : Cd.l2 s i_2 = some o2 := G
 show B2 _ _ _ _ (mk _ _ _)
 unfold Cd.l2 at G
 refine Aj <| B9 0 32 A5 ?_
 refine Aw ?_
 refine C0 rfl rfl (Tn Vc) rfl rfl ?_
 refine Bj fun B => ?_
 refine C4 rfl G (fun h9 G => ?_) fun h9 G => ?_
 refine Dg ?_
 refine Aj <| Ap <| Bo (ι := Bool) (fun (x27_3 : Bool) => mk [(0, ws s), (3, vk i_2), (27, .val (.bool x27_3))] [] 0) (fun (x27_3 : Bool) => Cd.j3 i_2 x27_3 = some o2) ?_ ?_
 refine Ak (B8 _ _ []) 32 112 B rfl rfl ?_
 refine Aw ?_
 obtain ⟨c, hc, G⟩ := Ab G
 refine C0 rfl rfl (gS Vc hc) rfl rfl ?_
 refine Aw ?_
 rcases D9 G with ⟨h10, G⟩ | ⟨h10, G⟩
 refine Bj fun B => ?_
 exact ⟨true, G, A1 []⟩
 refine Aw ?_
 obtain ⟨c_2, hc_2, G⟩ := Ab G
 refine C0 (E5 rfl rfl h10) rfl (gS Vc hc_2) rfl rfl ?_
 refine Bj fun B => ?_
 exact ⟨decide (126 < (c_2.toNat : Int)), G, A1 []⟩
 rintro x27_3 G
 replace G : Cd.j3 i_2 x27_3 = some o2 := G
 show B2 _ _ _ _ (mk _ _ _)
 unfold Cd.j3 at G
 refine C4 rfl G (fun h13 G => ?_) fun h13 G => ?_
 refine Bh 0 8 A5 fun B => ?_
 refine Fg ?_
 replace G := Cn G hn2
 exact Zh
 refine Dg ?_
 refine Ak (B8 _ _ []) 0 24 A5 rfl rfl ?_
 refine Bj fun B => ?_
 obtain rfl := oi_ G
 exact ⟨(W (i_2 + 1), m2), Nat.lt_succ_self _, hn2, A1 []⟩
 refine Jl ?_
 replace G := Cn G hn2
 refine Bh 32 40 B fun B => ?_
 exact La
theorem Tf (u : As) (r : Bool) (G : I6 u = some r) : Fn Tryz.prog 55 0 [.agg [vk u.Alg, vk u.Bits]] [] (fun d' b' => d' = .val (.bool r) /\ b' = []) := by
 unfold I6 at G
 refine Fn.of Tryz.func55 rfl rfl rfl fun w0 I ρ0 => ?_
 show B2 _ ⟨w0, I, ρ0, 0, 0, 6⟩ _ _ _
 refine Bh 0 16 A5 fun B => ?_
 refine B9 16 48 B ?_
 refine Aw ?_
 obtain ⟨y, hy, G⟩ := Ab G
 refine Do (O3 _ _ hy) ?_
 exact De
theorem bI  (r : (List Ar)) (G : Qn = some r) : Fn Tryz.prog 117 0 [] [] (fun d' b' => d' = .sl 2 (Aq Ar.enc r) /\ b' = []) := by
 unfold Qn at G
 refine Fn.of Tryz.func117 rfl rfl rfl fun w0 I ρ0 => ?_
 show B2 _ ⟨w0, I, ρ0, 0, 0, 25⟩ _ _ _
 refine Bh 0 8 A5 fun B => ?_
 refine B9 8 208 B ?_
 refine C0 rfl rfl (.build (r := [.val (.string (⟨#[]⟩ : ByteArray)), .val (.int .i64 0)]) Hk Jm Ma (by kernel_rfl) rfl) rfl rfl ?_
 refine C0 rfl rfl (.build (r := [.val (.string (⟨#[109, 100, 53]⟩ : ByteArray)), .val (.int .i64 1)]) Hk Jm Ma (by kernel_rfl) rfl) rfl rfl ?_
 refine C0 rfl rfl (.build (r := [.val (.string (⟨#[115, 104, 97, 49]⟩ : ByteArray)), .val (.int .i64 1)]) Hk Jm Ma (by kernel_rfl) rfl) rfl rfl ?_
 refine C0 rfl rfl (.build (r := [.val (.string (⟨#[115, 104, 97, 50, 53, 54]⟩ : ByteArray)), .val (.int .i64 1)]) Hk Jm Ma (by kernel_rfl) rfl) rfl rfl ?_
 refine C0 rfl rfl (.build (r := [.val (.string (⟨#[115, 104, 97, 51, 56, 52]⟩ : ByteArray)), .val (.int .i64 1)]) Hk Jm Ma (by kernel_rfl) rfl) rfl rfl ?_
 refine C0 rfl rfl (.build (r := [.val (.string (⟨#[114, 115, 97]⟩ : ByteArray)), .val (.int .i64 2)]) Hk Jm Ma (by kernel_rfl) rfl) rfl rfl ?_
 refine C0 rfl rfl (.build (r := [.val (.string (⟨#[100, 115, 97]⟩ : ByteArray)), .val (.int .i64 2)]) Hk Jm Ma (by kernel_rfl) rfl) rfl rfl ?_
 refine C0 rfl rfl (.build (r := [.val (.string (⟨#[101, 99, 100, 115, 97]⟩ : ByteArray)), .val (.int .i64 2)]) Hk Jm Ma (by kernel_rfl) rfl) rfl rfl ?_
 refine C0 rfl rfl (.build (r := [.val (.string (⟨#[101, 100, 50, 53, 53, 49, 57]⟩ : ByteArray)), .val (.int .i64 2)]) Hk Jm Ma (by kernel_rfl) rfl) rfl rfl ?_
 refine C0 rfl rfl (.build (r := [.val (.string (⟨#[109, 108, 100, 115, 97]⟩ : ByteArray)), .val (.int .i64 2)]) Hk Jm Ma (by kernel_rfl) rfl) rfl rfl ?_
 refine C0 rfl rfl (.build (r := [.val (.string (⟨#[114, 115, 97, 107, 120]⟩ : ByteArray)), .val (.int .i64 3)]) Hk Jm Ma (by kernel_rfl) rfl) rfl rfl ?_
 refine C0 rfl rfl (.build (r := [.val (.string (⟨#[100, 104, 101]⟩ : ByteArray)), .val (.int .i64 3)]) Hk Jm Ma (by kernel_rfl) rfl) rfl rfl ?_
 refine C0 rfl rfl (.build (r := [.val (.string (⟨#[101, 99, 100, 104, 101]⟩ : ByteArray)), .val (.int .i64 3)]) Hk Jm Ma (by kernel_rfl) rfl) rfl rfl ?_
 refine C0 rfl rfl (.build (r := [.val (.string (⟨#[109, 108, 107, 101, 109]⟩ : ByteArray)), .val (.int .i64 3)]) Hk Jm Ma (by kernel_rfl) rfl) rfl rfl ?_
 refine C0 rfl rfl (.build (r := [.val (.string (⟨#[114, 99, 52]⟩ : ByteArray)), .val (.int .i64 4)]) Hk Jm Ma (by kernel_rfl) rfl) rfl rfl ?_
 refine C0 rfl rfl (.build (r := [.val (.string (⟨#[100, 101, 115, 51]⟩ : ByteArray)), .val (.int .i64 4)]) Hk Jm Ma (by kernel_rfl) rfl) rfl rfl ?_
 refine C0 rfl rfl (.build (r := [.val (.string (⟨#[97, 101, 115, 99, 98, 99]⟩ : ByteArray)), .val (.int .i64 4)]) Hk Jm Ma (by kernel_rfl) rfl) rfl rfl ?_
 refine C0 rfl rfl (.build (r := [.val (.string (⟨#[97, 101, 115, 103, 99, 109]⟩ : ByteArray)), .val (.int .i64 4)]) Hk Jm Ma (by kernel_rfl) rfl) rfl rfl ?_
 refine C0 rfl rfl (.build (r := [.val (.string (⟨#[99, 104, 97, 99, 104, 97]⟩ : ByteArray)), .val (.int .i64 4)]) Hk Jm Ma (by kernel_rfl) rfl) rfl rfl ?_
 refine C0 rfl rfl (.build (r := [.val (.string (⟨#[104, 109, 97, 99, 109, 100, 53]⟩ : ByteArray)), .val (.int .i64 5)]) Hk Jm Ma (by kernel_rfl) rfl) rfl rfl ?_
 refine C0 rfl rfl (.build (r := [.val (.string (⟨#[104, 109, 97, 99, 115, 104, 97, 49]⟩ : ByteArray)), .val (.int .i64 5)]) Hk Jm Ma (by kernel_rfl) rfl) rfl rfl ?_
 refine C0 rfl rfl (.build (r := [.val (.string (⟨#[104, 109, 97, 99, 115, 104, 97, 50, 53, 54]⟩ : ByteArray)), .val (.int .i64 5)]) Hk Jm Ma (by kernel_rfl) rfl) rfl rfl ?_
 refine C0 rfl rfl (.build (r := [.val (.string (⟨#[97, 101, 97, 100]⟩ : ByteArray)), .val (.int .i64 5)]) Hk Jm Ma (by kernel_rfl) rfl) rfl rfl ?_
 refine C0 rfl rfl (Em vZ Ma (by decide) rfl rfl rfl rfl aCu (cs := [.str (⟨#[]⟩ : ByteArray), .int .i64 0, .str (⟨#[109, 100, 53]⟩ : ByteArray), .int .i64 1, .str (⟨#[115, 104, 97, 49]⟩ : ByteArray), .int .i64 1, .str (⟨#[115, 104, 97, 50, 53, 54]⟩ : ByteArray), .int .i64 1, .str (⟨#[115, 104, 97, 51, 56, 52]⟩ : ByteArray), .int .i64 1, .str (⟨#[114, 115, 97]⟩ : ByteArray), .int .i64 2, .str (⟨#[100, 115, 97]⟩ : ByteArray), .int .i64 2, .str (⟨#[101, 99, 100, 115, 97]⟩ : ByteArray), .int .i64 2, .str (⟨#[101, 100, 50, 53, 53, 49, 57]⟩ : ByteArray), .int .i64 2, .str (⟨#[109, 108, 100, 115, 97]⟩ : ByteArray), .int .i64 2, .str (⟨#[114, 115, 97, 107, 120]⟩ : ByteArray), .int .i64 3, .str (⟨#[100, 104, 101]⟩ : ByteArray), .int .i64 3, .str (⟨#[101, 99, 100, 104, 101]⟩ : ByteArray), .int .i64 3, .str (⟨#[109, 108, 107, 101, 109]⟩ : ByteArray), .int .i64 3, .str (⟨#[114, 99, 52]⟩ : ByteArray), .int .i64 4, .str (⟨#[100, 101, 115, 51]⟩ : ByteArray), .int .i64 4, .str (⟨#[97, 101, 115, 99, 98, 99]⟩ : ByteArray), .int .i64 4, .str (⟨#[97, 101, 115, 103, 99, 109]⟩ : ByteArray), .int .i64 4, .str (⟨#[99, 104, 97, 99, 104, 97]⟩ : ByteArray), .int .i64 4, .str (⟨#[104, 109, 97, 99, 109, 100, 53]⟩ : ByteArray), .int .i64 5, .str (⟨#[104, 109, 97, 99, 115, 104, 97, 49]⟩ : ByteArray), .int .i64 5, .str (⟨#[104, 109, 97, 99, 115, 104, 97, 50, 53, 54]⟩ : ByteArray), .int .i64 5, .str (⟨#[97, 101, 97, 100]⟩ : ByteArray), .int .i64 5]) (.cons .str (.cons .int (.cons .str (.cons .int (.cons .str (.cons .int (.cons .str (.cons .int (.cons .str (.cons .int (.cons .str (.cons .int (.cons .str (.cons .int (.cons .str (.cons .int (.cons .str (.cons .int (.cons .str (.cons .int (.cons .str (.cons .int (.cons .str (.cons .int (.cons .str (.cons .int (.cons .str (.cons .int (.cons .str (.cons .int (.cons .str (.cons .int (.cons .str (.cons .int (.cons .str (.cons .int (.cons .str (.cons .int (.cons .str (.cons .int (.cons .str (.cons .int (.cons .str (.cons .int (.cons .str (.cons .int .nil)))))))))))))))))))))))))))))))))))))))))))))) rfl (l := ([(Ar.mk (⟨#[]⟩ : ByteArray) 0), (Ar.mk (⟨#[109, 100, 53]⟩ : ByteArray) 1), (Ar.mk (⟨#[115, 104, 97, 49]⟩ : ByteArray) 1), (Ar.mk (⟨#[115, 104, 97, 50, 53, 54]⟩ : ByteArray) 1), (Ar.mk (⟨#[115, 104, 97, 51, 56, 52]⟩ : ByteArray) 1), (Ar.mk (⟨#[114, 115, 97]⟩ : ByteArray) 2), (Ar.mk (⟨#[100, 115, 97]⟩ : ByteArray) 2), (Ar.mk (⟨#[101, 99, 100, 115, 97]⟩ : ByteArray) 2), (Ar.mk (⟨#[101, 100, 50, 53, 53, 49, 57]⟩ : ByteArray) 2), (Ar.mk (⟨#[109, 108, 100, 115, 97]⟩ : ByteArray) 2), (Ar.mk (⟨#[114, 115, 97, 107, 120]⟩ : ByteArray) 3), (Ar.mk (⟨#[100, 104, 101]⟩ : ByteArray) 3), (Ar.mk (⟨#[101, 99, 100, 104, 101]⟩ : ByteArray) 3), (Ar.mk (⟨#[109, 108, 107, 101, 109]⟩ : ByteArray) 3), (Ar.mk (⟨#[114, 99, 52]⟩ : ByteArray) 4), (Ar.mk (⟨#[100, 101, 115, 51]⟩ : ByteArray) 4), (Ar.mk (⟨#[97, 101, 115, 99, 98, 99]⟩ : ByteArray) 4), (Ar.mk (⟨#[97, 101, 115, 103, 99, 109]⟩ : ByteArray) 4), (Ar.mk (⟨#[99, 104, 97, 99, 104, 97]⟩ : ByteArray) 4), (Ar.mk (⟨#[104, 109, 97, 99, 109, 100, 53]⟩ : ByteArray) 5), (Ar.mk (⟨#[104, 109, 97, 99, 115, 104, 97, 49]⟩ : ByteArray) 5), (Ar.mk (⟨#[104, 109, 97, 99, 115, 104, 97, 50, 53, 54]⟩ : ByteArray) 5), (Ar.mk (⟨#[97, 101, 97, 100]⟩ : ByteArray) 5)] : List Ar)) (f := Ar.enc) rfl) rfl rfl ?_
 exact De
theorem T4 (alg : Int) (r : Int) (G : Ez alg = some r) : Fn Tryz.prog 82 0 [vk alg] [] (fun d' b' => d' = vk r /\ b' = []) := by
 unfold Ez at G
 refine Fn.of Tryz.func82 rfl rfl rfl fun w0 I ρ0 => ?_
 show B2 _ ⟨w0, I, ρ0, 0, 0, 14⟩ _ _ _
 refine Bh 0 8 A5 fun B => ?_
 refine Aj <| Bo (ι := Bool) (fun (x8_1 : Bool) => mk [(0, vk alg), (8, .val (.bool x8_1))] [] 0) (fun (x8_1 : Bool) => Ez.j1 alg x8_1 = some r) ?_ ?_
 refine Ak (B8 _ _ []) 8 56 B rfl rfl ?_
 refine Aw ?_
 rcases D9 G with ⟨h2, G⟩ | ⟨h2, G⟩
 refine Bj fun B => ?_
 exact ⟨true, G, A1 []⟩
 refine Bj fun B => ?_
 exact ⟨decide (22 < alg), G, A1 []⟩
 rintro x8_1 G
 replace G : Ez.j1 alg x8_1 = some r := G
 show B2 _ _ _ _ (mk _ _ _)
 unfold Ez.j1 at G
 refine C4 rfl G (fun h5 G => ?_) fun h5 G => ?_
 refine B9 0 8 A5 ?_
 exact De
 refine Dg ?_
 refine B9 0 48 A5 ?_
 obtain ⟨y, hy, G⟩ := Ab G
 refine Do (bI _ hy) ?_
 refine Aw ?_
 obtain ⟨e, he, G⟩ := Ab G
 refine Aw ?_
 refine C0 rfl rfl (N0 jM hH (by decide) (Tp Ar.enc_len (Cw he) (o := 1) (by decide) rfl)) rfl rfl ?_
 refine C0 rfl rfl (Dy hH (Gt Ar.enc_len (Cw he) (o := 1) (c := .int .i64 e.kind) rfl rfl)) rfl rfl ?_
 exact De
theorem Uy (u : As) (r : Bool) (G : If u = some r) : Fn Tryz.prog 115 0 [.agg [vk u.Alg, vk u.Bits]] [] (fun d' b' => d' = .val (.bool r) /\ b' = []) := by
 unfold If at G
 refine Fn.of Tryz.func115 rfl rfl rfl fun w0 I ρ0 => ?_
 show B2 _ ⟨w0, I, ρ0, 0, 0, 11⟩ _ _ _
 refine Bh 0 16 A5 fun B => ?_
 refine B9 16 88 B ?_
 refine Aw ?_
 obtain ⟨y, hy, G⟩ := Ab G
 refine Do (Tf _ _ hy) ?_
 refine Aw ?_
 rcases D9 G with ⟨h2, G⟩ | ⟨h2, G⟩
 refine Aw ?_
 obtain ⟨y_2, hy_2, G⟩ := Ab G
 refine Do (T4 _ _ hy_2) ?_
 exact De
 exact De
theorem Tb (c : Af) (r : Int) (G : A7 c = some r) : Fn Tryz.prog 116 0 [.agg (Af.dv c)] [] (fun d' b' => d' = vk r /\ b' = []) := by
 unfold A7 at G
 refine Fn.of Tryz.func116 rfl rfl rfl fun w0 I ρ0 => ?_
 show B2 _ ⟨w0, I, ρ0, 0, 0, 146⟩ _ _ _
 refine Bh 0 16 A5 fun B => ?_
 refine Aj <| Bo (ι := Bool) (fun (x39_1 : Bool) => mk [(1, .ptr 0 0), (39, .val (.bool x39_1))] [(0, .box (Af.dv c) 107)] 1) (fun (x39_1 : Bool) => A7.j1 c x39_1 = some r) ?_ ?_
 refine Ak (B8 _ _ []) 16 304 B rfl rfl ?_
 refine Aw ?_
 rcases D9 G with ⟨h2, G⟩ | ⟨h2, G⟩
 refine Bj fun B => ?_
 exact ⟨true, G, A1 [(0, 0)]⟩
 refine Aw ?_
 rcases D9 G with ⟨h4, G⟩ | ⟨h4, G⟩
 refine Bj fun B => ?_
 exact ⟨true, G, A1 [(0, 0)]⟩
 refine Aw ?_
 obtain ⟨y, hy, G⟩ := Ab G
 refine Do (Qe _ _ hy) ?_
 refine Aw ?_
 rcases D9 G with ⟨h6, G⟩ | ⟨h6, G⟩
 refine Bj fun B => ?_
 exact ⟨true, G, A1 [(0, 0)]⟩
 refine Aw ?_
 obtain ⟨y_2, hy_2, G⟩ := Ab G
 refine Do (Qe _ _ hy_2) ?_
 refine Aw ?_
 rcases D9 G with ⟨h8, G⟩ | ⟨h8, G⟩
 refine Bj fun B => ?_
 exact ⟨true, G, A1 [(0, 0)]⟩
 refine Aw ?_
 obtain ⟨y_3, hy_3, G⟩ := Ab G
 refine Do (Uy _ _ hy_3) ?_
 refine Aw ?_
 rcases D9 G with ⟨h10, G⟩ | ⟨h10, G⟩
 refine Bj fun B => ?_
 exact ⟨true, G, A1 [(0, 0)]⟩
 refine Aw ?_
 rcases D9 G with ⟨h12, G⟩ | ⟨h12, G⟩
 refine Bj fun B => ?_
 exact ⟨true, G, A1 [(0, 0)]⟩
 refine Bj fun B => ?_
 exact ⟨decide (2147483648 < c.KeyId), G, A1 [(0, 0)]⟩
 rintro x39_1 G
 replace G : A7.j1 c x39_1 = some r := G
 show B2 _ _ _ _ (mk _ _ _)
 unfold A7.j1 at G
 refine C4 rfl G (fun h15 G => ?_) fun h15 G => ?_
 refine B9 1 9 A5 ?_
 exact De
 refine Dg ?_
 refine Aj <| Bo (ι := Bool) (fun (x67_2 : Bool) => mk [(1, .ptr 0 0), (67, .val (.bool x67_2))] [(0, .box (Af.dv c) 107)] 1) (fun (x67_2 : Bool) => A7.j2 c x67_2 = some r) ?_ ?_
 refine Ak (B8 _ _ []) 1 225 A5 rfl rfl ?_
 refine Aw ?_
 obtain ⟨y_4, hy_4, G⟩ := Ab G
 refine Do (Tf _ _ hy_4) ?_
 refine Aw ?_
 rcases D9 G with ⟨h17, G⟩ | ⟨h17, G⟩
 refine Bj fun B => ?_
 exact ⟨true, G, A1 [(0, 0)]⟩
 refine Aw ?_
 obtain ⟨y_5, hy_5, G⟩ := Ab G
 refine Do (T4 _ _ hy_5) ?_
 refine Aw ?_
 rcases D9 G with ⟨h19, G⟩ | ⟨h19, G⟩
 refine Bj fun B => ?_
 exact ⟨true, G, A1 [(0, 0)]⟩
 refine Aw ?_
 rcases D9 G with ⟨h21, G⟩ | ⟨h21, G⟩
 refine Bj fun B => ?_
 exact ⟨true, G, A1 [(0, 0)]⟩
 refine Aw ?_
 rcases D9 G with ⟨h23, G⟩ | ⟨h23, G⟩
 refine Bj fun B => ?_
 exact ⟨true, G, A1 [(0, 0)]⟩
 refine Bj fun B => ?_
 exact ⟨decide (40000 < c.To), G, A1 [(0, 0)]⟩
 rintro x67_2 G
 replace G : A7.j2 c x67_2 = some r := G
 show B2 _ _ _ _ (mk _ _ _)
 unfold A7.j2 at G
 refine C4 rfl G (fun h26 G => ?_) fun h26 G => ?_
 refine B9 1 9 A5 ?_
 exact De
 refine Dg ?_
 refine Aj <| Bo (ι := Bool) (fun (x91_3 : Bool) => mk [(1, .ptr 0 0), (91, .val (.bool x91_3))] [(0, .box (Af.dv c) 107)] 1) (fun (x91_3 : Bool) => A7.j3 c x91_3 = some r) ?_ ?_
 refine Ak (B8 _ _ []) 1 193 A5 rfl rfl ?_
 refine Aw ?_
 rcases D9 G with ⟨h28, G⟩ | ⟨h28, G⟩
 refine Bj fun B => ?_
 exact ⟨true, G, A1 [(0, 0)]⟩
 refine Aw ?_
 rcases D9 G with ⟨h30, G⟩ | ⟨h30, G⟩
 refine Bj fun B => ?_
 exact ⟨true, G, A1 [(0, 0)]⟩
 refine Aw ?_
 rcases D9 G with ⟨h32, G⟩ | ⟨h32, G⟩
 refine Aw ?_
 rcases D9 G with ⟨h33, G⟩ | ⟨h33, G⟩
 refine Bj fun B => ?_
 exact ⟨true, G, A1 [(0, 0)]⟩
 refine Bj fun B => ?_
 exact ⟨decide (8 < (c.Names.length : Int)), G, A1 [(0, 0)]⟩
 refine Bj fun B => ?_
 exact ⟨decide (8 < (c.Names.length : Int)), G, A1 [(0, 0)]⟩
 rintro x91_3 G
 replace G : A7.j3 c x91_3 = some r := G
 show B2 _ _ _ _ (mk _ _ _)
 unfold A7.j3 at G
 refine C4 rfl G (fun h37 G => ?_) fun h37 G => ?_
 refine B9 1 9 A5 ?_
 exact De
 refine Dg ?_
 refine Aj <| Bh 1 9 A5 fun B => ?_
 refine Ap <| Jy (fun (i_4 : Int) => mk [(1, .ptr 0 0), (3, vk i_4)] [(0, .box (Af.dv c) 107)] 1) G (A1 [(0, 0)]) ?_
 rintro i_4 m4 o4 G hn4
 replace G : A7.l4 c i_4 = some o4 := G
 show B2 _ _ _ _ (mk _ _ _)
 unfold A7.l4 at G
 refine Aj <| Bh 1 41 A5 fun B => ?_
 refine C4 rfl G (fun h41 G => ?_) fun h41 G => ?_
 refine Dg ?_
 refine Aj <| Ap <| Bo (ι := Bool) (fun (x123_5 : Bool) => mk [(1, .ptr 0 0), (3, vk i_4), (123, .val (.bool x123_5))] [(0, .box (Af.dv c) 107)] 1) (fun (x123_5 : Bool) => A7.j5 i_4 x123_5 = some o4) ?_ ?_
 refine Bq (B8 _ _ []) (by kernel_rfl) [0, 1, 0, 7, 15, 31, 63, 127, 255, 511, 1023, 2047, 4095, 2047, 10239, 32767, 65535, 2047, 133119, 2047, 919551, 1968127, 4194303, 8388607, 16777215] 41 241 B rfl rfl (by kernel_rfl) ?_
 refine Aw ?_
 obtain ⟨e, he, G⟩ := Ab G
 refine Aw ?_
 refine Ra he ?_
 obtain ⟨y_6, hy_6, G⟩ := Ab G
 refine Do (Qe _ _ hy_6) ?_
 refine Aw ?_
 rcases D9 G with ⟨h42, G⟩ | ⟨h42, G⟩
 refine Bj fun B => ?_
 exact ⟨true, G, A1 [(0, 0)]⟩
 refine Aw ?_
 rcases D9 G with ⟨h44, G⟩ | ⟨h44, G⟩
 refine Aw ?_
 obtain ⟨e_2, he_2, G⟩ := Ab G
 refine Aw ?_
 refine Ra he_2 ?_
 refine Aw ?_
 refine Ra he ?_
 refine C0 (E5 rfl rfl h44) rfl gL rfl rfl ?_
 refine Bj fun B => ?_
 exact ⟨!K1 (Im e_2) (Im e), G, A1 [(0, 0)]⟩
 refine Bj fun B => ?_
 exact ⟨false, G, A1 [(0, 0)]⟩
 rintro x123_5 G
 replace G : A7.j5 i_4 x123_5 = some o4 := G
 show B2 _ _ _ _ (mk _ _ _)
 unfold A7.j5 at G
 refine C4 rfl G (fun h47 G => ?_) fun h47 G => ?_
 refine Bh 1 9 A5 fun B => ?_
 refine Fg ?_
 replace G := Cn G hn4
 exact Zh
 refine Dg ?_
 refine Ak (B8 _ _ []) 1 25 A5 rfl rfl ?_
 refine Bj fun B => ?_
 obtain rfl := oi_ G
 exact ⟨(W (i_4 + 1), m4), Nat.lt_succ_self _, hn4, A1 [(0, 0)]⟩
 refine Jl ?_
 replace G := Cn G hn4
 refine Aj <| Bo (ι := Bool) (fun (x145_6 : Bool) => mk [(145, .val (.bool x145_6))] [] 0) (fun (x145_6 : Bool) => A7.j6 x145_6 = some r) ?_ ?_
 refine Ak (B8 _ _ []) 41 217 B rfl rfl ?_
 refine Aw ?_
 rcases D9 G with ⟨h50, G⟩ | ⟨h50, G⟩
 refine Bj fun B => ?_
 exact ⟨true, G, A1 []⟩
 refine Aw ?_
 rcases D9 G with ⟨h52, G⟩ | ⟨h52, G⟩
 refine Bj fun B => ?_
 exact ⟨true, G, A1 []⟩
 refine Aw ?_
 rcases D9 G with ⟨h54, G⟩ | ⟨h54, G⟩
 refine Bj fun B => ?_
 exact ⟨true, G, A1 []⟩
 refine Bj fun B => ?_
 exact ⟨decide (4294967296 <= c.Seal.Sum), G, A1 []⟩
 rintro x145_6 G
 replace G : A7.j6 x145_6 = some r := G
 show B2 _ _ _ _ (mk _ _ _)
 unfold A7.j6 at G
 refine C4 rfl G (fun h57 G => ?_) fun h57 G => ?_
 refine B9 0 8 A5 ?_
 exact De
 refine Dg ?_
 refine Bh 0 8 A5 fun B => ?_
 exact La
end Go.Proofs.YtidpkjdkfkkgiaaGreat
