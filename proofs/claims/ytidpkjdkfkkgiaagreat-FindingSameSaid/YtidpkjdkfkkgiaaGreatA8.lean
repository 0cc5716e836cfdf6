import Derived.Test.YtidpkjdkfkkgiaaGreatT1
import Derived.Test.YtidpkjdkfkkgiaaGreatA6
import Derived.Test.YtidpkjdkfkkgiaaGreatA7
set_option linter.unusedVariables false
set_option linter.unusedSimpArgs false
set_option maxRecDepth 100000
set_option maxHeartbeats 1600000
namespace Go.Proofs.YtidpkjdkfkkgiaaGreat
open Go.RowKit
theorem Qi (s : ByteArray) (r : Ah) (G : Iy s = some r) : Fn Tryz.prog 161 0 [ws s] [] (fun d' b' => d' = .agg (Ah.dv r) /\ b' = []) := by
 unfold Iy at G
 refine Fn.of Tryz.func161 rfl rfl rfl fun w0 I ρ0 => ?_
 show B2 _ ⟨w0, I, ρ0, 0, 0, 6⟩ _ _ _
 refine Bh 0 8 A5 fun B => ?_
 refine B9 8 40 B ?_
 refine Aw ?_
 refine C0 rfl rfl (cA Vc oV Mc) rfl rfl ?_
 refine Qz Qk dV Zq ?_
 exact De
theorem Jo (n : Int) (r : Ah) (G : Ca n = some r) : Fn Tryz.prog 163 0 [vk n] [] (fun d' b' => d' = .agg (Ah.dv r) /\ b' = []) := by
 unfold Ca at G
 refine Fn.of Tryz.func163 rfl rfl rfl fun w0 I ρ0 => ?_
 show B2 _ ⟨w0, I, ρ0, 0, 0, 45⟩ _ _ _
 refine Bh 0 8 A5 fun B => ?_
 refine B9 8 40 B ?_
 refine Aw ?_
 refine C0 rfl rfl (E2 L5 Mc) rfl rfl ?_
 refine Kh Lg z5 iR ([(u8 n)] : List UInt8) e8 ?_
 refine Bj fun B => ?_
 refine Aj <| B9 40 64 B ?_
 refine Aw ?_
 obtain ⟨q, hq, G⟩ := Ab G
 refine C0 rfl rfl (Nu hq) rfl rfl ?_
 refine Bj fun B => ?_
 refine Ap <| Jy (fun ((x_1, b_1) : Int × List UInt8) => mk [(2, .ptr 0 0), (3, .row 1), (4, vk x_1)] [(0, .box [.val (.int .i64 0), .val (.slice none 0 0), .val (.bool false), .val (.slice none 0 0)] 171), (1, .row 5 1 (Aq e8 b_1))] 2) G (A1 [(0, 0), (1, 24)]) ?_
 rintro ⟨x_1, b_1⟩ m1 o1 G hn1
 replace G : Ca.l1 x_1 b_1 = some o1 := G
 show B2 _ _ _ _ (mk _ _ _)
 unfold Ca.l1 at G
 refine Aj <| Bo (ι := Bool) (fun (x35_2 : Bool) => mk [(2, .ptr 0 0), (3, .row 1), (4, vk x_1), (35, .val (.bool x35_2))] [(0, .box [.val (.int .i64 0), .val (.slice none 0 0), .val (.bool false), .val (.slice none 0 0)] 171), (1, .row 5 1 (Aq e8 b_1))] 2) (fun (x35_2 : Bool) => Ca.j2 x_1 b_1 x35_2 = some o1) ?_ ?_
 refine Ak (B8 _ _ []) 2 210 A5 rfl rfl ?_
 refine Aw ?_
 rcases D9 G with ⟨h4, G⟩ | ⟨h4, G⟩
 refine Aw ?_
 rcases D9 G with ⟨h5, G⟩ | ⟨h5, G⟩
 refine Bj fun B => ?_
 exact ⟨true, G, A1 [(0, 0), (1, 1)]⟩
 refine Aw ?_
 rcases D9 G with ⟨h7, G⟩ | ⟨h7, G⟩
 refine Aw ?_
 obtain ⟨e, he, G⟩ := Ab G
 refine Aw ?_
 refine Gd (rd := [1]) (E5 rfl rfl h7) rfl (.loadR1 wD (Gt Jb (Cw he) (o := 0) (c := .int .u8 (e.toNat : Int)) rfl rfl)) rfl rfl ?_
 refine Aw ?_
 rcases D9 G with ⟨h8, G⟩ | ⟨h8, G⟩
 refine Bj fun B => ?_
 exact ⟨true, G, A1 [(0, 0), (1, 1)]⟩
 refine Aw ?_
 rcases D9 G with ⟨h10, G⟩ | ⟨h10, G⟩
 refine Aw ?_
 refine Gd (rd := [1]) (E5 rfl rfl h10) rfl (.loadR1 wD (Gt Jb (Cw he) (o := 0) (c := .int .u8 (e.toNat : Int)) rfl rfl)) rfl rfl ?_
 refine Bj fun B => ?_
 exact ⟨decide ((e.toNat : Int) < 128), G, A1 [(0, 0), (1, 1)]⟩
 refine Bj fun B => ?_
 exact ⟨false, G, A1 [(0, 0), (1, 1)]⟩
 refine Aw ?_
 rcases D9 G with ⟨h13, G⟩ | ⟨h13, G⟩
 refine Aw ?_
 obtain ⟨e_2, he_2, G⟩ := Ab G
 refine Aw ?_
 refine Gd (rd := [1]) (E5 rfl rfl h13) rfl (.loadR1 wD (Gt Jb (Cw he_2) (o := 0) (c := .int .u8 (e_2.toNat : Int)) rfl rfl)) rfl rfl ?_
 refine Bj fun B => ?_
 exact ⟨decide ((e_2.toNat : Int) < 128), G, A1 [(0, 0), (1, 1)]⟩
 refine Bj fun B => ?_
 exact ⟨false, G, A1 [(0, 0), (1, 1)]⟩
 refine Aw ?_
 rcases D9 G with ⟨h16, G⟩ | ⟨h16, G⟩
 refine Aw ?_
 obtain ⟨e_3, he_3, G⟩ := Ab G
 refine Aw ?_
 refine Gd (rd := [1]) (E5 rfl rfl h16) rfl (.loadR1 wD (Gt Jb (Cw he_3) (o := 0) (c := .int .u8 (e_3.toNat : Int)) rfl rfl)) rfl rfl ?_
 refine Aw ?_
 rcases D9 G with ⟨h17, G⟩ | ⟨h17, G⟩
 refine Bj fun B => ?_
 exact ⟨true, G, A1 [(0, 0), (1, 1)]⟩
 refine Aw ?_
 rcases D9 G with ⟨h19, G⟩ | ⟨h19, G⟩
 refine Aw ?_
 refine Gd (rd := [1]) (E5 rfl rfl h19) rfl (.loadR1 wD (Gt Jb (Cw he_3) (o := 0) (c := .int .u8 (e_3.toNat : Int)) rfl rfl)) rfl rfl ?_
 refine Bj fun B => ?_
 exact ⟨decide ((e_3.toNat : Int) < 128), G, A1 [(0, 0), (1, 1)]⟩
 refine Bj fun B => ?_
 exact ⟨false, G, A1 [(0, 0), (1, 1)]⟩
 refine Aw ?_
 rcases D9 G with ⟨h22, G⟩ | ⟨h22, G⟩
 refine Aw ?_
 obtain ⟨e_4, he_4, G⟩ := Ab G
 refine Aw ?_
 refine Gd (rd := [1]) (E5 rfl rfl h22) rfl (.loadR1 wD (Gt Jb (Cw he_4) (o := 0) (c := .int .u8 (e_4.toNat : Int)) rfl rfl)) rfl rfl ?_
 refine Bj fun B => ?_
 exact ⟨decide ((e_4.toNat : Int) < 128), G, A1 [(0, 0), (1, 1)]⟩
 refine Bj fun B => ?_
 exact ⟨false, G, A1 [(0, 0), (1, 1)]⟩
 rintro x35_2 G
 replace G : Ca.j2 x_1 b_1 x35_2 = some o1 := G
 show B2 _ _ _ _ (mk _ _ _)
 unfold Ca.j2 at G
 refine C4 rfl G (fun h25 G => ?_) fun h25 G => ?_
 refine Dg ?_
 refine Aj <| Ap <| Ak (B8 _ _ []) 2 50 A5 rfl rfl ?_
 refine Aw ?_
 refine C0 rfl rfl (E2 L5 Mc) rfl rfl ?_
 refine Kh Lg z5 iR ([(u8 x_1)] : List UInt8) e8 ?_
 refine Aw ?_
 obtain ⟨l, hl, G⟩ := Ab G
 refine Gd (rd := [18, 1]) rfl rfl (D5 Lg Jb .row rfl .row rfl hl rfl) rfl rfl ?_
 refine Bj fun B => ?_
 refine Ak (B8 _ _ []) 50 74 B rfl rfl ?_
 refine Aw ?_
 obtain ⟨q_2, hq_2, G⟩ := Ab G
 refine C0 rfl rfl (Nu hq_2) rfl rfl ?_
 refine Bj fun B => ?_
 obtain rfl := oi_ G
 exact ⟨((q_2, l), m1), Nat.lt_succ_self _, hn1, A1 [(0, 0), (1, 34)]⟩
 refine Jl ?_
 replace G := Cn G hn1
 refine B9 2 26 A5 ?_
 refine Aw ?_
 refine Qz Qk dV Zq ?_
 exact De
theorem Nb.F (rec : (List Ah) -> Option ((List Ah))) (hrec : ∀ (l : (List Ah)) (r : (List Ah)), rec l = some r -> Fn Tryz.prog 170 0 [.sl 4 (Aq Ah.enc l)] [] (fun d' b' => d' = .sl 4 (Aq Ah.enc r) /\ b' = [])) (l : (List Ah)) (r : (List Ah)) (G : Cj.F rec l = some r) : Fn Tryz.prog 170 0 [.sl 4 (Aq Ah.enc l)] [] (fun d' b' => d' = .sl 4 (Aq Ah.enc r) /\ b' = []) := by
 unfold Cj.F at G
 refine Fn.of Tryz.func170 rfl rfl rfl fun w0 I ρ0 => ?_
 show B2 _ ⟨w0, I, ρ0, 0, 0, 30⟩ _ _ _
 refine Bh 0 8 A5 fun B => ?_
 refine Bh 8 16 B fun B => ?_
 refine Aj <| Bh 16 24 B fun B => ?_
 refine Ap <| Jy (fun ((i_1, out_1) : Int × List Ah) => mk [(0, .sl 4 (Aq Ah.enc l)), (3, .row 0), (4, vk i_1)] [(0, .row 171 4 (Aq Ah.enc out_1))] 1) G (A1 []) ?_
 rintro ⟨i_1, out_1⟩ m1 o1 G hn1
 replace G : Cj.l1 rec l i_1 out_1 = some o1 := G
 show B2 _ _ _ _ (mk _ _ _)
 unfold Cj.l1 at G
 refine Aj <| Bh 1 33 A5 fun B => ?_
 refine C4 rfl G (fun h5 G => ?_) fun h5 G => ?_
 refine Dg ?_
 refine Aj <| Ap <| B9 33 81 B ?_
 refine Aw ?_
 obtain ⟨e, he, G⟩ := Ab G
 refine Aw ?_
 refine C0 rfl rfl (Eb eP (In Ah.enc_len (Cw he) (o := 0) (m := 4) (cs := [.int .i64 e.Tag, .sl 1 (Aq e8 e.Bytes), .bool e.Nested, .sl 4 (Aq Ah.enc e.Elements)]) (by simp only [Ah.enc_eq]; rfl) (by decide) rfl) (Fh Ah.enc_len (Cw he) (o := 0) (m := 4) (by decide) rfl)) rfl rfl ?_
 refine Bj fun B => ?_
 refine B9 81 129 B ?_
 refine C0 rfl rfl (Em Lg z5 (by decide) rfl rfl rfl rfl iR (cs := []) .nil rfl (l := ([] : List UInt8)) (f := e8) rfl) rfl rfl ?_
 refine Aw ?_
 obtain ⟨l_2, hl_2, G⟩ := Ab G
 refine Gd (rd := [81]) rfl rfl (D5 Lg Jb .row rfl .sl rfl hl_2 rfl) rfl rfl ?_
 refine Bj fun B => ?_
 refine B9 129 169 B ?_
 refine Aw ?_
 obtain ⟨y, hy, G⟩ := Ab G
 refine Do (hrec _ _ hy) ?_
 refine Bj fun B => ?_
 refine E3 (σ' := mk [(0, .sl 4 (Aq Ah.enc l)), (3, .row 0), (4, vk i_1), (5, .ptr 1 0)] [(0, .row 171 4 (Aq Ah.enc out_1)), (1, .box [vk e.Tag, .sl 1 (Aq e8 l_2), .val (.bool e.Nested), .sl 4 (Aq Ah.enc y)] 171)] 2) (A1 [(0, 0), (1, 65)]) ?_
 refine Ak (B8 _ _ []) 2 42 A5 rfl rfl ?_
 refine Aw ?_
 refine C0 rfl rfl (Em Yc Zq (by decide) rfl rfl rfl rfl jV (cs := [.int .i64 e.Tag, .sl 1 (Aq e8 l_2), .bool e.Nested, .sl 4 (Aq Ah.enc y)]) (.cons .int (.cons .sl (.cons .bool (.cons .sl .nil)))) rfl (l := ([(Ah.mk e.Tag l_2 e.Nested y)] : List Ah)) (f := Ah.enc) (by simp only [Aq, List.flatMap_cons, List.flatMap_nil, Ah.enc_eq]; rfl)) rfl rfl ?_
 obtain ⟨l_3, hl_3, G⟩ := Ab G
 refine Gd (rd := [0, 18]) rfl rfl (D5 Yc Ah.enc_len .row rfl .row rfl hl_3 rfl) rfl rfl ?_
 refine Bj fun B => ?_
 refine Ak (B8 _ _ []) 42 66 B rfl rfl ?_
 refine Bj fun B => ?_
 obtain rfl := oi_ G
 exact ⟨((W (i_1 + 1), l_3), m1), Nat.lt_succ_self _, hn1, A1 [(0, 26)]⟩
 refine Jl ?_
 replace G := Cn G hn1
 refine Bh 33 49 B fun B => ?_
 exact La
theorem Nb (l : (List Ah)) (r : (List Ah)) (G : Cj l = some r) : Fn Tryz.prog 170 0 [.sl 4 (Aq Ah.enc l)] [] (fun d' b' => d' = .sl 4 (Aq Ah.enc r) /\ b' = []) :=
 Rn (motive := fun (x : (List Ah)) (r : (List Ah)) => Fn Tryz.prog 170 0 [.sl 4 (Aq Ah.enc x)] [] (fun d' b' => d' = .sl 4 (Aq Ah.enc r) /\ b' = [])) (fun rec hrec x r h => Nb.F _ (fun l r h => hrec l r h) x r h) l r G
theorem Qh (l : (List Ah)) (r : Ah) (G : Ie l = some r) : Fn Tryz.prog 162 0 [.sl 4 (Aq Ah.enc l)] [] (fun d' b' => d' = .agg (Ah.dv r) /\ b' = []) := by
 unfold Ie at G
 refine Fn.of Tryz.func162 rfl rfl rfl fun w0 I ρ0 => ?_
 show B2 _ ⟨w0, I, ρ0, 0, 0, 6⟩ _ _ _
 refine Bh 0 8 A5 fun B => ?_
 refine B9 8 40 B ?_
 refine Aw ?_
 obtain ⟨y, hy, G⟩ := Ab G
 refine Do (Nb _ _ hy) ?_
 refine Qz Qk dV Zq ?_
 exact De
theorem Wi (u : As) (r : Ah) (G : Ki u = some r) : Fn Tryz.prog 164 0 [.agg [vk u.Alg, vk u.Bits]] [] (fun d' b' => d' = .agg (Ah.dv r) /\ b' = []) := by
 unfold Ki at G
 refine Fn.of Tryz.func164 rfl rfl rfl fun w0 I ρ0 => ?_
 show B2 _ ⟨w0, I, ρ0, 0, 0, 11⟩ _ _ _
 refine Bh 0 16 A5 fun B => ?_
 refine Aj <| Bq (B8 _ _ [64]) (by kernel_rfl) [0, 1, 3, 0, 8, 31, 63, 127, 255] 16 88 B rfl rfl (by kernel_rfl) ?_
 refine Aw ?_
 obtain ⟨y, hy, G⟩ := Ab G
 refine Do (Jo _ _ hy) ?_
 refine Aw ?_
 obtain ⟨y_2, hy_2, G⟩ := Ab G
 refine Do (Jo _ _ hy_2) ?_
 refine aAy (rd := []) rfl rfl (Em Yc Zq (by decide) rfl rfl rfl rfl jV (cs := [.int .i64 y.Tag, .sl 1 (Aq e8 y.Bytes), .bool y.Nested, .sl 4 (Aq Ah.enc y.Elements), .int .i64 y_2.Tag, .sl 1 (Aq e8 y_2.Bytes), .bool y_2.Nested, .sl 4 (Aq Ah.enc y_2.Elements)]) (.cons .int (.cons .sl (.cons .bool (.cons .sl (.cons .int (.cons .sl (.cons .bool (.cons .sl .nil)))))))) rfl (l := ([y, y_2] : List Ah)) (f := Ah.enc) (by simp only [Aq, List.flatMap_cons, List.flatMap_nil, Ah.enc_eq]; rfl)) rfl rfl rfl ?_
 obtain ⟨y_3, hy_3, G⟩ := Ab G
 refine Do (Qh _ _ hy_3) ?_
 exact De
theorem cU (b : Bool) (r : Ah) (G : Mn b = some r) : Fn Tryz.prog 165 0 [.val (.bool b)] [] (fun d' b' => d' = .agg (Ah.dv r) /\ b' = []) := by
 unfold Mn at G
 refine Fn.of Tryz.func165 rfl rfl rfl fun w0 I ρ0 => ?_
 show B2 _ ⟨w0, I, ρ0, 0, 0, 8⟩ _ _ _
 refine Bh 0 8 A5 fun B => ?_
 refine Aj <| Bh 8 16 B fun B => ?_
 refine C4 rfl G (fun h3 G => ?_) fun h3 G => ?_
 refine B9 16 40 B ?_
 refine Kh Lg z5 iR ([(255 : UInt8)] : List UInt8) e8 ?_
 refine Qz Qk dV Zq ?_
 exact De
 refine Dg ?_
 refine B9 16 40 B ?_
 refine Kh Lg z5 iR ([(0 : UInt8)] : List UInt8) e8 ?_
 refine Qz Qk dV Zq ?_
 exact De
theorem bH (c : Af) (r : Ah) (G : Er c = some r) : Fn Tryz.prog 147 0 [.agg (Af.dv c)] [] (fun d' b' => d' = .agg (Ah.dv r) /\ b' = []) := by
 unfold Er at G
 refine Fn.of Tryz.func147 rfl rfl rfl fun w0 I ρ0 => ?_
 show B2 _ ⟨w0, I, ρ0, 0, 0, 55⟩ _ _ _
 refine Bh 0 16 A5 fun B => ?_
 refine Bh 16 24 B fun B => ?_
 refine Aj <| Bh 24 32 B fun B => ?_
 refine Ap <| Jy (fun ((i_1, names_1) : Int × List Ah) => mk [(1, .ptr 0 0), (2, .ptr 1 0), (3, .row 2), (4, vk i_1)] [(0, .box (Af.dv c) 107), (1, .box [.val (.int .i64 0), .val (.slice none 0 0), .val (.bool false), .val (.slice none 0 0)] 171), (2, .row 171 4 (Aq Ah.enc names_1))] 3) G (A1 [(0, 0), (1, 8)]) ?_
 rintro ⟨i_1, names_1⟩ m1 o1 G hn1
 replace G : Er.l1 c i_1 names_1 = some o1 := G
 show B2 _ _ _ _ (mk _ _ _)
 unfold Er.l1 at G
 refine Aj <| Bh 3 43 A5 fun B => ?_
 refine C4 rfl G (fun h5 G => ?_) fun h5 G => ?_
 refine Dg ?_
 refine Aj <| Ap <| Ak (B8 _ _ []) 43 123 B rfl rfl ?_
 refine Aw ?_
 obtain ⟨e, he, G⟩ := Ab G
 refine Aw ?_
 refine Ra he ?_
 obtain ⟨y, hy, G⟩ := Ab G
 refine Do (Qi _ _ hy) ?_
 refine C0 rfl rfl (Em Yc Zq (by decide) rfl rfl rfl rfl jV (cs := [.int .i64 y.Tag, .sl 1 (Aq e8 y.Bytes), .bool y.Nested, .sl 4 (Aq Ah.enc y.Elements)]) (.cons .int (.cons .sl (.cons .bool (.cons .sl .nil)))) rfl (l := ([y] : List Ah)) (f := Ah.enc) (by simp only [Aq, List.flatMap_cons, List.flatMap_nil, Ah.enc_eq]; rfl)) rfl rfl ?_
 obtain ⟨l, hl, G⟩ := Ab G
 refine Gd (rd := [2, 99]) rfl rfl (D5 Yc Ah.enc_len .row rfl .row rfl hl rfl) rfl rfl ?_
 refine Bj fun B => ?_
 refine Ak (B8 _ _ []) 123 147 B rfl rfl ?_
 refine Bj fun B => ?_
 obtain rfl := oi_ G
 exact ⟨((W (i_1 + 1), l), m1), Nat.lt_succ_self _, hn1, A1 [(0, 0), (1, 1), (2, 107)]⟩
 refine Jl ?_
 replace G := Cn G hn1
 refine Aj <| E3 (σ' := mk [(1, .ptr 0 0), (2, .ptr 1 0), (3, .sl 4 (Aq Ah.enc names_1))] [(0, .box (Af.dv c) 107), (1, .box [.val (.int .i64 0), .val (.slice none 0 0), .val (.bool false), .val (.slice none 0 0)] 171)] 2) (A1 [(0, 0), (1, 1)]) ?_
 refine Bq (B8 _ _ [258]) (by kernel_rfl) [0, 1, 3, 0, 8, 31, 0, 64, 255, 0, 512, 2047, 0, 4096, 16383, 0, 32768, 131071, 0, 262144, 1048575, 0, 2097152, 8388607, 0, 16777216, 67108863, 0, 134217728, 536870911, 0, 2147483647, 4294967295, 8589934591, 17179869183] 2 282 A5 rfl rfl (by kernel_rfl) ?_
 refine Aw ?_
 obtain ⟨y_12, hy_12, G⟩ := Ab G
 refine Do (Jo _ _ hy_12) ?_
 refine Aw ?_
 obtain ⟨y_13, hy_13, G⟩ := Ab G
 refine Do (Qi _ _ hy_13) ?_
 refine Aw ?_
 obtain ⟨y_14, hy_14, G⟩ := Ab G
 refine Do (Qi _ _ hy_14) ?_
 refine Aw ?_
 obtain ⟨y_15, hy_15, G⟩ := Ab G
 refine Do (Wi _ _ hy_15) ?_
 refine Aw ?_
 obtain ⟨y_16, hy_16, G⟩ := Ab G
 refine Do (Jo _ _ hy_16) ?_
 refine Aw ?_
 obtain ⟨y_17, hy_17, G⟩ := Ab G
 refine Do (Wi _ _ hy_17) ?_
 refine Aw ?_
 obtain ⟨y_18, hy_18, G⟩ := Ab G
 refine Do (Jo _ _ hy_18) ?_
 refine Aw ?_
 obtain ⟨y_19, hy_19, G⟩ := Ab G
 refine Do (Jo _ _ hy_19) ?_
 refine Aw ?_
 obtain ⟨y_20, hy_20, G⟩ := Ab G
 refine Do (cU _ _ hy_20) ?_
 refine Aw ?_
 obtain ⟨y_21, hy_21, G⟩ := Ab G
 refine Do (Jo _ _ hy_21) ?_
 refine Aw ?_
 obtain ⟨y_22, hy_22, G⟩ := Ab G
 refine Do (Qh _ _ hy_22) ?_
 refine aAy (rd := []) rfl rfl (Em Yc Zq (by decide) rfl rfl rfl rfl jV (cs := [.int .i64 y_12.Tag, .sl 1 (Aq e8 y_12.Bytes), .bool y_12.Nested, .sl 4 (Aq Ah.enc y_12.Elements), .int .i64 y_13.Tag, .sl 1 (Aq e8 y_13.Bytes), .bool y_13.Nested, .sl 4 (Aq Ah.enc y_13.Elements), .int .i64 y_14.Tag, .sl 1 (Aq e8 y_14.Bytes), .bool y_14.Nested, .sl 4 (Aq Ah.enc y_14.Elements), .int .i64 y_15.Tag, .sl 1 (Aq e8 y_15.Bytes), .bool y_15.Nested, .sl 4 (Aq Ah.enc y_15.Elements), .int .i64 y_16.Tag, .sl 1 (Aq e8 y_16.Bytes), .bool y_16.Nested, .sl 4 (Aq Ah.enc y_16.Elements), .int .i64 y_17.Tag, .sl 1 (Aq e8 y_17.Bytes), .bool y_17.Nested, .sl 4 (Aq Ah.enc y_17.Elements), .int .i64 y_18.Tag, .sl 1 (Aq e8 y_18.Bytes), .bool y_18.Nested, .sl 4 (Aq Ah.enc y_18.Elements), .int .i64 y_19.Tag, .sl 1 (Aq e8 y_19.Bytes), .bool y_19.Nested, .sl 4 (Aq Ah.enc y_19.Elements), .int .i64 y_20.Tag, .sl 1 (Aq e8 y_20.Bytes), .bool y_20.Nested, .sl 4 (Aq Ah.enc y_20.Elements), .int .i64 y_21.Tag, .sl 1 (Aq e8 y_21.Bytes), .bool y_21.Nested, .sl 4 (Aq Ah.enc y_21.Elements), .int .i64 y_22.Tag, .sl 1 (Aq e8 y_22.Bytes), .bool y_22.Nested, .sl 4 (Aq Ah.enc y_22.Elements)]) (.cons .int (.cons .sl (.cons .bool (.cons .sl (.cons .int (.cons .sl (.cons .bool (.cons .sl (.cons .int (.cons .sl (.cons .bool (.cons .sl (.cons .int (.cons .sl (.cons .bool (.cons .sl (.cons .int (.cons .sl (.cons .bool (.cons .sl (.cons .int (.cons .sl (.cons .bool (.cons .sl (.cons .int (.cons .sl (.cons .bool (.cons .sl (.cons .int (.cons .sl (.cons .bool (.cons .sl (.cons .int (.cons .sl (.cons .bool (.cons .sl (.cons .int (.cons .sl (.cons .bool (.cons .sl (.cons .int (.cons .sl (.cons .bool (.cons .sl .nil)))))))))))))))))))))))))))))))))))))))))))) rfl (l := ([y_12, y_13, y_14, y_15, y_16, y_17, y_18, y_19, y_20, y_21, y_22] : List Ah)) (f := Ah.enc) (by simp only [Aq, List.flatMap_cons, List.flatMap_nil, Ah.enc_eq]; rfl)) rfl rfl rfl ?_
 obtain ⟨y_23, hy_23, G⟩ := Ab G
 refine Do (Qh _ _ hy_23) ?_
 exact De
theorem fS (n : Int) (r : Bool) (G : Lr n = some r) : Fn Tryz.prog 168 0 [vk n] [] (fun d' b' => d' = .val (.bool r) /\ b' = []) := by
 unfold Lr at G
 refine Fn.of Tryz.func168 rfl rfl rfl fun w0 I ρ0 => ?_
 show B2 _ ⟨w0, I, ρ0, 0, 0, 14⟩ _ _ _
 refine Bh 0 8 A5 fun B => ?_
 refine B9 8 104 B ?_
 refine Aw ?_
 rcases D9 G with ⟨h2, G⟩ | ⟨h2, G⟩
 refine Aw ?_
 rcases D9 G with ⟨h3, G⟩ | ⟨h3, G⟩
 refine Aw ?_
 obtain ⟨q, hq, G⟩ := Ab G
 refine C0 (E5 rfl rfl h3) rfl (fK hq) rfl rfl ?_
 exact De
 exact De
 exact De
theorem M9.F (rec : Ah -> Option (Bool)) (hrec : ∀ (v : Ah) (r : Bool), rec v = some r -> Fn Tryz.prog 158 0 [.agg (Ah.dv v)] [] (fun d' b' => d' = .val (.bool r) /\ b' = [])) (v : Ah) (r : Bool) (G : Bl.F rec v = some r) : Fn Tryz.prog 158 0 [.agg (Ah.dv v)] [] (fun d' b' => d' = .val (.bool r) /\ b' = []) := by
 unfold Bl.F at G
 refine Fn.of Tryz.func158 rfl rfl rfl fun w0 I ρ0 => ?_
 show B2 _ ⟨w0, I, ρ0, 0, 0, 53⟩ _ _ _
 refine Bh 0 16 A5 fun B => ?_
 refine Aj <| Bo (ι := Bool) (fun (x38_1 : Bool) => mk [(1, .ptr 0 0), (38, .val (.bool x38_1))] [(0, .box (Ah.dv v) 171)] 1) (fun (x38_1 : Bool) => Bl.j1 rec v x38_1 = some r) ?_ ?_
 refine Ak (B8 _ _ []) 16 296 B rfl rfl ?_
 refine Aw ?_
 obtain ⟨y, hy, G⟩ := Ab G
 refine Do (fS _ _ hy) ?_
 refine Aw ?_
 rcases D9 G with ⟨h2, G⟩ | ⟨h2, G⟩
 refine Bj fun B => ?_
 exact ⟨true, G, A1 [(0, 0)]⟩
 refine Aw ?_
 obtain ⟨q, hq, G⟩ := Ab G
 refine C0 (E5 rfl rfl h2) rfl (Rw hq) rfl rfl ?_
 obtain ⟨q_2, hq_2, G⟩ := Ab G
 refine C0 (E5 rfl rfl h2) rfl (fK hq_2) rfl rfl ?_
 refine Aw ?_
 refine C0 (E5 rfl rfl h2) rfl (wH aEb) rfl rfl ?_
 refine Aw ?_
 rcases D9 G with ⟨h4, G⟩ | ⟨h4, G⟩
 refine Bj fun B => ?_
 exact ⟨true, G, A1 [(0, 0)]⟩
 refine Aw ?_
 rcases D9 G with ⟨h6, G⟩ | ⟨h6, G⟩
 refine Aw ?_
 rcases D9 G with ⟨h7, G⟩ | ⟨h7, G⟩
 refine Bj fun B => ?_
 exact ⟨true, G, A1 [(0, 0)]⟩
 refine Bj fun B => ?_
 exact ⟨false, G, A1 [(0, 0)]⟩
 refine Bj fun B => ?_
 exact ⟨decide (0 < (v.Elements.length : Int)), G, A1 [(0, 0)]⟩
 rintro x38_1 G
 replace G : Bl.j1 rec v x38_1 = some r := G
 show B2 _ _ _ _ (mk _ _ _)
 unfold Bl.j1 at G
 refine C4 rfl G (fun h11 G => ?_) fun h11 G => ?_
 refine B9 1 9 A5 ?_
 exact De
 refine Dg ?_
 refine Aj <| Bh 1 9 A5 fun B => ?_
 refine Ap <| Jy (fun (i_2 : Int) => mk [(1, .ptr 0 0), (3, vk i_2)] [(0, .box (Ah.dv v) 171)] 1) G (A1 [(0, 0)]) ?_
 rintro i_2 m2 o2 G hn2
 replace G : Bl.l2 rec v i_2 = some o2 := G
 show B2 _ _ _ _ (mk _ _ _)
 unfold Bl.l2 at G
 refine Aj <| Bh 1 41 A5 fun B => ?_
 refine C4 rfl G (fun h15 G => ?_) fun h15 G => ?_
 refine Dg ?_
 refine Aj <| Ap <| B9 41 97 B ?_
 refine Aw ?_
 obtain ⟨e, he, G⟩ := Ab G
 refine Aw ?_
 refine C0 rfl rfl (Eb eP (In Ah.enc_len (Cw he) (o := 0) (m := 4) (cs := [.int .i64 e.Tag, .sl 1 (Aq e8 e.Bytes), .bool e.Nested, .sl 4 (Aq Ah.enc e.Elements)]) (by simp only [Ah.enc_eq]; rfl) (by decide) rfl) (Fh Ah.enc_len (Cw he) (o := 0) (m := 4) (by decide) rfl)) rfl rfl ?_
 obtain ⟨y_2, hy_2, G⟩ := Ab G
 refine Do (hrec _ _ hy_2) ?_
 refine Bj fun B => ?_
 refine C4 rfl G (fun h17 G => ?_) fun h17 G => ?_
 refine Bh 97 105 B fun B => ?_
 refine Fg ?_
 replace G := Cn G hn2
 exact Zh
 refine Dg ?_
 refine Ak (B8 _ _ []) 97 121 B rfl rfl ?_
 refine Bj fun B => ?_
 obtain rfl := oi_ G
 exact ⟨(W (i_2 + 1), m2), Nat.lt_succ_self _, hn2, A1 [(0, 0)]⟩
 refine Jl ?_
 replace G := Cn G hn2
 refine Bh 41 49 B fun B => ?_
 exact La
theorem M9 (v : Ah) (r : Bool) (G : Bl v = some r) : Fn Tryz.prog 158 0 [.agg (Ah.dv v)] [] (fun d' b' => d' = .val (.bool r) /\ b' = []) :=
 Rn (motive := fun (x : Ah) (r : Bool) => Fn Tryz.prog 158 0 [.agg (Ah.dv x)] [] (fun d' b' => d' = .val (.bool r) /\ b' = [])) (fun rec hrec x r h => M9.F _ (fun v r h => hrec v r h) x r h) v r G
theorem O0.F (rec : Ah -> Option (Int)) (hrec : ∀ (v : Ah) (r : Int), rec v = some r -> Fn Tryz.prog 159 0 [.agg (Ah.dv v)] [] (fun d' b' => d' = vk r /\ b' = [])) (v : Ah) (r : Int) (G : Cu.F rec v = some r) : Fn Tryz.prog 159 0 [.agg (Ah.dv v)] [] (fun d' b' => d' = vk r /\ b' = []) := by
 unfold Cu.F at G
 refine Fn.of Tryz.func159 rfl rfl rfl fun w0 I ρ0 => ?_
 show B2 _ ⟨w0, I, ρ0, 0, 0, 22⟩ _ _ _
 refine Bh 0 16 A5 fun B => ?_
 refine Bh 16 24 B fun B => ?_
 refine Aj <| Bh 24 32 B fun B => ?_
 refine Ap <| Jy (fun ((d_1, i_1) : Int × Int) => mk [(1, .ptr 0 0), (3, vk d_1), (4, vk i_1)] [(0, .box (Ah.dv v) 171)] 1) G (A1 [(0, 0)]) ?_
 rintro ⟨d_1, i_1⟩ m1 o1 G hn1
 replace G : Cu.l1 rec v d_1 i_1 = some o1 := G
 show B2 _ _ _ _ (mk _ _ _)
 unfold Cu.l1 at G
 refine Aj <| Bh 1 41 A5 fun B => ?_
 refine C4 rfl G (fun h5 G => ?_) fun h5 G => ?_
 refine Dg ?_
 refine Aj <| Ap <| Ak (B8 _ _ []) 41 113 B rfl rfl ?_
 refine Aw ?_
 obtain ⟨e, he, G⟩ := Ab G
 refine Aw ?_
 refine C0 rfl rfl (Eb eP (In Ah.enc_len (Cw he) (o := 0) (m := 4) (cs := [.int .i64 e.Tag, .sl 1 (Aq e8 e.Bytes), .bool e.Nested, .sl 4 (Aq Ah.enc e.Elements)]) (by simp only [Ah.enc_eq]; rfl) (by decide) rfl) (Fh Ah.enc_len (Cw he) (o := 0) (m := 4) (by decide) rfl)) rfl rfl ?_
 obtain ⟨y, hy, G⟩ := Ab G
 refine Do (hrec _ _ hy) ?_
 refine C0 rfl rfl aCo rfl rfl ?_
 refine Bj fun B => ?_
 refine Ak (B8 _ _ []) 113 137 B rfl rfl ?_
 refine Bj fun B => ?_
 obtain rfl := oi_ G
 exact ⟨((max d_1 y, W (i_1 + 1)), m1), Nat.lt_succ_self _, hn1, A1 [(0, 0)]⟩
 refine Jl ?_
 replace G := Cn G hn1
 refine Bh 41 65 B fun B => ?_
 exact La
theorem O0 (v : Ah) (r : Int) (G : Cu v = some r) : Fn Tryz.prog 159 0 [.agg (Ah.dv v)] [] (fun d' b' => d' = vk r /\ b' = []) :=
 Rn (motive := fun (x : Ah) (r : Int) => Fn Tryz.prog 159 0 [.agg (Ah.dv x)] [] (fun d' b' => d' = vk r /\ b' = [])) (fun rec hrec x r h => O0.F _ (fun v r h => hrec v r h) x r h) v r G
theorem Yf (n : Int) (r : (List UInt8)) (G : D6 n = some r) : Fn Tryz.prog 169 0 [vk n] [] (fun d' b' => d' = .sl 1 (Aq e8 r) /\ b' = []) := by
 unfold D6 at G
 refine Fn.of Tryz.func169 rfl rfl rfl fun w0 I ρ0 => ?_
 show B2 _ ⟨w0, I, ρ0, 0, 0, 26⟩ _ _ _
 refine Bh 0 8 A5 fun B => ?_
 refine Aj <| Bh 8 24 B fun B => ?_
 refine C4 rfl G (fun h3 G => ?_) fun h3 G => ?_
 refine B9 24 56 B ?_
 refine Aw ?_
 refine C0 rfl rfl (E2 L5 Mc) rfl rfl ?_
 refine Kh Lg z5 iR ([(u8 n)] : List UInt8) e8 ?_
 exact De
 refine Dg ?_
 refine Bh 24 32 B fun B => ?_
 refine Aj <| Ap <| Jy (fun ((n_1, b_1) : Int × List UInt8) => mk [(0, vk n_1), (3, .row 0)] [(0, .row 5 1 (Aq e8 b_1))] 1) G (A1 []) ?_
 rintro ⟨n_1, b_1⟩ m1 o1 G hn1
 replace G : D6.l1 n_1 b_1 = some o1 := G
 show B2 _ _ _ _ (mk _ _ _)
 unfold D6.l1 at G
 refine Aj <| Bh 1 17 A5 fun B => ?_
 refine C4 rfl G (fun h7 G => ?_) fun h7 G => ?_
 refine Dg ?_
 refine Ap <| B9 17 73 B ?_
 refine Aw ?_
 obtain ⟨q, hq, G⟩ := Ab G
 refine C0 rfl rfl (fK hq) rfl rfl ?_
 refine C0 rfl rfl (E2 L5 Mc) rfl rfl ?_
 refine Kh Lg z5 iR ([(u8 q)] : List UInt8) e8 ?_
 refine Aw ?_
 obtain ⟨l, hl, G⟩ := Ab G
 refine Gd (rd := [41, 0]) rfl rfl (D5 Lg Jb .row rfl .row rfl hl rfl) rfl rfl ?_
 refine Bj fun B => ?_
 refine Ak (B8 _ _ []) 73 97 B rfl rfl ?_
 refine Aw ?_
 obtain ⟨q_2, hq_2, G⟩ := Ab G
 refine C0 rfl rfl (Rw hq_2) rfl rfl ?_
 refine Bj fun B => ?_
 obtain rfl := oi_ G
 exact ⟨((q_2, l), m1), Nat.lt_succ_self _, hn1, A1 [(0, 57)]⟩
 refine Jl ?_
 replace G := Cn G hn1
 refine B9 17 81 B ?_
 refine Aw ?_
 refine C0 rfl rfl (E2 L5 Mc) rfl rfl ?_
 refine Kh Lg z5 iR ([(u8 (W (128 + (b_1.length : Int))))] : List UInt8) e8 ?_
 refine Aw ?_
 obtain ⟨l_2, hl_2, G⟩ := Ab G
 refine Gd (rd := [49, 0]) rfl rfl (D5 Lg Jb .row rfl .row rfl hl_2 rfl) rfl rfl ?_
 exact De
theorem Ru.F (rec : Ah -> Option ((List UInt8))) (hrec : ∀ (v : Ah) (r : (List UInt8)), rec v = some r -> Fn Tryz.prog 160 0 [.agg (Ah.dv v)] [] (fun d' b' => d' = .sl 1 (Aq e8 r) /\ b' = [])) (v : Ah) (r : (List UInt8)) (G : Dj.F rec v = some r) : Fn Tryz.prog 160 0 [.agg (Ah.dv v)] [] (fun d' b' => d' = .sl 1 (Aq e8 r) /\ b' = []) := by
 unfold Dj.F at G
 refine Fn.of Tryz.func160 rfl rfl rfl fun w0 I ρ0 => ?_
 show B2 _ ⟨w0, I, ρ0, 0, 0, 34⟩ _ _ _
 refine Bh 0 16 A5 fun B => ?_
 refine B9 16 56 B ?_
 refine C0 rfl rfl (Em Lg z5 (by decide) rfl rfl rfl rfl iR (cs := []) .nil rfl (l := ([] : List UInt8)) (f := e8) rfl) rfl rfl ?_
 refine Aw ?_
 obtain ⟨l, hl, G⟩ := Ab G
 refine Gd (rd := [16]) rfl rfl (D5 Lg Jb .row rfl .sl rfl hl rfl) rfl rfl ?_
 refine Bj fun B => ?_
 refine Aj <| Bh 56 64 B fun B => ?_
 refine Ap <| Jy (fun ((i_1, b_1) : Int × List UInt8) => mk [(1, .ptr 0 0), (3, .row 1), (4, vk i_1)] [(0, .box (Ah.dv v) 171), (1, .row 5 1 (Aq e8 b_1))] 2) G (A1 [(0, 0), (1, 40)]) ?_
 rintro ⟨i_1, b_1⟩ m1 o1 G hn1
 replace G : Dj.l1 rec v i_1 b_1 = some o1 := G
 show B2 _ _ _ _ (mk _ _ _)
 unfold Dj.l1 at G
 refine Aj <| Bh 2 42 A5 fun B => ?_
 refine C4 rfl G (fun h5 G => ?_) fun h5 G => ?_
 refine Dg ?_
 refine Aj <| Ap <| Ak (B8 _ _ []) 42 114 B rfl rfl ?_
 refine Aw ?_
 obtain ⟨e, he, G⟩ := Ab G
 refine Aw ?_
 refine C0 rfl rfl (Eb eP (In Ah.enc_len (Cw he) (o := 0) (m := 4) (cs := [.int .i64 e.Tag, .sl 1 (Aq e8 e.Bytes), .bool e.Nested, .sl 4 (Aq Ah.enc e.Elements)]) (by simp only [Ah.enc_eq]; rfl) (by decide) rfl) (Fh Ah.enc_len (Cw he) (o := 0) (m := 4) (by decide) rfl)) rfl rfl ?_
 obtain ⟨y, hy, G⟩ := Ab G
 refine Do (hrec _ _ hy) ?_
 obtain ⟨l_2, hl_2, G⟩ := Ab G
 refine Gd (rd := [1]) rfl rfl (D5 Lg Jb .row rfl .sl rfl hl_2 rfl) rfl rfl ?_
 refine Bj fun B => ?_
 refine Ak (B8 _ _ []) 114 138 B rfl rfl ?_
 refine Bj fun B => ?_
 obtain rfl := oi_ G
 exact ⟨((W (i_1 + 1), l_2), m1), Nat.lt_succ_self _, hn1, A1 [(0, 0), (1, 98)]⟩
 refine Jl ?_
 replace G := Cn G hn1
 refine Aj <| Bq (B8 _ _ []) (by kernel_rfl) [0, 1, 3, 7, 0, 16, 48, 127, 0, 511, 1023] 42 130 B rfl rfl (by kernel_rfl) ?_
 refine Aw ?_
 refine C0 rfl rfl (E2 L5 Mc) rfl rfl ?_
 refine Kh Lg z5 iR ([(u8 v.Tag)] : List UInt8) e8 ?_
 refine Aw ?_
 obtain ⟨y_2, hy_2, G⟩ := Ab G
 refine Do (Yf _ _ hy_2) ?_
 obtain ⟨l_3, hl_3, G⟩ := Ab G
 refine Gd (rd := [66]) rfl rfl (D5 Lg Jb .row rfl .sl rfl hl_3 rfl) rfl rfl ?_
 refine Aw ?_
 obtain ⟨l_4, hl_4, G⟩ := Ab G
 refine Gd (rd := [98, 1]) rfl rfl (D5 Lg Jb .row rfl .row rfl hl_4 rfl) rfl rfl ?_
 exact De
theorem Ru (v : Ah) (r : (List UInt8)) (G : Dj v = some r) : Fn Tryz.prog 160 0 [.agg (Ah.dv v)] [] (fun d' b' => d' = .sl 1 (Aq e8 r) /\ b' = []) :=
 Rn (motive := fun (x : Ah) (r : (List UInt8)) => Fn Tryz.prog 160 0 [.agg (Ah.dv x)] [] (fun d' b' => d' = .sl 1 (Aq e8 r) /\ b' = [])) (fun rec hrec x r h => Ru.F _ (fun v r h => hrec v r h) x r h) v r G
theorem Yk (v : Ah) (r : (List UInt8) × Int) (G : Jr v = some r) : Fn Tryz.prog 146 0 [.agg (Ah.dv v)] [] (fun d' b' => d' = .tup [.sl 1 (Aq e8 r.1), vk r.2] /\ b' = []) := by
 unfold Jr at G
 refine Fn.of Tryz.func146 rfl rfl rfl fun w0 I ρ0 => ?_
 show B2 _ ⟨w0, I, ρ0, 0, 0, 17⟩ _ _ _
 refine Bh 0 24 A5 fun B => ?_
 refine Aj <| B9 24 48 B ?_
 refine Aw ?_
 obtain ⟨y, hy, G⟩ := Ab G
 refine Do (M9 _ _ hy) ?_
 refine Bj fun B => ?_
 refine C4 rfl G (fun h3 G => ?_) fun h3 G => ?_
 refine B9 48 64 B ?_
 exact De
 refine Dg ?_
 refine Aj <| B9 48 72 B ?_
 refine Aw ?_
 obtain ⟨y_2, hy_2, G⟩ := Ab G
 refine Do (O0 _ _ hy_2) ?_
 refine Bj fun B => ?_
 refine C4 rfl G (fun h6 G => ?_) fun h6 G => ?_
 refine B9 72 88 B ?_
 exact De
 refine Dg ?_
 refine B9 72 96 B ?_
 refine Aw ?_
 obtain ⟨y_3, hy_3, G⟩ := Ab G
 refine Do (Ru _ _ hy_3) ?_
 refine Bj fun B => ?_
 refine Aj <| Bh 96 120 B fun B => ?_
 refine C4 rfl G (fun h10 G => ?_) fun h10 G => ?_
 refine B9 120 136 B ?_
 exact De
 refine Dg ?_
 refine Bh 120 144 B fun B => ?_
 exact La
theorem Zw (c : Af) (r : (List UInt8) × Int) (G : I8 c = some r) : Fn Tryz.prog 127 0 [.agg (Af.dv c)] [] (fun d' b' => d' = .tup [.sl 1 (Aq e8 r.1), vk r.2] /\ b' = []) := by
 unfold I8 at G
 refine Fn.of Tryz.func127 rfl rfl rfl fun w0 I ρ0 => ?_
 show B2 _ ⟨w0, I, ρ0, 0, 0, 12⟩ _ _ _
 refine Bh 0 24 A5 fun B => ?_
 refine Aj <| B9 24 48 B ?_
 refine Aw ?_
 obtain ⟨y, hy, G⟩ := Ab G
 refine Do (Tb _ _ hy) ?_
 refine Bj fun B => ?_
 refine C4 rfl G (fun h3 G => ?_) fun h3 G => ?_
 refine B9 48 64 B ?_
 exact De
 refine Dg ?_
 refine B9 48 104 B ?_
 refine Aw ?_
 obtain ⟨y_2, hy_2, G⟩ := Ab G
 refine Do (bH _ _ hy_2) ?_
 obtain ⟨y_3, hy_3, G⟩ := Ab G
 refine Do (Yk _ _ hy_3) ?_
 exact De
theorem fV (b : (List UInt8)) (r : Int) (G : E8 b = some r) : Fn Tryz.prog 128 0 [.sl 1 (Aq e8 b)] [] (fun d' b' => d' = vk r /\ b' = []) := by
 unfold E8 at G
 refine Fn.of Tryz.func128 rfl rfl rfl fun w0 I ρ0 => ?_
 show B2 _ ⟨w0, I, ρ0, 0, 0, 21⟩ _ _ _
 refine Bh 0 8 A5 fun B => ?_
 refine Bh 8 16 B fun B => ?_
 refine Aj <| Bh 16 24 B fun B => ?_
 refine Ap <| Jy (fun ((h_1, i_1) : Int × Int) => mk [(0, .sl 1 (Aq e8 b)), (3, .val (.int .u32 h_1)), (4, vk i_1)] [] 0) G (A1 []) ?_
 rintro ⟨h_1, i_1⟩ m1 o1 G hn1
 replace G : E8.l1 b h_1 i_1 = some o1 := G
 show B2 _ _ _ _ (mk _ _ _)
 unfold E8.l1 at G
 refine Aj <| Bh 0 32 A5 fun B => ?_
 refine C4 rfl G (fun h5 G => ?_) fun h5 G => ?_
 refine Dg ?_
 refine Aj <| Ap <| Ak (B8 _ _ []) 32 104 B rfl rfl ?_
 refine Aw ?_
 obtain ⟨e, he, G⟩ := Ab G
 refine Aw ?_
 refine Ra he ?_
 refine C0 rfl rfl (Xf Mc rF) rfl rfl ?_
 refine C0 rfl rfl bU rfl rfl ?_
 refine C0 rfl rfl zL rfl rfl ?_
 refine Bj fun B => ?_
 refine Ak (B8 _ _ []) 104 128 B rfl rfl ?_
 refine Bj fun B => ?_
 obtain rfl := oi_ G
 exact ⟨((IntKind.wrap .u32 ((Pa .u32 h_1 (IntKind.wrap .u32 (e.toNat : Int))) * 16777619), W (i_1 + 1)), m1), Nat.lt_succ_self _, hn1, A1 []⟩
 refine Jl ?_
 replace G := Cn G hn1
 refine B9 32 56 B ?_
 refine Aw ?_
 refine C0 rfl rfl (Y7 rF L5) rfl rfl ?_
 exact De
theorem cK (c : Af) (key : Int) (r : Af × Int) (G : E1 c key = some r) : Fn Tryz.prog 89 0 [.agg (Af.dv c), vk key] [] (fun d' b' => d' = .tup [.agg (Af.dv r.1), vk r.2] /\ b' = []) := by
 unfold E1 at G
 refine Fn.of Tryz.func89 rfl rfl rfl fun w0 I ρ0 => ?_
 show B2 _ ⟨w0, I, ρ0, 0, 0, 35⟩ _ _ _
 refine Bh 0 24 A5 fun B => ?_
 refine B9 24 48 B ?_
 refine Aw ?_
 obtain ⟨y, hy, G⟩ := Ab G
 refine Do (T6 _ _ hy) ?_
 refine Bj fun B => ?_
 refine B9 48 72 B ?_
 refine Qz cB vT aAx ?_
 refine Bj fun B => ?_
 refine Aj <| Bo (ι := Bool) (fun (x22_1 : Bool) => mk [(1, vk key), (2, .ptr 0 0), (4, .ptr 1 0), (22, .val (.bool x22_1))] [(0, .box [vk y.Serial, ws y.Issuer, ws y.Subject, vk y.Key.Alg, vk y.Key.Bits, vk y.KeyId, vk y.Hash.Alg, vk y.Hash.Bits, vk y.From, vk y.To, .val (.bool y.Authority), vk y.Path, .sl 1 (Aq eS y.Names), .val (.int .i64 0), .val (.int .i64 0)] 107), (1, .box [.val (.int .i64 0), .val (.string (⟨#[]⟩ : ByteArray)), .val (.string (⟨#[]⟩ : ByteArray)), .val (.int .i64 0), .val (.int .i64 0), .val (.int .i64 0), .val (.int .i64 0), .val (.int .i64 0), .val (.int .i64 0), .val (.int .i64 0), .val (.bool false), .val (.int .i64 0), .val (.slice none 0 0), .val (.int .i64 0), .val (.int .i64 0)] 107)] 2) (fun (x22_1 : Bool) => E1.j1 key y x22_1 = some r) ?_ ?_
 refine Ak (B8 _ _ []) 72 160 B rfl rfl ?_
 refine Aw ?_
 obtain ⟨y_2, hy_2, G⟩ := Ab G
 refine Do (Tb _ _ hy_2) ?_
 refine Aw ?_
 rcases D9 G with ⟨h4, G⟩ | ⟨h4, G⟩
 refine Bj fun B => ?_
 exact ⟨true, G, A1 [(0, 0), (1, 8)]⟩
 refine Aw ?_
 rcases D9 G with ⟨h6, G⟩ | ⟨h6, G⟩
 refine Bj fun B => ?_
 exact ⟨true, G, A1 [(0, 0), (1, 8)]⟩
 refine Bj fun B => ?_
 exact ⟨decide (2147483648 < key), G, A1 [(0, 0), (1, 8)]⟩
 rintro x22_1 G
 replace G : E1.j1 key y x22_1 = some r := G
 show B2 _ _ _ _ (mk _ _ _)
 unfold E1.j1 at G
 refine C4 rfl G (fun h9 G => ?_) fun h9 G => ?_
 refine B9 2 26 A5 ?_
 refine C0 rfl rfl (.build (r := [.val (.int .i64 0), .val (.string (⟨#[]⟩ : ByteArray)), .val (.string (⟨#[]⟩ : ByteArray)), .val (.int .i64 0), .val (.int .i64 0), .val (.int .i64 0), .val (.int .i64 0), .val (.int .i64 0), .val (.int .i64 0), .val (.int .i64 0), .val (.bool false), .val (.int .i64 0), .val (.slice none 0 0), .val (.int .i64 0), .val (.int .i64 0)]) Kz vH lG (by kernel_rfl) rfl) rfl rfl ?_
 exact De
 refine Dg ?_
 refine B9 2 58 A5 ?_
 refine Aw ?_
 obtain ⟨y_3, hy_3, G⟩ := Ab G
 refine Do (Zw _ _ hy_3) ?_
 refine Bj fun B => ?_
 refine B9 58 106 B ?_
 refine Aw ?_
 obtain ⟨y_4, hy_4, G⟩ := Ab G
 refine Do (fV _ _ hy_4) ?_
 refine Qz cB vT aAx ?_
 refine Bj fun B => ?_
 refine Bh 106 130 B fun B => ?_
 exact La
theorem Of (d : Ad) (issuer : ByteArray) (subject : ByteArray) (key : As) (id : Int) (signer : Int) (authority : Bool) (r : Af × Ad) (G : By d issuer subject key id signer authority = some r) : Fn Tryz.prog 60 1 [.ptr 0 0, ws issuer, ws subject, .agg [vk key.Alg, vk key.Bits], vk id, vk signer, .val (.bool authority)] [.box [.sl 1 (Aq eI d.L), vk d.At] 66] (fun d' b' => d' = .agg (Af.dv r.1) /\ b' = [.box [.sl 1 (Aq eI r.2.L), vk r.2.At] 66]) := by
 unfold By at G
 refine Fn.of Tryz.func60 rfl rfl rfl fun w0 I ρ0 => ?_
 show B2 _ ⟨w0, I, ρ0, 1, 1, 58⟩ _ _ _
 refine Bh 1 17 A5 fun B => ?_
 refine Aj <| Bq (B8 _ _ [73, 105, 129]) (by kernel_rfl) [0, 1, 0, 0, 0, 0, 0, 0, 195, 451, 0, 0, 3523, 0, 0, 32195, 0, 131071, 0, 524287] 17 177 B rfl rfl (by kernel_rfl) ?_
 refine Aw ?_
 obtain ⟨y, hy, G⟩ := Ab G
 refine Ig [0] [0] [] false (Cg _ _ _ hy) ?_
 refine Aw ?_
 refine Tt Ek z3 Jv ([3, 2, 4, 1] : List Int) eI ?_
 obtain ⟨y_2, hy_2, G⟩ := Ab G
 refine Ig [0] [0] [] false (C8 _ _ _ hy_2) ?_
 refine Qz Iu Mm Vf ?_
 refine Aw ?_
 refine Tt Ek z3 Jv ([0, 5, 10] : List Int) eI ?_
 obtain ⟨y_3, hy_3, G⟩ := Ab G
 refine Ig [0] [0] [] false (C8 _ _ _ hy_3) ?_
 refine Aw ?_
 refine Tt Ek z3 Jv ([1000, 100, 50, 20] : List Int) eI ?_
 obtain ⟨y_4, hy_4, G⟩ := Ab G
 refine Ig [0] [0] [] false (C8 _ _ _ hy_4) ?_
 refine Aw ?_
 refine C0 rfl rfl (.build (r := [vk y.1, ws issuer, ws subject, vk key.Alg, vk key.Bits, vk id, vk y_2.1, .val (.int .i64 0), vk y_3.1, vk y_4.1, .val (.bool authority), .val (.int .i64 0), .val (.slice none 0 0), .val (.int .i64 0), .val (.int .i64 0)]) Kz vH lG (by kernel_rfl) rfl) rfl rfl ?_
 refine Bj fun B => ?_
 refine Bo (ι := Ad × Int) (fun ((d_1, c_1) : Ad × Int) => mk [(0, .ptr 0 0), (2, ws subject), (5, vk signer), (14, .ptr 1 0), (15, .ptr 2 0)] [(0, .box [.sl 1 (Aq eI d_1.L), vk d_1.At] 66), (1, .box [.val (.int .i64 0), .val (.string (⟨#[]⟩ : ByteArray)), .val (.string (⟨#[]⟩ : ByteArray)), .val (.int .i64 0), .val (.int .i64 0), .val (.int .i64 0), .val (.int .i64 0), .val (.int .i64 0), .val (.int .i64 0), .val (.int .i64 0), .val (.bool false), .val (.int .i64 0), .val (.slice none 0 0), .val (.int .i64 0), .val (.int .i64 0)] 107), (2, .box [vk y.1, ws issuer, ws subject, vk key.Alg, vk key.Bits, vk id, vk y_2.1, .val (.int .i64 0), vk y_3.1, vk y_4.1, .val (.bool authority), vk c_1, .val (.slice none 0 0), .val (.int .i64 0), .val (.int .i64 0)] 107)] 3) (fun ((d_1, c_1) : Ad × Int) => By.j1 issuer subject key id signer authority y y_2 y_3 y_4 d_1 c_1 = some r) ?_ ?_
 refine Bh 177 185 B fun B => ?_
 refine C4 rfl G (fun h4 G => ?_) fun h4 G => ?_
 refine Ak (B8 _ _ [193]) 185 225 B rfl rfl ?_
 refine Aw ?_
 refine Tt Ek z3 Jv ([3, 0, 1] : List Int) eI ?_
 obtain ⟨y_5, hy_5, G⟩ := Ab G
 refine Ig [0] [0] [] false (C8 _ _ _ hy_5) ?_
 refine Bj fun B => ?_
 exact ⟨(y_5.2, y_5.1), G, A1 [(0, 0), (1, 9), (2, 161)]⟩
 refine Dg ?_
 exact ⟨(y_4.2, 0), G, A1 [(0, 0), (1, 9), (2, 161)]⟩
 rintro ⟨d_1, c_1⟩ G
 replace G : By.j1 issuer subject key id signer authority y y_2 y_3 y_4 d_1 c_1 = some r := G
 show B2 _ _ _ _ (mk _ _ _)
 unfold By.j1 at G
 refine B9 3 35 A5 ?_
 refine Aw ?_
 refine Kh Zr z9 wU ([subject] : List ByteArray) eS ?_
 refine Bj fun B => ?_
 refine Bo (ι := Ad × List ByteArray) (fun ((b_2, l_2) : Ad × List ByteArray) => mk [(5, vk signer), (14, .ptr 1 0), (15, .ptr 2 0)] [(0, .box [.sl 1 (Aq eI b_2.L), vk b_2.At] 66), (1, .box [.val (.int .i64 0), .val (.string (⟨#[]⟩ : ByteArray)), .val (.string (⟨#[]⟩ : ByteArray)), .val (.int .i64 0), .val (.int .i64 0), .val (.int .i64 0), .val (.int .i64 0), .val (.int .i64 0), .val (.int .i64 0), .val (.int .i64 0), .val (.bool false), .val (.int .i64 0), .val (.slice none 0 0), .val (.int .i64 0), .val (.int .i64 0)] 107), (2, .box [vk y.1, ws issuer, ws subject, vk key.Alg, vk key.Bits, vk id, vk y_2.1, .val (.int .i64 0), vk y_3.1, vk y_4.1, .val (.bool authority), vk c_1, .row 3, .val (.int .i64 0), .val (.int .i64 0)] 107), (3, .row 9 1 (Aq eS l_2))] 4) (fun ((b_2, l_2) : Ad × List ByteArray) => By.j2 issuer subject key id signer authority y y_2 y_3 y_4 c_1 b_2 l_2 = some r) ?_ ?_
 refine B9 35 51 B ?_
 refine Aw ?_
 obtain ⟨y_6, hy_6, G⟩ := Ab G
 refine Ig [0] [0] [] false (I4 _ _ _ hy_6) ?_
 refine Gk fun B => ?_
 refine C4 rfl G (fun h8 G => ?_) fun h8 G => ?_
 refine Ak (B8 _ _ []) 51 115 B rfl rfl ?_
 refine Aw ?_
 obtain ⟨s, hs, G⟩ := Ab G
 refine C0 rfl rfl (aDc hs) rfl rfl ?_
 refine Kh Zr z9 wU ([s] : List ByteArray) eS ?_
 obtain ⟨l, hl, G⟩ := Ab G
 refine Gd (rd := [11, 83]) rfl rfl (D5 Zr cW .row rfl .row rfl hl rfl) rfl rfl ?_
 refine Bj fun B => ?_
 exact ⟨(y_6.2, l), G, A1 [(0, 0), (1, 1), (2, 2), (3, 91)]⟩
 refine Dg ?_
 exact ⟨(y_6.2, ([subject] : List ByteArray)), G, A1 [(0, 0), (1, 1), (2, 2), (3, 11)]⟩
 rintro ⟨b_2, l_2⟩ G
 replace G : By.j2 issuer subject key id signer authority y y_2 y_3 y_4 c_1 b_2 l_2 = some r := G
 show B2 _ _ _ _ (mk _ _ _)
 unfold By.j2 at G
 refine Aj <| E3 (σ' := mk [(5, vk signer), (14, .ptr 1 0), (15, .ptr 2 0)] [(0, .box [.sl 1 (Aq eI b_2.L), vk b_2.At] 66), (1, .box [.val (.int .i64 0), .val (.string (⟨#[]⟩ : ByteArray)), .val (.string (⟨#[]⟩ : ByteArray)), .val (.int .i64 0), .val (.int .i64 0), .val (.int .i64 0), .val (.int .i64 0), .val (.int .i64 0), .val (.int .i64 0), .val (.int .i64 0), .val (.bool false), .val (.int .i64 0), .val (.slice none 0 0), .val (.int .i64 0), .val (.int .i64 0)] 107), (2, .box [vk y.1, ws issuer, ws subject, vk key.Alg, vk key.Bits, vk id, vk y_2.1, .val (.int .i64 0), vk y_3.1, vk y_4.1, .val (.bool authority), vk c_1, .sl 1 (Aq eS l_2), .val (.int .i64 0), .val (.int .i64 0)] 107)] 3) (A1 [(0, 0), (1, 1), (2, 2)]) ?_
 refine Ak (B8 _ _ []) 3 59 A5 rfl rfl ?_
 refine Aw ?_
 obtain ⟨y_7, hy_7, G⟩ := Ab G
 refine Do (cK _ _ _ hy_7) ?_
 refine Bj fun B => ?_
 refine Bh 59 75 B fun B => ?_
 refine Fg ?_
 obtain rfl := oi_ G
 exact Gr [(0, 0)] ⟨rfl, rfl⟩
end Go.Proofs.YtidpkjdkfkkgiaaGreat
