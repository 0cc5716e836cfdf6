import Derived.Test.YtkoflhimdenjaaaGreatT1
import Derived.Test.YtkoflhimdenjaaaGreatA1
import Derived.Test.YtkoflhimdenjaaaGreatA3
import Derived.Test.YtkoflhimdenjaaaGreatA4
set_option linter.unusedVariables false
set_option linter.unusedSimpArgs false
set_option maxRecDepth 100000
set_option maxHeartbeats 1600000
namespace Go.Proofs.YtkoflhimdenjaaaGreat
open Go.RowKit
theorem V1 (code : Int) (r : A7 × Int) (G : D3 code = some r) : Fn Tryz.prog 136 0 [vk code] [] (fun d' b' => d' = .tup [.agg (A7.dv r.1), vk r.2] /\ b' = []) := by
 unfold D3 at G
 refine Fn.of Tryz.func136 rfl rfl rfl fun w0 I ρ0 => ?_
 show B4 _ ⟨w0, I, ρ0, 0, 0, 20⟩ _ _ _
 refine Bk 0 16 A8 fun B => ?_
 refine B8 16 32 B ?_
 obtain ⟨y, hy, G⟩ := Ac G
 refine Dz (Ut _ hy) ?_
 refine Bq fun B => ?_
 refine Ak <| Bw (ι := Bool) (fun (x13_1 : Bool) => mk [(0, vk code), (2, .ptr 0 0), (4, .sl 12 (Aq A7.enc y)), (13, .val (.bool x13_1))] [(0, .box [.val (.int .i64 0), .val (.string (⟨#[]⟩ : ByteArray)), .val (.int .i64 0), .val (.int .i64 0), .val (.int .i64 0), .val (.int .i64 0), .val (.int .i64 0), .val (.int .i64 0), .val (.int .i64 0), .val (.int .i64 0), .val (.int .i64 0), .val (.int .i64 0)] 152)] 1) (fun (x13_1 : Bool) => D3.j1 code y x13_1 = some r) ?_ ?_
 refine An (Cj _ _ []) 32 96 B rfl rfl ?_
 refine A6 ?_
 rcases Ef G with ⟨h3, G⟩ | ⟨h3, G⟩
 refine Bq fun B => ?_
 exact ⟨true, G, Bc [(0, 0)]⟩
 refine Bq fun B => ?_
 exact ⟨decide ((y.length : Int) < code), G, Bc [(0, 0)]⟩
 rintro x13_1 G
 replace G : D3.j1 code y x13_1 = some r := G
 show B4 _ _ _ _ (mk _ _ _)
 unfold D3.j1 at G
 refine C5 rfl G (fun h6 G => ?_) fun h6 G => ?_
 refine B8 1 25 A8 ?_
 refine Cr rfl rfl (.build (r := [.val (.int .i64 0), .val (.string (⟨#[]⟩ : ByteArray)), .val (.int .i64 0), .val (.int .i64 0), .val (.int .i64 0), .val (.int .i64 0), .val (.int .i64 0), .val (.int .i64 0), .val (.int .i64 0), .val (.int .i64 0), .val (.int .i64 0), .val (.int .i64 0)]) I4 Lj Pm (by kernel_rfl) rfl) rfl rfl ?_
 exact C6
 refine Dd ?_
 refine B8 1 57 A8 ?_
 refine A6 ?_
 obtain ⟨e, he, G⟩ := Ac G
 refine A6 ?_
 refine lH he ?_
 exact C6
theorem Ti (l : (List Int)) (r : Bool) (G : Cb l = some r) : Fn Tryz.prog 102 0 [.sl 1 (Aq eI l)] [] (fun d' b' => d' = .val (.bool r) /\ b' = []) := by
 unfold Cb at G
 refine Fn.of Tryz.func102 rfl rfl rfl fun w0 I ρ0 => ?_
 show B4 _ ⟨w0, I, ρ0, 0, 0, 29⟩ _ _ _
 refine Bk 0 8 A8 fun B => ?_
 refine Ak <| Bk 8 32 B fun B => ?_
 refine Ar <| J3 (fun (x9_1 : Int) => mk [(0, .sl 1 (Aq eI l)), (7, .sl 1 (Aq eI l)), (8, .val (.int .i64 (l.length : Int))), (9, vk x9_1)] [] 0) G (Bc []) ?_
 rintro x9_1 m1 o1 G hn1
 replace G : Cb.l1 l x9_1 = some o1 := G
 show B4 _ _ _ _ (mk _ _ _)
 unfold Cb.l1 at G
 refine Bk 0 8 A8 fun B => ?_
 refine Ak <| C5 rfl G (fun h4 G => ?_) fun h4 G => ?_
 refine Dd ?_
 refine Ak <| Ar <| B8 8 48 B ?_
 refine A6 ?_
 obtain ⟨e, he, G⟩ := Ac G
 refine A6 ?_
 refine Vw he ?_
 refine Bq fun B => ?_
 refine B8 48 112 B ?_
 refine A6 ?_
 obtain ⟨y, hy, G⟩ := Ac G
 refine Dz (V1 _ _ hy) ?_
 refine Bq fun B => ?_
 refine Bw (ι := Bool) (fun (x27_2 : Bool) => mk [(0, .sl 1 (Aq eI l)), (7, .sl 1 (Aq eI l)), (8, .val (.int .i64 (l.length : Int))), (9, vk x9_1), (27, .val (.bool x27_2))] [] 0) (fun (x27_2 : Bool) => Cb.j2 x9_1 x27_2 = some o1) ?_ ?_
 refine An (Cj _ _ []) 112 184 B rfl rfl ?_
 refine A6 ?_
 rcases Ef G with ⟨h7, G⟩ | ⟨h7, G⟩
 refine Bq fun B => ?_
 exact ⟨true, G, Bc []⟩
 refine A6 ?_
 obtain ⟨l_2, hl_2, G⟩ := Ac G
 refine Cr (Fm rfl rfl h7) rfl (kL G6 Xu hl_2) rfl rfl ?_
 refine A6 ?_
 obtain ⟨y_2, hy_2, G⟩ := Ac G
 refine Dz (Hp _ _ _ hy_2) ?_
 refine Bq fun B => ?_
 exact ⟨y_2, G, Bc []⟩
 rintro x27_2 G
 replace G : Cb.j2 x9_1 x27_2 = some o1 := G
 show B4 _ _ _ _ (mk _ _ _)
 unfold Cb.j2 at G
 refine C5 rfl G (fun h10 G => ?_) fun h10 G => ?_
 refine Bk 0 8 A8 fun B => ?_
 refine F3 ?_
 replace G := Cm G hn1
 exact bE
 refine Dd ?_
 refine An (Cj _ _ []) 0 16 A8 rfl rfl ?_
 refine Bq fun B => ?_
 obtain rfl := oi_ G
 exact ⟨(W (x9_1 + 1), m1), Nat.lt_succ_self _, hn1, Bc []⟩
 refine Ju ?_
 replace G := Cm G hn1
 refine Bk 8 16 B fun B => ?_
 exact Lz
theorem Nc (l : (List Int)) (r : Bool) (G : B1 l = some r) : Fn Tryz.prog 103 0 [.sl 1 (Aq eI l)] [] (fun d' b' => d' = .val (.bool r) /\ b' = []) := by
 unfold B1 at G
 refine Fn.of Tryz.func103 rfl rfl rfl fun w0 I ρ0 => ?_
 show B4 _ ⟨w0, I, ρ0, 0, 0, 24⟩ _ _ _
 refine Bk 0 8 A8 fun B => ?_
 refine Ak <| Bk 8 32 B fun B => ?_
 refine Ar <| J3 (fun (x6_1 : Int) => mk [(0, .sl 1 (Aq eI l)), (5, .val (.int .i64 (l.length : Int))), (6, vk x6_1)] [] 0) G (Bc []) ?_
 rintro x6_1 m1 o1 G hn1
 replace G : B1.l1 l x6_1 = some o1 := G
 show B4 _ _ _ _ (mk _ _ _)
 unfold B1.l1 at G
 refine Bk 0 8 A8 fun B => ?_
 refine Ak <| C5 rfl G (fun h4 G => ?_) fun h4 G => ?_
 refine Dd ?_
 refine Ak <| Ar <| Bk 8 24 B fun B => ?_
 refine Bw (ι := Bool) (fun (x22_2 : Bool) => mk [(0, .sl 1 (Aq eI l)), (5, .val (.int .i64 (l.length : Int))), (6, vk x6_1), (22, .val (.bool x22_2))] [] 0) (fun (x22_2 : Bool) => B1.j2 x6_1 x22_2 = some o1) ?_ ?_
 refine Bv (Cj _ _ []) (by kernel_rfl) [0, 1, 3, 7, 7, 23, 63, 127, 7, 7, 775, 1799, 4095, 8191] 24 136 B rfl rfl (by kernel_rfl) ?_
 refine A6 ?_
 rcases Ef G with ⟨h6, G⟩ | ⟨h6, G⟩
 refine A6 ?_
 obtain ⟨e, he, G⟩ := Ac G
 refine A6 ?_
 refine Vw he ?_
 refine A6 ?_
 obtain ⟨e_2, he_2, G⟩ := Ac G
 refine A6 ?_
 refine Vw he_2 ?_
 refine Bq fun B => ?_
 exact ⟨decide (e_2 <= e), G, Bc []⟩
 refine Bq fun B => ?_
 exact ⟨false, G, Bc []⟩
 rintro x22_2 G
 replace G : B1.j2 x6_1 x22_2 = some o1 := G
 show B4 _ _ _ _ (mk _ _ _)
 unfold B1.j2 at G
 refine C5 rfl G (fun h9 G => ?_) fun h9 G => ?_
 refine Bk 0 8 A8 fun B => ?_
 refine F3 ?_
 replace G := Cm G hn1
 exact bE
 refine Dd ?_
 refine An (Cj _ _ []) 0 16 A8 rfl rfl ?_
 refine Bq fun B => ?_
 obtain rfl := oi_ G
 exact ⟨(W (x6_1 + 1), m1), Nat.lt_succ_self _, hn1, Bc []⟩
 refine Ju ?_
 replace G := Cm G hn1
 refine Bk 8 16 B fun B => ?_
 exact Lz
theorem I7 (n : Int) (r : Bool) (G : Eb n = some r) : Fn Tryz.prog 108 0 [vk n] [] (fun d' b' => d' = .val (.bool r) /\ b' = []) := by
 unfold Eb at G
 refine Fn.of Tryz.func108 rfl rfl rfl fun w0 I ρ0 => ?_
 show B4 _ ⟨w0, I, ρ0, 0, 0, 9⟩ _ _ _
 refine Bk 0 8 A8 fun B => ?_
 refine B8 8 64 B ?_
 refine A6 ?_
 rcases Ef G with ⟨h2, G⟩ | ⟨h2, G⟩
 exact C6
 exact C6
theorem R2 (l : (List ByteArray)) (r : Bool) (G : Bt l = some r) : Fn Tryz.prog 203 0 [.sl 1 (Aq eS l)] [] (fun d' b' => d' = .val (.bool r) /\ b' = []) := by
 unfold Bt at G
 refine Fn.of Tryz.func203 rfl rfl rfl fun w0 I ρ0 => ?_
 show B4 _ ⟨w0, I, ρ0, 0, 0, 32⟩ _ _ _
 refine Bk 0 8 A8 fun B => ?_
 refine Ak <| Bk 8 32 B fun B => ?_
 refine Ar <| J3 (fun (x7_1 : Int) => mk [(0, .sl 1 (Aq eS l)), (5, .sl 1 (Aq eS l)), (6, .val (.int .i64 (l.length : Int))), (7, vk x7_1)] [] 0) G (Bc []) ?_
 rintro x7_1 m1 o1 G hn1
 replace G : Bt.l1 l x7_1 = some o1 := G
 show B4 _ _ _ _ (mk _ _ _)
 unfold Bt.l1 at G
 refine Bk 0 8 A8 fun B => ?_
 refine Ak <| C5 rfl G (fun h4 G => ?_) fun h4 G => ?_
 refine Dd ?_
 refine Ak <| Ar <| B8 8 48 B ?_
 refine A6 ?_
 obtain ⟨e, he, G⟩ := Ac G
 refine A6 ?_
 refine Vw he ?_
 refine Bq fun B => ?_
 refine Bw (ι := Bool) (fun (x27_2 : Bool) => mk [(0, .sl 1 (Aq eS l)), (5, .sl 1 (Aq eS l)), (6, .val (.int .i64 (l.length : Int))), (7, vk x7_1), (27, .val (.bool x27_2))] [] 0) (fun (x27_2 : Bool) => Bt.j2 x7_1 x27_2 = some o1) ?_ ?_
 refine An (Cj _ _ []) 48 176 B rfl rfl ?_
 refine A6 ?_
 obtain ⟨y, hy, G⟩ := Ac G
 refine Dz (Hy _ _ hy) ?_
 refine A6 ?_
 rcases Ef G with ⟨h6, G⟩ | ⟨h6, G⟩
 refine Bq fun B => ?_
 exact ⟨true, G, Bc []⟩
 refine A6 ?_
 rcases Ef G with ⟨h8, G⟩ | ⟨h8, G⟩
 refine A6 ?_
 obtain ⟨e_2, he_2, G⟩ := Ac G
 refine A6 ?_
 refine Vw he_2 ?_
 refine A6 ?_
 refine Cr (Fm rfl rfl h8) rfl nT rfl rfl ?_
 refine Bq fun B => ?_
 exact ⟨!Lu (Jc e_2) (Jc e), G, Bc []⟩
 refine Bq fun B => ?_
 exact ⟨false, G, Bc []⟩
 rintro x27_2 G
 replace G : Bt.j2 x7_1 x27_2 = some o1 := G
 show B4 _ _ _ _ (mk _ _ _)
 unfold Bt.j2 at G
 refine C5 rfl G (fun h11 G => ?_) fun h11 G => ?_
 refine Bk 0 8 A8 fun B => ?_
 refine F3 ?_
 replace G := Cm G hn1
 exact bE
 refine Dd ?_
 refine An (Cj _ _ []) 0 16 A8 rfl rfl ?_
 refine Bq fun B => ?_
 obtain rfl := oi_ G
 exact ⟨(W (x7_1 + 1), m1), Nat.lt_succ_self _, hn1, Bc []⟩
 refine Ju ?_
 replace G := Cm G hn1
 refine Bk 8 40 B fun B => ?_
 exact Lz
theorem O3 (u : Aw) (kind : Int) (r : Bool) (G : G8 u kind = some r) : Fn Tryz.prog 204 0 [.agg [vk u.Alg, vk u.Bits], vk kind] [] (fun d' b' => d' = .val (.bool r) /\ b' = []) := by
 unfold G8 at G
 refine Fn.of Tryz.func204 rfl rfl rfl fun w0 I ρ0 => ?_
 show B4 _ ⟨w0, I, ρ0, 0, 0, 14⟩ _ _ _
 refine Bk 0 16 A8 fun B => ?_
 refine B8 16 96 B ?_
 refine A6 ?_
 obtain ⟨y, hy, G⟩ := Ac G
 refine Dz (Jv _ _ hy) ?_
 refine A6 ?_
 rcases Ef G with ⟨h2, G⟩ | ⟨h2, G⟩
 refine A6 ?_
 obtain ⟨y_2, hy_2, G⟩ := Ac G
 refine Dz (Kl _ _ hy_2) ?_
 exact C6
 exact C6
theorem Tc (n : Int) (r : Bool) (G : H2 n = some r) : Fn Tryz.prog 205 0 [vk n] [] (fun d' b' => d' = .val (.bool r) /\ b' = []) := by
 unfold H2 at G
 refine Fn.of Tryz.func205 rfl rfl rfl fun w0 I ρ0 => ?_
 show B4 _ ⟨w0, I, ρ0, 0, 0, 9⟩ _ _ _
 refine Bk 0 8 A8 fun B => ?_
 refine B8 8 64 B ?_
 refine A6 ?_
 rcases Ef G with ⟨h2, G⟩ | ⟨h2, G⟩
 exact C6
 exact C6
theorem R0 (c : Ai) (r : Bool) (G : Bf c = some r) : Fn Tryz.prog 180 0 [.agg (Ai.dv c)] [] (fun d' b' => d' = .val (.bool r) /\ b' = []) := by
 unfold Bf at G
 refine Fn.of Tryz.func180 rfl rfl rfl fun w0 I ρ0 => ?_
 show B4 _ ⟨w0, I, ρ0, 0, 0, 91⟩ _ _ _
 refine Bk 0 16 A8 fun B => ?_
 refine Ak <| Bw (ι := Bool) (fun (x28_1 : Bool) => mk [(1, .ptr 0 0), (28, .val (.bool x28_1))] [(0, .box (Ai.dv c) 111)] 1) (fun (x28_1 : Bool) => Bf.j1 c x28_1 = some r) ?_ ?_
 refine An (Cj _ _ []) 16 224 B rfl rfl ?_
 refine A6 ?_
 rcases Ef G with ⟨h2, G⟩ | ⟨h2, G⟩
 refine Bq fun B => ?_
 exact ⟨true, G, Bc [(0, 0)]⟩
 refine A6 ?_
 rcases Ef G with ⟨h4, G⟩ | ⟨h4, G⟩
 refine Bq fun B => ?_
 exact ⟨true, G, Bc [(0, 0)]⟩
 refine A6 ?_
 obtain ⟨y, hy, G⟩ := Ac G
 refine Dz (Hy _ _ hy) ?_
 refine A6 ?_
 rcases Ef G with ⟨h6, G⟩ | ⟨h6, G⟩
 refine Bq fun B => ?_
 exact ⟨true, G, Bc [(0, 0)]⟩
 refine A6 ?_
 obtain ⟨y_2, hy_2, G⟩ := Ac G
 refine Dz (Hy _ _ hy_2) ?_
 refine A6 ?_
 rcases Ef G with ⟨h8, G⟩ | ⟨h8, G⟩
 refine Bq fun B => ?_
 exact ⟨true, G, Bc [(0, 0)]⟩
 refine A6 ?_
 obtain ⟨y_3, hy_3, G⟩ := Ac G
 refine Dz (R2 _ _ hy_3) ?_
 refine Bq fun B => ?_
 exact ⟨!y_3, G, Bc [(0, 0)]⟩
 rintro x28_1 G
 replace G : Bf.j1 c x28_1 = some r := G
 show B4 _ _ _ _ (mk _ _ _)
 unfold Bf.j1 at G
 refine C5 rfl G (fun h11 G => ?_) fun h11 G => ?_
 refine B8 1 9 A8 ?_
 exact C6
 refine Dd ?_
 refine Ak <| Bw (ι := Bool) (fun (x58_2 : Bool) => mk [(1, .ptr 0 0), (58, .val (.bool x58_2))] [(0, .box (Ai.dv c) 111)] 1) (fun (x58_2 : Bool) => Bf.j2 c x58_2 = some r) ?_ ?_
 refine An (Cj _ _ []) 1 241 A8 rfl rfl ?_
 refine A6 ?_
 obtain ⟨y_4, hy_4, G⟩ := Ac G
 refine Dz (O3 _ _ _ hy_4) ?_
 refine A6 ?_
 rcases Ef G with ⟨h13, G⟩ | ⟨h13, G⟩
 refine Bq fun B => ?_
 exact ⟨true, G, Bc [(0, 0)]⟩
 refine A6 ?_
 obtain ⟨y_5, hy_5, G⟩ := Ac G
 refine Dz (I7 _ _ hy_5) ?_
 refine A6 ?_
 rcases Ef G with ⟨h15, G⟩ | ⟨h15, G⟩
 refine Bq fun B => ?_
 exact ⟨true, G, Bc [(0, 0)]⟩
 refine A6 ?_
 obtain ⟨y_6, hy_6, G⟩ := Ac G
 refine Dz (O3 _ _ _ hy_6) ?_
 refine A6 ?_
 rcases Ef G with ⟨h17, G⟩ | ⟨h17, G⟩
 refine Bq fun B => ?_
 exact ⟨true, G, Bc [(0, 0)]⟩
 refine A6 ?_
 obtain ⟨y_7, hy_7, G⟩ := Ac G
 refine Dz (I7 _ _ hy_7) ?_
 refine A6 ?_
 rcases Ef G with ⟨h19, G⟩ | ⟨h19, G⟩
 refine Bq fun B => ?_
 exact ⟨true, G, Bc [(0, 0)]⟩
 refine A6 ?_
 obtain ⟨y_8, hy_8, G⟩ := Ac G
 refine Dz (Tc _ _ hy_8) ?_
 refine Bq fun B => ?_
 exact ⟨!y_8, G, Bc [(0, 0)]⟩
 rintro x58_2 G
 replace G : Bf.j2 c x58_2 = some r := G
 show B4 _ _ _ _ (mk _ _ _)
 unfold Bf.j2 at G
 refine C5 rfl G (fun h22 G => ?_) fun h22 G => ?_
 refine B8 1 9 A8 ?_
 exact C6
 refine Dd ?_
 refine Ak <| Bw (ι := Bool) (fun (x73_3 : Bool) => mk [(1, .ptr 0 0), (73, .val (.bool x73_3))] [(0, .box (Ai.dv c) 111)] 1) (fun (x73_3 : Bool) => Bf.j3 c x73_3 = some r) ?_ ?_
 refine An (Cj _ _ []) 1 121 A8 rfl rfl ?_
 refine A6 ?_
 rcases Ef G with ⟨h24, G⟩ | ⟨h24, G⟩
 refine Bq fun B => ?_
 exact ⟨true, G, Bc [(0, 0)]⟩
 refine A6 ?_
 rcases Ef G with ⟨h26, G⟩ | ⟨h26, G⟩
 refine Bq fun B => ?_
 exact ⟨true, G, Bc [(0, 0)]⟩
 refine Bq fun B => ?_
 exact ⟨decide (40000 < c.To), G, Bc [(0, 0)]⟩
 rintro x73_3 G
 replace G : Bf.j3 c x73_3 = some r := G
 show B4 _ _ _ _ (mk _ _ _)
 unfold Bf.j3 at G
 refine C5 rfl G (fun h29 G => ?_) fun h29 G => ?_
 refine B8 1 9 A8 ?_
 exact C6
 refine Dd ?_
 refine B8 1 145 A8 ?_
 refine A6 ?_
 rcases Ef G with ⟨h31, G⟩ | ⟨h31, G⟩
 refine A6 ?_
 rcases Ef G with ⟨h32, G⟩ | ⟨h32, G⟩
 refine A6 ?_
 rcases Ef G with ⟨h33, G⟩ | ⟨h33, G⟩
 exact C6
 exact C6
 exact C6
 exact C6
theorem R8 (c : Ai) (r : Int) (G : Gt c = some r) : Fn Tryz.prog 138 0 [.agg (Ai.dv c)] [] (fun d' b' => d' = vk r /\ b' = []) := by
 unfold Gt at G
 refine Fn.of Tryz.func138 rfl rfl rfl fun w0 I ρ0 => ?_
 show B4 _ ⟨w0, I, ρ0, 0, 0, 6⟩ _ _ _
 refine Bk 0 16 A8 fun B => ?_
 refine Ak <| B8 16 40 B ?_
 refine A6 ?_
 obtain ⟨y, hy, G⟩ := Ac G
 refine Dz (R0 _ _ hy) ?_
 refine Bq fun B => ?_
 refine C5 rfl G (fun h3 G => ?_) fun h3 G => ?_
 refine B8 40 48 B ?_
 exact C6
 refine Dd ?_
 refine Bk 40 48 B fun B => ?_
 exact Lz
theorem Uv (key : Aw) (id : Int) (l : (List Ai)) (r : Bool) (G : B0 key id l = some r) : Fn Tryz.prog 104 0 [.agg [vk key.Alg, vk key.Bits], vk id, .sl 15 (Aq Ai.enc l)] [] (fun d' b' => d' = .val (.bool r) /\ b' = []) := by
 unfold B0 at G
 refine Fn.of Tryz.func104 rfl rfl rfl fun w0 I ρ0 => ?_
 show B4 _ ⟨w0, I, ρ0, 0, 0, 57⟩ _ _ _
 refine Bk 0 16 A8 fun B => ?_
 refine Ak <| Bw (ι := Bool) (fun (x27_1 : Bool) => mk [(1, vk id), (2, .sl 15 (Aq Ai.enc l)), (3, .ptr 0 0), (27, .val (.bool x27_1))] [(0, .box [vk key.Alg, vk key.Bits] 34)] 1) (fun (x27_1 : Bool) => B0.j1 key id l x27_1 = some r) ?_ ?_
 refine An (Cj _ _ []) 16 168 B rfl rfl ?_
 refine A6 ?_
 obtain ⟨y, hy, G⟩ := Ac G
 refine Dz (Jv _ _ hy) ?_
 refine A6 ?_
 rcases Ef G with ⟨h2, G⟩ | ⟨h2, G⟩
 refine Bq fun B => ?_
 exact ⟨true, G, Bc [(0, 0)]⟩
 refine A6 ?_
 obtain ⟨y_2, hy_2, G⟩ := Ac G
 refine Dz (Kl _ _ hy_2) ?_
 refine A6 ?_
 rcases Ef G with ⟨h4, G⟩ | ⟨h4, G⟩
 refine Bq fun B => ?_
 exact ⟨true, G, Bc [(0, 0)]⟩
 refine A6 ?_
 obtain ⟨y_3, hy_3, G⟩ := Ac G
 refine Dz (I7 _ _ hy_3) ?_
 refine A6 ?_
 rcases Ef G with ⟨h6, G⟩ | ⟨h6, G⟩
 refine Bq fun B => ?_
 exact ⟨true, G, Bc [(0, 0)]⟩
 refine Bq fun B => ?_
 exact ⟨decide (8 < (l.length : Int)), G, Bc [(0, 0)]⟩
 rintro x27_1 G
 replace G : B0.j1 key id l x27_1 = some r := G
 show B4 _ _ _ _ (mk _ _ _)
 unfold B0.j1 at G
 refine C5 rfl G (fun h9 G => ?_) fun h9 G => ?_
 refine B8 1 9 A8 ?_
 exact C6
 refine Dd ?_
 refine Ak <| Bk 1 25 A8 fun B => ?_
 refine Ar <| J3 (fun (x30_2 : Int) => mk [(1, vk id), (2, .sl 15 (Aq Ai.enc l)), (3, .ptr 0 0), (28, .sl 15 (Aq Ai.enc l)), (29, .val (.int .i64 (l.length : Int))), (30, vk x30_2)] [(0, .box [vk key.Alg, vk key.Bits] 34)] 1) G (Bc [(0, 0)]) ?_
 rintro x30_2 m2 o2 G hn2
 replace G : B0.l2 key id l x30_2 = some o2 := G
 show B4 _ _ _ _ (mk _ _ _)
 unfold B0.l2 at G
 refine Bk 1 9 A8 fun B => ?_
 refine Ak <| C5 rfl G (fun h13 G => ?_) fun h13 G => ?_
 refine Dd ?_
 refine Ak <| Ar <| B8 9 41 B ?_
 obtain ⟨e, he, G⟩ := Ac G
 refine A6 ?_
 refine lH he ?_
 refine Bq fun B => ?_
 refine B8 41 65 B ?_
 refine A6 ?_
 obtain ⟨y_4, hy_4, G⟩ := Ac G
 refine Dz (R8 _ _ hy_4) ?_
 refine Bq fun B => ?_
 refine C5 rfl G (fun h16 G => ?_) fun h16 G => ?_
 refine Bk 65 73 B fun B => ?_
 refine F3 ?_
 replace G := Cm G hn2
 exact bE
 refine Dd ?_
 refine An (Cj _ _ []) 65 81 B rfl rfl ?_
 refine Bq fun B => ?_
 obtain rfl := oi_ G
 exact ⟨(W (x30_2 + 1), m2), Nat.lt_succ_self _, hn2, Bc [(0, 0)]⟩
 refine Ju ?_
 replace G := Cm G hn2
 refine Ak <| Bv (Cj _ _ []) (by kernel_rfl) [0, 1, 3, 7, 15, 31, 63, 127, 15, 511, 1023, 2047, 4095, 8191, 16383, 2047, 65535, 131071, 262143, 524287] 9 169 B rfl rfl (by kernel_rfl) ?_
 refine A6 ?_
 rcases Ef G with ⟨h19, G⟩ | ⟨h19, G⟩
 exact C6
 refine A6 ?_
 obtain ⟨e_2, he_2, G⟩ := Ac G
 refine A6 ?_
 refine Cr (Fm rfl rfl h19) rfl (Ou hO lJ (by decide) (fC Ai.enc_len (Cq he_2) (o := 3) (by decide) rfl)) rfl rfl ?_
 refine Cr (Fm rfl rfl h19) rfl (Dm lJ (Ie Ai.enc_len (Cq he_2) (o := 3) (m := 2) (cs := [.int .i64 e_2.Key.Alg, .int .i64 e_2.Key.Bits]) rfl (by decide) rfl) (Ek Ai.enc_len (Cq he_2) (o := 3) (m := 2) (by decide) rfl)) rfl rfl ?_
 refine A6 ?_
 refine Cr (Fm rfl rfl h19) rfl (Pq e_2.Key key) rfl rfl ?_
 refine A6 ?_
 rcases Ef G with ⟨h21, G⟩ | ⟨h21, G⟩
 refine A6 ?_
 refine Cr (Fm rfl rfl h21) rfl (Ou iY jF (by decide) (fC Ai.enc_len (Cq he_2) (o := 5) (by decide) rfl)) rfl rfl ?_
 refine Cr (Fm rfl rfl h21) rfl (Dn jF (Is Ai.enc_len (Cq he_2) (o := 5) (c := .int .i64 e_2.KeyId) rfl rfl)) rfl rfl ?_
 exact C6
 exact C6
theorem N4  (r : Unit) (G : H9 = some r) : Fn Tryz.prog 105 0 [.val (.func (.func 108) #[] #[])] [] (fun d' b' => d' = .clo 106 0 [.elt (([.raw (.func (.func 108) #[] #[])] : List C).drop 0)] /\ b' = []) := by
 unfold H9 at G
 refine Fn.of Tryz.func105 rfl rfl rfl fun w0 I ρ0 => ?_
 show B4 _ ⟨w0, I, ρ0, 0, 0, 4⟩ _ _ _
 refine Bk 0 16 A8 fun B => ?_
 refine Ak <| Ec (σ' := mk [(1, .elt (([.raw (.func (.func 108) #[] #[])] : List C).drop 0))] [] 0) ((by exact Ns.lists [] rfl rfl ⟨⟨_, rfl, .frzb (ks := [none]) rfl (.cons .func .nil) (Ei rfl)⟩, trivial⟩ trivial)) ?_
 refine An (Cj _ _ []) 0 16 A8 rfl rfl ?_
 exact C6
theorem L9 (n : Int) (r : Bool) (G : E1 n = some r) : Fn Tryz.prog 106 0 [vk n, .elt (([.raw (.func (.func 108) #[] #[])] : List C).drop 0)] [] (fun d' b' => d' = .val (.bool r) /\ b' = []) := by
 unfold E1 at G
 refine Fn.of Tryz.func106 rfl rfl rfl fun w0 I ρ0 => ?_
 show B4 _ ⟨w0, I, ρ0, 0, 0, 8⟩ _ _ _
 refine Bk 0 8 A8 fun B => ?_
 refine B8 8 48 B ?_
 refine Cr rfl rfl (Dn xS (c := .raw (.func (.func 108) #[] #[])) rfl) rfl rfl ?_
 refine A6 ?_
 obtain ⟨y, hy, G⟩ := Ac G
 refine Dj (rd := []) (ps := []) (gs := []) false rfl rfl (I7 _ _ hy) rfl rfl (.cons .val .nil) rfl rfl (by intro h; cases h) rfl rfl rfl rfl ?_
 exact C6
theorem Ih (s : (List Int)) (f : Int -> Option (Bool)) (hf_f : ∀ (x0 : Int) (y : Bool), f x0 = some y -> Fn Tryz.prog 106 0 [vk x0, .elt (([.raw (.func (.func 108) #[] #[])] : List C).drop 0)] [] (fun d' b' => d' = .val (.bool y) /\ b' = [])) (r : Int) (G : Bm s f = some r) : Fn Tryz.prog 139 0 [.sl 1 (Aq eI s), .clo 106 0 [.elt (([.raw (.func (.func 108) #[] #[])] : List C).drop 0)]] [] (fun d' b' => d' = vk r /\ b' = []) := by
 unfold Bm at G
 refine Fn.of Tryz.func139 rfl rfl rfl fun w0 I ρ0 => ?_
 show B4 _ ⟨w0, I, ρ0, 0, 0, 19⟩ _ _ _
 refine Bk 0 8 A8 fun B => ?_
 refine Ak <| Bk 8 32 B fun B => ?_
 refine Ar <| J3 (fun (x8_1 : Int) => mk [(0, .sl 1 (Aq eI s)), (1, .clo 106 0 [.elt (([.raw (.func (.func 108) #[] #[])] : List C).drop 0)]), (7, .val (.int .i64 (s.length : Int))), (8, vk x8_1)] [] 0) G (Bc []) ?_
 rintro x8_1 m1 o1 G hn1
 replace G : Bm.l1 s f x8_1 = some o1 := G
 show B4 _ _ _ _ (mk _ _ _)
 unfold Bm.l1 at G
 refine Bk 0 8 A8 fun B => ?_
 refine Ak <| C5 rfl G (fun h4 G => ?_) fun h4 G => ?_
 refine Dd ?_
 refine Ak <| Ar <| Bk 8 24 B fun B => ?_
 refine B8 24 72 B ?_
 refine A6 ?_
 obtain ⟨e, he, G⟩ := Ac G
 refine A6 ?_
 refine Vw he ?_
 obtain ⟨y, hy, G⟩ := Ac G
 refine B9 (rd := []) (ps := []) (gs := []) false rfl rfl (hf_f e _ hy) rfl rfl (.cons .val (.cons .elt .nil)) rfl rfl (by intro h; cases h) rfl rfl rfl rfl ?_
 refine F7 fun B => ?_
 refine C5 rfl G (fun h7 G => ?_) fun h7 G => ?_
 refine Bk 72 88 B fun B => ?_
 refine F3 ?_
 replace G := Cm G hn1
 exact bE
 refine Dd ?_
 refine An (Cj _ _ []) 72 88 B rfl rfl ?_
 refine Bq fun B => ?_
 obtain rfl := oi_ G
 exact ⟨(W (x8_1 + 1), m1), Nat.lt_succ_self _, hn1, Bc []⟩
 refine Ju ?_
 replace G := Cm G hn1
 refine Bk 8 16 B fun B => ?_
 exact Lz
theorem H0 (s : (List Int)) (f : Int -> Option (Bool)) (hf_f : ∀ (x0 : Int) (y : Bool), f x0 = some y -> Fn Tryz.prog 106 0 [vk x0, .elt (([.raw (.func (.func 108) #[] #[])] : List C).drop 0)] [] (fun d' b' => d' = .val (.bool y) /\ b' = [])) (r : Bool) (G : C9 s f = some r) : Fn Tryz.prog 107 0 [.sl 1 (Aq eI s), .clo 106 0 [.elt (([.raw (.func (.func 108) #[] #[])] : List C).drop 0)]] [] (fun d' b' => d' = .val (.bool r) /\ b' = []) := by
 unfold C9 at G
 refine Fn.of Tryz.func107 rfl rfl rfl fun w0 I ρ0 => ?_
 show B4 _ ⟨w0, I, ρ0, 0, 0, 9⟩ _ _ _
 refine Bk 0 8 A8 fun B => ?_
 refine B8 8 48 B ?_
 refine A6 ?_
 obtain ⟨y, hy, G⟩ := Ac G
 refine Dz (Ih s f hf_f _ hy) ?_
 exact C6
theorem N7  (r : Unit) (G : H8 = some r) : Fn Tryz.prog 105 0 [.val (.func (.func 109) #[] #[])] [] (fun d' b' => d' = .clo 106 0 [.elt (([.raw (.func (.func 109) #[] #[])] : List C).drop 0)] /\ b' = []) := by
 unfold H8 at G
 refine Fn.of Tryz.func105 rfl rfl rfl fun w0 I ρ0 => ?_
 show B4 _ ⟨w0, I, ρ0, 0, 0, 4⟩ _ _ _
 refine Bk 0 16 A8 fun B => ?_
 refine Ak <| Ec (σ' := mk [(1, .elt (([.raw (.func (.func 109) #[] #[])] : List C).drop 0))] [] 0) ((by exact Ns.lists [] rfl rfl ⟨⟨_, rfl, .frzb (ks := [none]) rfl (.cons .func .nil) (Ei rfl)⟩, trivial⟩ trivial)) ?_
 refine An (Cj _ _ []) 0 16 A8 rfl rfl ?_
 exact C6
theorem V2 (alg : Int) (r : Bool) (G : Iu alg = some r) : Fn Tryz.prog 109 0 [vk alg] [] (fun d' b' => d' = .val (.bool r) /\ b' = []) := by
 unfold Iu at G
 refine Fn.of Tryz.func109 rfl rfl rfl fun w0 I ρ0 => ?_
 show B4 _ ⟨w0, I, ρ0, 0, 0, 6⟩ _ _ _
 refine Bk 0 8 A8 fun B => ?_
 refine B8 8 40 B ?_
 refine A6 ?_
 obtain ⟨y, hy, G⟩ := Ac G
 refine Dz (Kl _ _ hy) ?_
 exact C6
theorem L5 (n : Int) (r : Bool) (G : E2 n = some r) : Fn Tryz.prog 106 0 [vk n, .elt (([.raw (.func (.func 109) #[] #[])] : List C).drop 0)] [] (fun d' b' => d' = .val (.bool r) /\ b' = []) := by
 unfold E2 at G
 refine Fn.of Tryz.func106 rfl rfl rfl fun w0 I ρ0 => ?_
 show B4 _ ⟨w0, I, ρ0, 0, 0, 8⟩ _ _ _
 refine Bk 0 8 A8 fun B => ?_
 refine B8 8 48 B ?_
 refine Cr rfl rfl (Dn xS (c := .raw (.func (.func 109) #[] #[])) rfl) rfl rfl ?_
 refine A6 ?_
 obtain ⟨y, hy, G⟩ := Ac G
 refine Dj (rd := []) (ps := []) (gs := []) false rfl rfl (V2 _ _ hy) rfl rfl (.cons .val .nil) rfl rfl (by intro h; cases h) rfl rfl rfl rfl ?_
 exact C6
theorem Ij (s : (List Int)) (f : Int -> Option (Bool)) (hf_f : ∀ (x0 : Int) (y : Bool), f x0 = some y -> Fn Tryz.prog 106 0 [vk x0, .elt (([.raw (.func (.func 109) #[] #[])] : List C).drop 0)] [] (fun d' b' => d' = .val (.bool y) /\ b' = [])) (r : Int) (G : Bm s f = some r) : Fn Tryz.prog 139 0 [.sl 1 (Aq eI s), .clo 106 0 [.elt (([.raw (.func (.func 109) #[] #[])] : List C).drop 0)]] [] (fun d' b' => d' = vk r /\ b' = []) := by
 unfold Bm at G
 refine Fn.of Tryz.func139 rfl rfl rfl fun w0 I ρ0 => ?_
 show B4 _ ⟨w0, I, ρ0, 0, 0, 19⟩ _ _ _
 refine Bk 0 8 A8 fun B => ?_
 refine Ak <| Bk 8 32 B fun B => ?_
 refine Ar <| J3 (fun (x8_1 : Int) => mk [(0, .sl 1 (Aq eI s)), (1, .clo 106 0 [.elt (([.raw (.func (.func 109) #[] #[])] : List C).drop 0)]), (7, .val (.int .i64 (s.length : Int))), (8, vk x8_1)] [] 0) G (Bc []) ?_
 rintro x8_1 m1 o1 G hn1
 replace G : Bm.l1 s f x8_1 = some o1 := G
 show B4 _ _ _ _ (mk _ _ _)
 unfold Bm.l1 at G
 refine Bk 0 8 A8 fun B => ?_
 refine Ak <| C5 rfl G (fun h4 G => ?_) fun h4 G => ?_
 refine Dd ?_
 refine Ak <| Ar <| Bk 8 24 B fun B => ?_
 refine B8 24 72 B ?_
 refine A6 ?_
 obtain ⟨e, he, G⟩ := Ac G
 refine A6 ?_
 refine Vw he ?_
 obtain ⟨y, hy, G⟩ := Ac G
 refine B9 (rd := []) (ps := []) (gs := []) false rfl rfl (hf_f e _ hy) rfl rfl (.cons .val (.cons .elt .nil)) rfl rfl (by intro h; cases h) rfl rfl rfl rfl ?_
 refine F7 fun B => ?_
 refine C5 rfl G (fun h7 G => ?_) fun h7 G => ?_
 refine Bk 72 88 B fun B => ?_
 refine F3 ?_
 replace G := Cm G hn1
 exact bE
 refine Dd ?_
 refine An (Cj _ _ []) 72 88 B rfl rfl ?_
 refine Bq fun B => ?_
 obtain rfl := oi_ G
 exact ⟨(W (x8_1 + 1), m1), Nat.lt_succ_self _, hn1, Bc []⟩
 refine Ju ?_
 replace G := Cm G hn1
 refine Bk 8 16 B fun B => ?_
 exact Lz
theorem H3 (s : (List Int)) (f : Int -> Option (Bool)) (hf_f : ∀ (x0 : Int) (y : Bool), f x0 = some y -> Fn Tryz.prog 106 0 [vk x0, .elt (([.raw (.func (.func 109) #[] #[])] : List C).drop 0)] [] (fun d' b' => d' = .val (.bool y) /\ b' = [])) (r : Bool) (G : C9 s f = some r) : Fn Tryz.prog 107 0 [.sl 1 (Aq eI s), .clo 106 0 [.elt (([.raw (.func (.func 109) #[] #[])] : List C).drop 0)]] [] (fun d' b' => d' = .val (.bool r) /\ b' = []) := by
 unfold C9 at G
 refine Fn.of Tryz.func107 rfl rfl rfl fun w0 I ρ0 => ?_
 show B4 _ ⟨w0, I, ρ0, 0, 0, 9⟩ _ _ _
 refine Bk 0 8 A8 fun B => ?_
 refine B8 8 48 B ?_
 refine A6 ?_
 obtain ⟨y, hy, G⟩ := Ac G
 refine Dz (Ij s f hf_f _ hy) ?_
 exact C6
theorem Uh (e : Ao) (r : Int) (G : Bi e = some r) : Fn Tryz.prog 66 0 [.agg (Ao.dv e)] [] (fun d' b' => d' = vk r /\ b' = []) := by
 unfold Bi at G
 refine Fn.of Tryz.func66 rfl rfl rfl fun w0 I ρ0 => ?_
 show B4 _ ⟨w0, I, ρ0, 0, 0, 83⟩ _ _ _
 refine Bk 0 16 A8 fun B => ?_
 refine Ak <| Bw (ι := Bool) (fun (x32_1 : Bool) => mk [(1, .ptr 0 0), (32, .val (.bool x32_1))] [(0, .box (Ao.dv e) 43)] 1) (fun (x32_1 : Bool) => Bi.j1 e x32_1 = some r) ?_ ?_
 refine An (Cj _ _ []) 16 232 B rfl rfl ?_
 refine A6 ?_
 obtain ⟨y, hy, G⟩ := Ac G
 refine Dz (Wf _ _ hy) ?_
 refine A6 ?_
 rcases Ef G with ⟨h2, G⟩ | ⟨h2, G⟩
 refine Bq fun B => ?_
 exact ⟨true, G, Bc [(0, 0)]⟩
 refine A6 ?_
 rcases Ef G with ⟨h4, G⟩ | ⟨h4, G⟩
 refine Bq fun B => ?_
 exact ⟨true, G, Bc [(0, 0)]⟩
 refine A6 ?_
 rcases Ef G with ⟨h6, G⟩ | ⟨h6, G⟩
 refine Bq fun B => ?_
 exact ⟨true, G, Bc [(0, 0)]⟩
 refine A6 ?_
 rcases Ef G with ⟨h8, G⟩ | ⟨h8, G⟩
 refine Bq fun B => ?_
 exact ⟨true, G, Bc [(0, 0)]⟩
 refine A6 ?_
 obtain ⟨y_2, hy_2, G⟩ := Ac G
 refine Dz (Ti _ _ hy_2) ?_
 refine Bq fun B => ?_
 exact ⟨!y_2, G, Bc [(0, 0)]⟩
 rintro x32_1 G
 replace G : Bi.j1 e x32_1 = some r := G
 show B4 _ _ _ _ (mk _ _ _)
 unfold Bi.j1 at G
 refine C5 rfl G (fun h11 G => ?_) fun h11 G => ?_
 refine B8 1 9 A8 ?_
 exact C6
 refine Dd ?_
 refine Ak <| Bw (ι := Bool) (fun (x54_2 : Bool) => mk [(1, .ptr 0 0), (54, .val (.bool x54_2))] [(0, .box (Ao.dv e) 43)] 1) (fun (x54_2 : Bool) => Bi.j2 e x54_2 = some r) ?_ ?_
 refine An (Cj _ _ []) 1 177 A8 rfl rfl ?_
 refine A6 ?_
 rcases Ef G with ⟨h13, G⟩ | ⟨h13, G⟩
 refine Bq fun B => ?_
 exact ⟨true, G, Bc [(0, 0)]⟩
 refine A6 ?_
 rcases Ef G with ⟨h15, G⟩ | ⟨h15, G⟩
 refine Bq fun B => ?_
 exact ⟨true, G, Bc [(0, 0)]⟩
 refine A6 ?_
 obtain ⟨y_3, hy_3, G⟩ := Ac G
 refine Dz (Nc _ _ hy_3) ?_
 refine A6 ?_
 rcases Ef G with ⟨h17, G⟩ | ⟨h17, G⟩
 refine Bq fun B => ?_
 exact ⟨true, G, Bc [(0, 0)]⟩
 refine A6 ?_
 obtain ⟨y_4, hy_4, G⟩ := Ac G
 refine Dz (Nc _ _ hy_4) ?_
 refine Bq fun B => ?_
 exact ⟨!y_4, G, Bc [(0, 0)]⟩
 rintro x54_2 G
 replace G : Bi.j2 e x54_2 = some r := G
 show B4 _ _ _ _ (mk _ _ _)
 unfold Bi.j2 at G
 refine C5 rfl G (fun h20 G => ?_) fun h20 G => ?_
 refine B8 1 9 A8 ?_
 exact C6
 refine Dd ?_
 refine Ak <| Bk 1 33 A8 fun B => ?_
 refine Ar <| J3 (fun (x58_3 : Int) => mk [(1, .ptr 0 0), (56, .sl 4 (Aq A5.enc e.Identities)), (57, .val (.int .i64 (e.Identities.length : Int))), (58, vk x58_3)] [(0, .box (Ao.dv e) 43)] 1) G (Bc [(0, 0)]) ?_
 rintro x58_3 m3 o3 G hn3
 replace G : Bi.l3 e x58_3 = some o3 := G
 show B4 _ _ _ _ (mk _ _ _)
 unfold Bi.l3 at G
 refine Bk 1 9 A8 fun B => ?_
 refine Ak <| C5 rfl G (fun h24 G => ?_) fun h24 G => ?_
 refine Dd ?_
 refine Ak <| Ar <| B8 9 41 B ?_
 obtain ⟨e_2, he_2, G⟩ := Ac G
 refine A6 ?_
 refine lH he_2 ?_
 refine Bq fun B => ?_
 refine B8 41 105 B ?_
 refine A6 ?_
 obtain ⟨y_5, hy_5, G⟩ := Ac G
 refine Dz (Uv _ _ _ _ hy_5) ?_
 refine Bq fun B => ?_
 refine C5 rfl G (fun h27 G => ?_) fun h27 G => ?_
 refine Bk 105 113 B fun B => ?_
 refine F3 ?_
 replace G := Cm G hn3
 exact bE
 refine Dd ?_
 refine An (Cj _ _ []) 105 121 B rfl rfl ?_
 refine Bq fun B => ?_
 obtain rfl := oi_ G
 exact ⟨(W (x58_3 + 1), m3), Nat.lt_succ_self _, hn3, Bc [(0, 0)]⟩
 refine Ju ?_
 replace G := Cm G hn3
 refine Bk 9 17 B fun B => ?_
 refine Ak <| Bw (ι := Bool) (fun (x82_4 : Bool) => mk [(82, .val (.bool x82_4))] [] 0) (fun (x82_4 : Bool) => Bi.j4 x82_4 = some r) ?_ ?_
 refine Bv (Cj _ _ []) (by kernel_rfl) [0, 1, 0, 4, 15, 31, 63, 127, 63, 319, 1023, 2047] 17 113 B rfl rfl (by kernel_rfl) ?_
 refine A6 ?_
 obtain ⟨y_6, hy_6, G⟩ := Ac G
 refine Dj (rd := []) (ps := []) (gs := []) false rfl rfl (N4 _ hy_6) rfl rfl (.cons .val .nil) rfl rfl (by intro h; cases h) rfl rfl rfl rfl ?_
 obtain ⟨y_7, hy_7, G⟩ := Ac G
 refine Dz (H0 e.Anchors (fun x0 => E1 x0) (fun x0 y h => L9 x0 y h) _ hy_7) ?_
 refine A6 ?_
 rcases Ef G with ⟨h31, G⟩ | ⟨h31, G⟩
 refine Bq fun B => ?_
 exact ⟨true, G, Bc []⟩
 refine A6 ?_
 obtain ⟨y_8, hy_8, G⟩ := Ac G
 refine Dj (rd := []) (ps := []) (gs := []) false (Fm rfl rfl h31) rfl (N7 _ hy_8) rfl rfl (.cons .val .nil) rfl rfl (by intro h; cases h) rfl rfl rfl rfl ?_
 obtain ⟨y_9, hy_9, G⟩ := Ac G
 refine Dz (H3 e.Hashes (fun x0 => E2 x0) (fun x0 y h => L5 x0 y h) _ hy_9) ?_
 refine Bq fun B => ?_
 exact ⟨y_9, G, Bc []⟩
 rintro x82_4 G
 replace G : Bi.j4 x82_4 = some r := G
 show B4 _ _ _ _ (mk _ _ _)
 unfold Bi.j4 at G
 refine C5 rfl G (fun h34 G => ?_) fun h34 G => ?_
 refine B8 0 8 A8 ?_
 exact C6
 refine Dd ?_
 refine Bk 0 8 A8 fun B => ?_
 exact Lz
end Go.Proofs.YtkoflhimdenjaaaGreat
