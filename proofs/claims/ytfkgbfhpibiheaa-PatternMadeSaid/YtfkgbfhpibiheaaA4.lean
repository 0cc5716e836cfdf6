import Derived.Test.YtfkgbfhpibiheaaT1
import Derived.Test.YtfkgbfhpibiheaaA3
set_option linter.unusedVariables false
set_option linter.unusedSimpArgs false
set_option maxRecDepth 100000
set_option maxHeartbeats 1600000
namespace Go.Proofs.Ytfkgbfhpibiheaa
open Go.RowKit
theorem Ly (a : (List Int)) (b : (List Int)) (r : Bool) (G : Dd a b = some r) : Fn Try.prog 20 0 [.sl 1 (As eI a), .sl 1 (As eI b)] [] (fun d' b' => d' = .val (.bool r) /\ b' = []) := by
 unfold Dd at G
 refine Fn.of Try.func20 rfl rfl rfl fun w0 I ρ0 => ?_
 show Cp _ ⟨w0, I, ρ0, 0, 0, 26⟩ _ _ _
 refine Bt 0 8 Bg fun B => ?_
 refine An <| Bt 8 48 B fun B => ?_
 refine C1 rfl G (fun h3 G => ?_) fun h3 G => ?_
 refine C4 48 56 B ?_
 exact F9
 refine C9 ?_
 refine An <| Bt 48 56 B fun B => ?_
 refine Ar <| Gg (fun (i_1 : Int) => mk [(0, .sl 1 (As eI a)), (1, .sl 1 (As eI b)), (5, vk i_1)] [] 0) G (A3 []) ?_
 rintro i_1 m1 o1 G hn1
 replace G : Dd.l1 a b i_1 = some o1 := G
 show Cp _ _ _ _ (mk _ _ _)
 unfold Dd.l1 at G
 refine An <| Bt 0 32 Bg fun B => ?_
 refine C1 rfl G (fun h7 G => ?_) fun h7 G => ?_
 refine C9 ?_
 refine An <| Ar <| An <| Br (Cm _ _ []) (by kernel_rfl) [0, 0, 3, 7, 0, 0, 48, 112, 255] 32 104 B rfl rfl (by kernel_rfl) ?_
 refine A8 ?_
 obtain ⟨e, he, G⟩ := Ac G
 refine A8 ?_
 refine Uw he ?_
 refine A8 ?_
 obtain ⟨e_2, he_2, G⟩ := Ac G
 refine A8 ?_
 refine Uw he_2 ?_
 refine B4 fun B => ?_
 refine C1 rfl G (fun h9 G => ?_) fun h9 G => ?_
 refine Bt 104 112 B fun B => ?_
 refine El ?_
 replace G := B1 G hn1
 exact Xl
 refine C9 ?_
 refine Aq (Cm _ _ []) 104 128 B rfl rfl ?_
 refine B4 fun B => ?_
 obtain rfl := oi_ G
 exact ⟨(W (i_1 + 1), m1), xO _, hn1, A3 []⟩
 refine F8 ?_
 replace G := B1 G hn1
 refine Bt 32 40 B fun B => ?_
 exact Nv
theorem Pa  (r : Bool) (G : Hg = some r) : Fn Try.prog 9 0 [] [] (fun d' b' => d' = .val (.bool r) /\ b' = []) := by
 unfold Hg at G
 refine Fn.of Try.func9 rfl rfl rfl fun w0 I ρ0 => ?_
 show Cp _ ⟨w0, I, ρ0, 0, 0, 48⟩ _ _ _
 refine Bt 0 8 Bg fun B => ?_
 refine C4 8 32 B ?_
 refine Z9 Zk pZ oM ?_
 refine B4 fun B => ?_
 refine An <| Aq (Cm _ _ [96]) 32 168 B rfl rfl ?_
 refine A8 ?_
 refine Ik Lc z5 gH ([(97 : UInt8), (98 : UInt8), (97 : UInt8)] : List UInt8) e8 ?_
 refine Jg (rd := [40]) rfl rfl (.mark R8 Qe (xR rfl) (.head _) rfl) rfl rfl (fun _ => ⟨_, rfl⟩) ?_
 rintro _ rfl
 refine Z9 Yt sN oR ?_
 refine A8 ?_
 refine Ik Lc z5 gH ([(98 : UInt8)] : List UInt8) e8 ?_
 refine Jg (rd := [72]) rfl rfl (.mark R8 Qe (xR rfl) (.head _) rfl) rfl rfl (fun _ => ⟨_, rfl⟩) ?_
 rintro _ rfl
 refine Z9 Yt sN oR ?_
 refine eT fE oR sE ([(Ai.mk (Aa.mk 1 0) ([(97 : UInt8), (98 : UInt8), (97 : UInt8)] : List UInt8)), (Ai.mk (Aa.mk 1 0) ([(98 : UInt8)] : List UInt8))] : List Ai) Ai.enc ?_
 refine Ik Lc z5 gH ([(97 : UInt8), (98 : UInt8), (97 : UInt8), (98 : UInt8), (97 : UInt8)] : List UInt8) e8 ?_
 refine Jg (rd := [104]) rfl rfl (.mark R8 Qe (xR rfl) (.head _) rfl) rfl rfl (fun _ => ⟨_, rfl⟩) ?_
 rintro _ rfl
 obtain ⟨y, hy, G⟩ := Ac G
 refine Ix (Nx _ _ _ hy) ?_
 refine B4 fun B => ?_
 refine C4 168 400 B ?_
 refine A8 ?_
 rcases If G with ⟨h4, G⟩ | ⟨h4, G⟩
 refine A8 ?_
 rcases If G with ⟨h5, G⟩ | ⟨h5, G⟩
 refine A8 ?_
 obtain ⟨e, he, G⟩ := Ac G
 refine A8 ?_
 refine Xz he ?_
 refine Z9 Ue jW oI ?_
 refine D1 (Et rfl rfl h5) rfl (Tp e (Ab.mk 0 0)) rfl rfl ?_
 refine A8 ?_
 rcases If G with ⟨h6, G⟩ | ⟨h6, G⟩
 refine A8 ?_
 obtain ⟨e_2, he_2, G⟩ := Ac G
 refine A8 ?_
 refine Xz he_2 ?_
 refine Z9 Ue jW oI ?_
 refine D1 (Et rfl rfl h6) rfl (Tp e_2 (Ab.mk 1 1)) rfl rfl ?_
 refine A8 ?_
 rcases If G with ⟨h7, G⟩ | ⟨h7, G⟩
 refine Ik Lc z5 gH ([(97 : UInt8), (98 : UInt8), (97 : UInt8), (98 : UInt8)] : List UInt8) e8 ?_
 refine Jg (rd := [344]) (Et rfl rfl h7) rfl (.mark R8 Qe (xR rfl) (.head _) rfl) rfl rfl (fun _ => ⟨_, rfl⟩) ?_
 rintro _ rfl
 obtain ⟨y_2, hy_2, G⟩ := Ac G
 refine Ix (Q0 _ _ hy_2) ?_
 refine Ik Fo z3 Jj ([0, 0, 1, 2] : List Int) eI ?_
 obtain ⟨y_3, hy_3, G⟩ := Ac G
 refine G7 [368] [] [] true (Ly _ _ _ hy_3) ?_
 exact F9
 exact F9
 exact F9
 exact F9
 exact F9
theorem Yv (l : (List Int)) (r : Am) (G : K9 l = some r) : Fn Try.prog 10 0 [.sl 1 (As eI l)] [] (fun d' b' => d' = .ptr 0 0 /\ b' = [.box [.sl 1 (As eI r.L), vk r.At] 64]) := by
 unfold K9 at G
 refine Fn.of Try.func10 rfl rfl rfl fun w0 I ρ0 => ?_
 show Cp _ ⟨w0, I, ρ0, 0, 0, 6⟩ _ _ _
 refine Bt 0 8 Bg fun B => ?_
 refine C4 8 40 B ?_
 refine A8 ?_
 refine Z9 iS vU wX ?_
 refine B4 fun B => ?_
 refine El ?_
 obtain rfl := oi_ G
 exact Ee [(0, 24)] ⟨rfl, rfl⟩
theorem aY (n : Int) (k : Int) (r : Int) (G : Kf n k = some r) : Fn Try.prog 42 0 [vk n, vk k] [] (fun d' b' => d' = vk r /\ b' = []) := by
 unfold Kf at G
 refine Fn.of Try.func42 rfl rfl rfl fun w0 I ρ0 => ?_
 show Cp _ ⟨w0, I, ρ0, 0, 0, 14⟩ _ _ _
 refine Bt 0 8 Bg fun B => ?_
 refine An <| Bt 8 24 B fun B => ?_
 refine C1 rfl G (fun h3 G => ?_) fun h3 G => ?_
 refine C4 24 32 B ?_
 exact F9
 refine C9 ?_
 refine C4 24 88 B ?_
 refine A8 ?_
 obtain ⟨q, hq, G⟩ := Ac G
 refine D1 rfl rfl (gZ hq) rfl rfl ?_
 refine A8 ?_
 obtain ⟨q_2, hq_2, G⟩ := Ac G
 refine D1 rfl rfl (gZ hq_2) rfl rfl ?_
 exact F9
theorem D6 (d : Am) (n : Int) (r : Int × Am) (G : Df d n = some r) : Fn Try.prog 24 1 [.ptr 0 0, vk n] [.box [.sl 1 (As eI d.L), vk d.At] 64] (fun d' b' => d' = vk r.1 /\ b' = [.box [.sl 1 (As eI r.2.L), vk r.2.At] 64]) := by
 unfold Df at G
 refine Fn.of Try.func24 rfl rfl rfl fun w0 I ρ0 => ?_
 show Cp _ ⟨w0, I, ρ0, 1, 1, 35⟩ _ _ _
 refine Bt 1 9 Bg fun B => ?_
 refine An <| An <| Br (Cm _ _ []) (by kernel_rfl) [0, 1, 3, 7, 0, 16, 48, 112, 240, 511] 9 89 B rfl rfl (by kernel_rfl) ?_
 refine B4 fun B => ?_
 refine C1 rfl G (fun h3 G => ?_) fun h3 G => ?_
 refine Bt 89 97 B fun B => ?_
 refine El ?_
 obtain rfl := oi_ G
 exact Ee [(0, 0)] ⟨rfl, rfl⟩
 refine C9 ?_
 refine Bt 89 153 B fun B => ?_
 refine An <| Br (Cm _ _ []) (by kernel_rfl) [0, 1, 3, 7, 0, 16, 48, 112, 240, 511, 1023, 0, 4095, 8191] 153 265 B rfl rfl (by kernel_rfl) ?_
 refine A8 ?_
 obtain ⟨e, he, G⟩ := Ac G
 refine A8 ?_
 refine Uw he ?_
 refine A8 ?_
 obtain ⟨y, hy, G⟩ := Ac G
 refine Ix (aY _ _ _ hy) ?_
 refine B4 fun B => ?_
 refine El ?_
 obtain rfl := oi_ G
 exact Ee [(0, 0)] ⟨rfl, rfl⟩
theorem Ew (d : Am) (l : (List Int)) (r : Int × Am) (G : Cj d l = some r) : Fn Try.prog 26 1 [.ptr 0 0, .sl 1 (As eI l)] [.box [.sl 1 (As eI d.L), vk d.At] 64] (fun d' b' => d' = vk r.1 /\ b' = [.box [.sl 1 (As eI r.2.L), vk r.2.At] 64]) := by
 unfold Cj at G
 refine Fn.of Try.func26 rfl rfl rfl fun w0 I ρ0 => ?_
 show Cp _ ⟨w0, I, ρ0, 1, 1, 12⟩ _ _ _
 refine Bt 1 9 Bg fun B => ?_
 refine C4 9 73 B ?_
 refine A8 ?_
 obtain ⟨y, hy, G⟩ := Ac G
 refine G7 [0] [0] [] false (D6 _ _ _ hy) ?_
 obtain ⟨e, he, G⟩ := Ac G
 refine A8 ?_
 refine Uw he ?_
 refine B4 fun B => ?_
 refine El ?_
 obtain rfl := oi_ G
 exact Ee [(0, 0)] ⟨rfl, rfl⟩
theorem Zq (d : Am) (a : Int) (r : Int × Am) (G : Db d a = some r) : Fn Try.prog 56 1 [.ptr 0 0, vk a] [.box [.sl 1 (As eI d.L), vk d.At] 64] (fun d' b' => d' = vk r.1 /\ b' = [.box [.sl 1 (As eI r.2.L), vk r.2.At] 64]) := by
 unfold Db at G
 refine Fn.of Try.func56 rfl rfl rfl fun w0 I ρ0 => ?_
 show Cp _ ⟨w0, I, ρ0, 1, 1, 46⟩ _ _ _
 refine Bt 1 9 Bg fun B => ?_
 refine An <| Bt 9 17 B fun B => ?_
 refine Ar <| By (ι := Bool) (fun (x6_1 : Bool) => mk [(0, .ptr 0 0), (5, vk a), (6, .val (.bool x6_1))] [(0, .box [.sl 1 (As eI d.L), vk d.At] 64)] 1) (fun (x6_1 : Bool) => Db.j1 d a x6_1 = some r) ?_ ?_
 refine Bt 17 33 B fun B => ?_
 refine C1 rfl G (fun h4 G => ?_) fun h4 G => ?_
 refine C9 ?_
 exact ⟨decide (a = 5), G, A3 [(0, 0)]⟩
 refine Bt 33 49 B fun B => ?_
 refine C1 rfl G (fun h6 G => ?_) fun h6 G => ?_
 refine C9 ?_
 exact ⟨decide (a = 6), G, A3 [(0, 0)]⟩
 refine Bt 49 65 B fun B => ?_
 refine C1 rfl G (fun h8 G => ?_) fun h8 G => ?_
 refine C9 ?_
 exact ⟨decide (a = 10), G, A3 [(0, 0)]⟩
 refine Aq (Cm _ _ []) 65 81 B rfl rfl ?_
 refine B4 fun B => ?_
 exact ⟨decide (a = 11), G, A3 [(0, 0)]⟩
 rintro x6_1 G
 replace G : Db.j1 d a x6_1 = some r := G
 show Cp _ _ _ _ (mk _ _ _)
 unfold Db.j1 at G
 refine C1 rfl G (fun h10 G => ?_) fun h10 G => ?_
 refine An <| Aq (Cm _ _ [9]) 1 33 Bg rfl rfl ?_
 refine A8 ?_
 refine eT Fo z3 Jj ([2048, 1024, 512, 3072, 1023, 4096, 16384] : List Int) eI ?_
 obtain ⟨y, hy, G⟩ := Ac G
 refine G7 [0] [0] [] false (Ew _ _ _ hy) ?_
 refine B4 fun B => ?_
 refine El ?_
 obtain rfl := oi_ G
 exact Ee [(0, 0)] ⟨rfl, rfl⟩
 refine By (ι := Bool) (fun (x14_2 : Bool) => mk [(0, .ptr 0 0), (5, vk a), (14, .val (.bool x14_2))] [(0, .box [.sl 1 (As eI d.L), vk d.At] 64)] 1) (fun (x14_2 : Bool) => Db.j2 d a x14_2 = some r) ?_ ?_
 refine Bt 1 17 Bg fun B => ?_
 refine C1 rfl G (fun h13 G => ?_) fun h13 G => ?_
 refine C9 ?_
 exact ⟨decide (a = 7), G, A3 [(0, 0)]⟩
 refine Aq (Cm _ _ []) 17 33 B rfl rfl ?_
 refine B4 fun B => ?_
 exact ⟨decide (a = 12), G, A3 [(0, 0)]⟩
 rintro x14_2 G
 replace G : Db.j2 d a x14_2 = some r := G
 show Cp _ _ _ _ (mk _ _ _)
 unfold Db.j2 at G
 refine C1 rfl G (fun h15 G => ?_) fun h15 G => ?_
 refine An <| Aq (Cm _ _ [9]) 1 33 Bg rfl rfl ?_
 refine A8 ?_
 refine eT Fo z3 Jj ([256, 160, 224, 384, 521] : List Int) eI ?_
 obtain ⟨y_2, hy_2, G⟩ := Ac G
 refine G7 [0] [0] [] false (Ew _ _ _ hy_2) ?_
 refine B4 fun B => ?_
 refine El ?_
 obtain rfl := oi_ G
 exact Ee [(0, 0)] ⟨rfl, rfl⟩
 refine Bt 1 17 Bg fun B => ?_
 refine C1 rfl G (fun h18 G => ?_) fun h18 G => ?_
 refine An <| Aq (Cm _ _ [25]) 17 49 B rfl rfl ?_
 refine A8 ?_
 refine eT Fo z3 Jj ([65, 44, 87] : List Int) eI ?_
 obtain ⟨y_3, hy_3, G⟩ := Ac G
 refine G7 [0] [0] [] false (Ew _ _ _ hy_3) ?_
 refine B4 fun B => ?_
 refine El ?_
 obtain rfl := oi_ G
 exact Ee [(0, 0)] ⟨rfl, rfl⟩
 refine Bt 17 33 B fun B => ?_
 refine C1 rfl G (fun h21 G => ?_) fun h21 G => ?_
 refine An <| Aq (Cm _ _ [41]) 33 65 B rfl rfl ?_
 refine A8 ?_
 refine eT Fo z3 Jj ([768, 512, 1024] : List Int) eI ?_
 obtain ⟨y_4, hy_4, G⟩ := Ac G
 refine G7 [0] [0] [] false (Ew _ _ _ hy_4) ?_
 refine B4 fun B => ?_
 refine El ?_
 obtain rfl := oi_ G
 exact Ee [(0, 0)] ⟨rfl, rfl⟩
 refine Bt 33 49 B fun B => ?_
 refine C1 rfl G (fun h24 G => ?_) fun h24 G => ?_
 refine An <| Aq (Cm _ _ [57]) 49 81 B rfl rfl ?_
 refine A8 ?_
 refine eT Fo z3 Jj ([128, 40] : List Int) eI ?_
 obtain ⟨y_5, hy_5, G⟩ := Ac G
 refine G7 [0] [0] [] false (Ew _ _ _ hy_5) ?_
 refine B4 fun B => ?_
 refine El ?_
 obtain rfl := oi_ G
 exact Ee [(0, 0)] ⟨rfl, rfl⟩
 refine Bt 49 65 B fun B => ?_
 refine C1 rfl G (fun h27 G => ?_) fun h27 G => ?_
 refine An <| Aq (Cm _ _ [73]) 65 97 B rfl rfl ?_
 refine A8 ?_
 refine eT Fo z3 Jj ([168, 112] : List Int) eI ?_
 obtain ⟨y_6, hy_6, G⟩ := Ac G
 refine G7 [0] [0] [] false (Ew _ _ _ hy_6) ?_
 refine B4 fun B => ?_
 refine El ?_
 obtain rfl := oi_ G
 exact Ee [(0, 0)] ⟨rfl, rfl⟩
 refine By (ι := Bool) (fun (x40_3 : Bool) => mk [(0, .ptr 0 0), (40, .val (.bool x40_3))] [(0, .box [.sl 1 (As eI d.L), vk d.At] 64)] 1) (fun (x40_3 : Bool) => Db.j3 d x40_3 = some r) ?_ ?_
 refine Bt 65 81 B fun B => ?_
 refine C1 rfl G (fun h30 G => ?_) fun h30 G => ?_
 refine C9 ?_
 exact ⟨decide (a = 16), G, A3 [(0, 0)]⟩
 refine Aq (Cm _ _ []) 81 97 B rfl rfl ?_
 refine B4 fun B => ?_
 exact ⟨decide (a = 17), G, A3 [(0, 0)]⟩
 rintro x40_3 G
 replace G : Db.j3 d x40_3 = some r := G
 show Cp _ _ _ _ (mk _ _ _)
 unfold Db.j3 at G
 refine C1 rfl G (fun h32 G => ?_) fun h32 G => ?_
 refine An <| Aq (Cm _ _ [9]) 1 33 Bg rfl rfl ?_
 refine A8 ?_
 refine eT Fo z3 Jj ([128, 256] : List Int) eI ?_
 obtain ⟨y_7, hy_7, G⟩ := Ac G
 refine G7 [0] [0] [] false (Ew _ _ _ hy_7) ?_
 refine B4 fun B => ?_
 refine El ?_
 obtain rfl := oi_ G
 exact Ee [(0, 0)] ⟨rfl, rfl⟩
 refine C9 ?_
 refine Bt 1 9 Bg fun B => ?_
 refine El ?_
 obtain rfl := oi_ G
 exact Ee [(0, 0)] ⟨rfl, rfl⟩
theorem aR (d : Am) (r : Aa × Am) (G : Ki d = some r) : Fn Try.prog 41 1 [.ptr 0 0] [.box [.sl 1 (As eI d.L), vk d.At] 64] (fun d' b' => d' = .agg [vk r.1.Alg, vk r.1.Bits] /\ b' = [.box [.sl 1 (As eI r.2.L), vk r.2.At] 64]) := by
 unfold Ki at G
 refine Fn.of Try.func41 rfl rfl rfl fun w0 I ρ0 => ?_
 show Cp _ ⟨w0, I, ρ0, 1, 1, 12⟩ _ _ _
 refine Bt 1 9 Bg fun B => ?_
 refine C4 9 41 B ?_
 refine A8 ?_
 obtain ⟨y, hy, G⟩ := Ac G
 refine G7 [0] [0] [] false (D6 _ _ _ hy) ?_
 refine B4 fun B => ?_
 refine C4 41 89 B ?_
 refine A8 ?_
 obtain ⟨y_2, hy_2, G⟩ := Ac G
 refine G7 [0] [0] [] false (Zq _ _ _ hy_2) ?_
 refine Z9 Zk pZ oM ?_
 refine B4 fun B => ?_
 refine El ?_
 obtain rfl := oi_ G
 exact Ee [(0, 0)] ⟨rfl, rfl⟩
theorem O5 (d : Am) (r : (List Ai) × Am) (G : Dl d = some r) : Fn Try.prog 22 1 [.ptr 0 0] [.box [.sl 1 (As eI d.L), vk d.At] 64] (fun d' b' => d' = .row 1 /\ b' = [.box [.sl 1 (As eI r.2.L), vk r.2.At] 64, .row 45 3 (As Ai.enc r.1)]) := by
 unfold Dl at G
 refine Fn.of Try.func22 rfl rfl rfl fun w0 I ρ0 => ?_
 show Cp _ ⟨w0, I, ρ0, 1, 1, 36⟩ _ _ _
 refine Bt 1 9 Bg fun B => ?_
 refine Bt 9 17 B fun B => ?_
 refine An <| C4 17 49 B ?_
 refine A8 ?_
 obtain ⟨y, hy, G⟩ := Ac G
 refine G7 [0] [0] [] false (D6 _ _ _ hy) ?_
 refine B4 fun B => ?_
 refine Ar <| Gg (fun ((i_1, d_1, p_1) : Int × Am × List Ai) => mk [(0, .ptr 0 0), (3, .row 1), (4, vk i_1)] [(0, .box [.sl 1 (As eI d_1.L), vk d_1.At] 64), (1, .row 45 3 (As Ai.enc p_1))] 2) G (A3 [(0, 0)]) ?_
 rintro ⟨i_1, d_1, p_1⟩ m1 o1 G hn1
 replace G : Dl.l1 i_1 d_1 p_1 = some o1 := G
 show Cp _ _ _ _ (mk _ _ _)
 unfold Dl.l1 at G
 refine An <| Bt 2 18 Bg fun B => ?_
 refine C1 rfl G (fun h5 G => ?_) fun h5 G => ?_
 refine C9 ?_
 refine An <| Ar <| Bt 18 26 B fun B => ?_
 refine An <| C4 26 58 B ?_
 refine A8 ?_
 obtain ⟨y_2, hy_2, G⟩ := Ac G
 refine G7 [0] [0] [] false (D6 _ _ _ hy_2) ?_
 refine B4 fun B => ?_
 refine Ar <| Gg (fun ((n_2, d_2, b_2) : Int × Am × List UInt8) => mk [(0, .ptr 0 0), (3, .row 1), (4, vk i_1), (5, .row 2), (6, vk n_2)] [(0, .box [.sl 1 (As eI d_2.L), vk d_2.At] 64), (1, .row 45 3 (As Ai.enc p_1)), (2, .row 5 1 (As e8 b_2))] 3) G (A3 [(0, 0), (1, 1)]) ?_
 rintro ⟨n_2, d_2, b_2⟩ m2 o2 G hn2
 replace G : Dl.l2 i_1 p_1 n_2 d_2 b_2 = some o2 := G
 show Cp _ _ _ _ (mk _ _ _)
 unfold Dl.l2 at G
 refine An <| Bt 3 19 Bg fun B => ?_
 refine C1 rfl G (fun h9 G => ?_) fun h9 G => ?_
 refine C9 ?_
 refine An <| Ar <| Aq (Cm _ _ [35]) 19 83 B rfl rfl ?_
 refine A8 ?_
 refine eT Fo z3 Jj ([0, 1, 2, 103] : List Int) eI ?_
 obtain ⟨y_3, hy_3, G⟩ := Ac G
 refine G7 [0] [0] [] false (Ew _ _ _ hy_3) ?_
 refine D1 rfl rfl (L5 Rq Qe) rfl rfl ?_
 refine Ik Lc z5 gH ([(u8 y_3.1)] : List UInt8) e8 ?_
 obtain ⟨l, hl, G⟩ := Ac G
 refine Ei (rd := [2, 59]) rfl rfl (Fu Lc Nc .row rfl .row rfl hl rfl) rfl rfl ?_
 refine B4 fun B => ?_
 refine Aq (Cm _ _ []) 83 107 B rfl rfl ?_
 refine B4 fun B => ?_
 obtain rfl := oi_ G
 exact ⟨((W (n_2 - 1), y_3.2, l), m2), xO _, hn2, A3 [(0, 0), (1, 1), (2, 67)]⟩
 refine F8 ?_
 replace G := B1 G hn2
 refine J6 (σ' := mk [(0, .ptr 0 0), (3, .row 1), (4, vk i_1), (5, .sl 1 (As e8 b_2))] [(0, .box [.sl 1 (As eI d_2.L), vk d_2.At] 64), (1, .row 45 3 (As Ai.enc p_1))] 2) (A3 [(0, 0), (1, 1)]) ?_
 refine Aq (Cm _ _ []) 2 66 Bg rfl rfl ?_
 refine A8 ?_
 obtain ⟨y_5, hy_5, G⟩ := Ac G
 refine G7 [0] [0] [] false (aR _ _ hy_5) ?_
 refine A8 ?_
 refine Z9 Yt sN oR ?_
 refine Ik fE oR sE ([(Ai.mk y_5.1 b_2)] : List Ai) Ai.enc ?_
 obtain ⟨l_2, hl_2, G⟩ := Ac G
 refine Ei (rd := [1, 42]) rfl rfl (Fu fE Ai.enc_len .row rfl .row rfl hl_2 rfl) rfl rfl ?_
 refine B4 fun B => ?_
 refine Aq (Cm _ _ []) 66 90 B rfl rfl ?_
 refine B4 fun B => ?_
 obtain rfl := oi_ G
 exact ⟨((W (i_1 - 1), y_5.2, l_2), m1), xO _, hn1, A3 [(0, 0), (1, 50)]⟩
 refine F8 ?_
 replace G := B1 G hn1
 refine Bt 18 34 B fun B => ?_
 refine El ?_
 obtain rfl := oi_ G
 exact Ee [(0, 0), (1, 1)] ⟨rfl, rfl⟩
theorem Sr (d : Am) (n : Int) (r : Bool × Am) (G : Hd d n = some r) : Fn Try.prog 23 1 [.ptr 0 0, vk n] [.box [.sl 1 (As eI d.L), vk d.At] 64] (fun d' b' => d' = .val (.bool r.1) /\ b' = [.box [.sl 1 (As eI r.2.L), vk r.2.At] 64]) := by
 unfold Hd at G
 refine Fn.of Try.func23 rfl rfl rfl fun w0 I ρ0 => ?_
 show Cp _ ⟨w0, I, ρ0, 1, 1, 11⟩ _ _ _
 refine Bt 1 9 Bg fun B => ?_
 refine C4 9 65 B ?_
 refine A8 ?_
 obtain ⟨y, hy, G⟩ := Ac G
 refine G7 [0] [0] [] false (D6 _ _ _ hy) ?_
 refine B4 fun B => ?_
 refine El ?_
 obtain rfl := oi_ G
 exact Ee [(0, 0)] ⟨rfl, rfl⟩
theorem X9 (d : Am) (r : Bv × Am) (G : Cn d = some r) : Fn Try.prog 25 1 [.ptr 0 0] [.box [.sl 1 (As eI d.L), vk d.At] 64] (fun d' b' => d' = .agg [.sl 2 (As A5.enc r.1.Sections), .row 1] /\ b' = [.box [.sl 1 (As eI r.2.L), vk r.2.At] 64, .row 57 2 (As Bc.enc r.1.Symbols)]) := by
 unfold Cn at G
 refine Fn.of Try.func25 rfl rfl rfl fun w0 I ρ0 => ?_
 show Cp _ ⟨w0, I, ρ0, 1, 1, 68⟩ _ _ _
 refine Bt 1 9 Bg fun B => ?_
 refine Bt 9 17 B fun B => ?_
 refine An <| Bt 17 25 B fun B => ?_
 refine Ar <| Gg (fun ((i_1, d_1, l_1) : Int × Am × List A5) => mk [(0, .ptr 0 0), (2, .ptr 1 0), (3, .ptr 2 0), (4, vk i_1)] [(0, .box [.sl 1 (As eI d_1.L), vk d_1.At] 64), (1, .box [.val (.slice none 0 0), .val (.slice none 0 0)] 53), (2, .box [.row 3, .val (.slice none 0 0)] 53), (3, .row 77 2 (As A5.enc l_1))] 4) G (A3 [(0, 0), (1, 1), (2, 9)]) ?_
 rintro ⟨i_1, d_1, l_1⟩ m1 o1 G hn1
 replace G : Cn.l1 i_1 d_1 l_1 = some o1 := G
 show Cp _ _ _ _ (mk _ _ _)
 unfold Cn.l1 at G
 refine An <| C4 4 36 Bg ?_
 refine A8 ?_
 obtain ⟨y, hy, G⟩ := Ac G
 refine G7 [0] [0] [] false (D6 _ _ _ hy) ?_
 refine B4 fun B => ?_
 refine C1 rfl G (fun h5 G => ?_) fun h5 G => ?_
 refine C9 ?_
 refine An <| Ar <| Bt 36 44 B fun B => ?_
 refine An <| C4 44 68 B ?_
 refine A8 ?_
 obtain ⟨y_2, hy_2, G⟩ := Ac G
 refine G7 [0] [0] [] false (D6 _ _ _ hy_2) ?_
 refine B4 fun B => ?_
 refine Ar <| Gg (fun ((n_2, d_2, b_2) : Int × Am × List UInt8) => mk [(0, .ptr 0 0), (2, .ptr 1 0), (3, .ptr 2 0), (4, vk i_1), (5, .row 3), (6, vk n_2)] [(0, .box [.sl 1 (As eI d_2.L), vk d_2.At] 64), (1, .box [.val (.slice none 0 0), .val (.slice none 0 0)] 53), (2, .box [.row 4, .val (.slice none 0 0)] 53), (3, .row 5 1 (As e8 b_2)), (4, .row 77 2 (As A5.enc l_1))] 5) G (A3 [(0, 0), (1, 1), (2, 2), (4, 3)]) ?_
 rintro ⟨n_2, d_2, b_2⟩ m2 o2 G hn2
 replace G : Cn.l2 i_1 l_1 n_2 d_2 b_2 = some o2 := G
 show Cp _ _ _ _ (mk _ _ _)
 unfold Cn.l2 at G
 refine An <| Bt 5 21 Bg fun B => ?_
 refine C1 rfl G (fun h9 G => ?_) fun h9 G => ?_
 refine C9 ?_
 refine An <| Ar <| Aq (Cm _ _ [37]) 21 85 B rfl rfl ?_
 refine A8 ?_
 refine eT Fo z3 Jj ([0, 1, 2, 103, 230, 9] : List Int) eI ?_
 obtain ⟨y_3, hy_3, G⟩ := Ac G
 refine G7 [0] [0] [] false (Ew _ _ _ hy_3) ?_
 refine D1 rfl rfl (L5 Rq Qe) rfl rfl ?_
 refine Ik Lc z5 gH ([(u8 y_3.1)] : List UInt8) e8 ?_
 obtain ⟨l, hl, G⟩ := Ac G
 refine Ei (rd := [3, 61]) rfl rfl (Fu Lc Nc .row rfl .row rfl hl rfl) rfl rfl ?_
 refine B4 fun B => ?_
 refine Aq (Cm _ _ []) 85 109 B rfl rfl ?_
 refine B4 fun B => ?_
 obtain rfl := oi_ G
 exact ⟨((W (n_2 - 1), y_3.2, l), m2), xO _, hn2, A3 [(0, 0), (1, 1), (2, 2), (3, 69), (4, 4)]⟩
 refine F8 ?_
 replace G := B1 G hn2
 refine J6 (σ' := mk [(0, .ptr 0 0), (2, .ptr 1 0), (3, .ptr 2 0), (4, vk i_1), (5, .sl 1 (As e8 b_2))] [(0, .box [.sl 1 (As eI d_2.L), vk d_2.At] 64), (1, .box [.val (.slice none 0 0), .val (.slice none 0 0)] 53), (2, .box [.row 3, .val (.slice none 0 0)] 53), (3, .row 77 2 (As A5.enc l_1))] 4) (A3 [(0, 0), (1, 1), (2, 2), (3, 4)]) ?_
 refine Br (Cm _ _ []) (by kernel_rfl) [0, 1, 0, 0, 8, 28, 60, 0, 0, 256, 896, 1920, 4092, 0, 16380, 32764, 65535, 131071, 262143] 4 156 Bg rfl rfl (by kernel_rfl) ?_
 refine A8 ?_
 refine Ik Xs z9 vC ([(⟨#[46, 116, 101, 120, 116]⟩ : ByteArray), (⟨#[46, 100, 97, 116, 97]⟩ : ByteArray), (⟨#[46, 98, 115, 115]⟩ : ByteArray)] : List ByteArray) eS ?_
 refine A8 ?_
 obtain ⟨q_3, hq_3, G⟩ := Ac G
 refine D1 rfl rfl (gZ hq_3) rfl rfl ?_
 obtain ⟨e_3, he_3, G⟩ := Ac G
 refine A8 ?_
 refine Ei (rd := [20]) rfl rfl (.loadR1 Wl (C8 Ps (A4 he_3) (o := 0) (c := .str e_3) rfl rfl)) rfl rfl ?_
 refine Ik Xs z9 vC ([(⟨#[]⟩ : ByteArray), (⟨#[49]⟩ : ByteArray)] : List ByteArray) eS ?_
 refine A8 ?_
 obtain ⟨q_4, hq_4, G⟩ := Ac G
 refine D1 rfl rfl (Jv hq_4) rfl rfl ?_
 obtain ⟨e_4, he_4, G⟩ := Ac G
 refine A8 ?_
 refine Ei (rd := [60]) rfl rfl (.loadR1 Wl (C8 Ps (A4 he_4) (o := 0) (c := .str e_4) rfl rfl)) rfl rfl ?_
 obtain ⟨s_2, hs_2, G⟩ := Ac G
 refine D1 rfl rfl (vF hs_2) rfl rfl ?_
 refine A8 ?_
 refine Z9 iZ wI wS ?_
 refine Ik rJ wS wC ([(A5.mk s_2 b_2)] : List A5) A5.enc ?_
 obtain ⟨l_2, hl_2, G⟩ := Ac G
 refine Ei (rd := [3, 124]) rfl rfl (Fu rJ A5.enc_len .row rfl .row rfl hl_2 rfl) rfl rfl ?_
 refine B4 fun B => ?_
 refine Aq (Cm _ _ []) 156 180 B rfl rfl ?_
 refine B4 fun B => ?_
 obtain rfl := oi_ G
 exact ⟨((W (i_1 + 1), d_2, l_2), m1), xO _, hn1, A3 [(0, 0), (1, 1), (2, 2), (3, 132)]⟩
 refine F8 ?_
 replace G := B1 G hn1
 refine C4 36 52 B ?_
 refine Ik Xs z9 vC ([(⟨#[109, 100, 53, 95, 105, 110, 105, 116]⟩ : ByteArray), (⟨#[115, 104, 97, 49]⟩ : ByteArray), (⟨#[109, 97, 105, 110]⟩ : ByteArray), (⟨#[97, 101, 115, 103, 99, 109, 95, 120]⟩ : ByteArray), (⟨#[109, 100, 95, 53]⟩ : ByteArray), (⟨#[114, 115, 97, 95, 115, 105, 103, 110]⟩ : ByteArray), (⟨#[95, 114, 115, 97]⟩ : ByteArray)] : List ByteArray) eS ?_
 refine B4 fun B => ?_
 refine An <| Bt 52 60 B fun B => ?_
 refine Ar <| Gg (fun ((i_4, d_4, l_4) : Int × Am × List Bc) => mk [(0, .ptr 0 0), (2, .ptr 1 0), (3, .ptr 2 0), (7, .row 3), (8, vk i_4)] [(0, .box [.sl 1 (As eI d_4.L), vk d_4.At] 64), (1, .box [.val (.slice none 0 0), .val (.slice none 0 0)] 53), (2, .box [.row 4, .row 5] 53), (3, .row 9 1 (As eS ([(⟨#[109, 100, 53, 95, 105, 110, 105, 116]⟩ : ByteArray), (⟨#[115, 104, 97, 49]⟩ : ByteArray), (⟨#[109, 97, 105, 110]⟩ : ByteArray), (⟨#[97, 101, 115, 103, 99, 109, 95, 120]⟩ : ByteArray), (⟨#[109, 100, 95, 53]⟩ : ByteArray), (⟨#[114, 115, 97, 95, 115, 105, 103, 110]⟩ : ByteArray), (⟨#[95, 114, 115, 97]⟩ : ByteArray)] : List ByteArray))), (4, .row 77 2 (As A5.enc l_1)), (5, .row 57 2 (As Bc.enc l_4))] 6) G (A3 [(0, 0), (1, 1), (2, 2), (3, 36), (4, 3)]) ?_
 rintro ⟨i_4, d_4, l_4⟩ m4 o4 G hn4
 replace G : Cn.l4 l_1 i_4 d_4 l_4 = some o4 := G
 show Cp _ _ _ _ (mk _ _ _)
 unfold Cn.l4 at G
 refine An <| Bt 6 38 Bg fun B => ?_
 refine C1 rfl G (fun h17 G => ?_) fun h17 G => ?_
 refine C9 ?_
 refine By (ι := Am × List Bc) (fun ((d_5, l_5) : Am × List Bc) => mk [(0, .ptr 0 0), (2, .ptr 1 0), (3, .ptr 2 0), (7, .row 3), (8, vk i_4)] [(0, .box [.sl 1 (As eI d_5.L), vk d_5.At] 64), (1, .box [.val (.slice none 0 0), .val (.slice none 0 0)] 53), (2, .box [.row 4, .row 5] 53), (3, .row 9 1 (As eS ([(⟨#[109, 100, 53, 95, 105, 110, 105, 116]⟩ : ByteArray), (⟨#[115, 104, 97, 49]⟩ : ByteArray), (⟨#[109, 97, 105, 110]⟩ : ByteArray), (⟨#[97, 101, 115, 103, 99, 109, 95, 120]⟩ : ByteArray), (⟨#[109, 100, 95, 53]⟩ : ByteArray), (⟨#[114, 115, 97, 95, 115, 105, 103, 110]⟩ : ByteArray), (⟨#[95, 114, 115, 97]⟩ : ByteArray)] : List ByteArray))), (4, .row 77 2 (As A5.enc l_1)), (5, .row 57 2 (As Bc.enc l_5))] 6) (fun ((d_5, l_5) : Am × List Bc) => Cn.j5 i_4 d_5 l_5 = some o4) ?_ ?_
 refine Ar <| C4 38 54 B ?_
 refine A8 ?_
 obtain ⟨y_4, hy_4, G⟩ := Ac G
 refine G7 [0] [0] [] false (Sr _ _ _ hy_4) ?_
 refine D2 fun B => ?_
 refine C1 rfl G (fun h19 G => ?_) fun h19 G => ?_
 refine Br (Cm _ _ []) (by kernel_rfl) [0, 1, 0, 0, 12, 28, 0, 64, 252, 508, 1023, 2047, 4095] 54 158 B rfl rfl (by kernel_rfl) ?_
 refine A8 ?_
 obtain ⟨e_5, he_5, G⟩ := Ac G
 refine A8 ?_
 refine Ei (rd := [3]) rfl rfl (.loadR1 Wl (C8 Ps (A4 he_5) (o := 0) (c := .str e_5) rfl rfl)) rfl rfl ?_
 refine A8 ?_
 obtain ⟨y_5, hy_5, G⟩ := Ac G
 refine G7 [0] [0] [] false (D6 _ _ _ hy_5) ?_
 refine Z9 dG tC uY ?_
 refine Ik iA uY tB ([(Bc.mk e_5 y_5.1)] : List Bc) Bc.enc ?_
 obtain ⟨l_3, hl_3, G⟩ := Ac G
 refine Ei (rd := [5, 126]) rfl rfl (Fu iA Bc.enc_len .row rfl .row rfl hl_3 rfl) rfl rfl ?_
 refine B4 fun B => ?_
 exact ⟨(y_5.2, l_3), G, A3 [(0, 0), (1, 1), (2, 2), (3, 3), (4, 4), (5, 134)]⟩
 refine C9 ?_
 exact ⟨(y_4.2, l_4), G, A3 [(0, 0), (1, 1), (2, 2), (3, 3), (4, 4), (5, 5)]⟩
 rintro ⟨d_5, l_5⟩ G
 replace G : Cn.j5 i_4 d_5 l_5 = some o4 := G
 show Cp _ _ _ _ (mk _ _ _)
 unfold Cn.j5 at G
 refine Aq (Cm _ _ []) 6 30 Bg rfl rfl ?_
 refine B4 fun B => ?_
 obtain rfl := oi_ G
 exact ⟨((W (i_4 + 1), d_5, l_5), m4), xO _, hn4, A3 [(0, 0), (1, 1), (2, 2), (3, 3), (4, 4), (5, 5)]⟩
 refine F8 ?_
 replace G := B1 G hn4
 refine Bt 38 54 B fun B => ?_
 refine El ?_
 obtain rfl := oi_ G
 exact Ee [(0, 0), (1, 5)] ⟨rfl, rfl⟩
theorem Qz (d : Am) (most : Int) (r : (List UInt8) × Am) (G : Ft d most = some r) : Fn Try.prog 11 1 [.ptr 0 0, vk most] [.box [.sl 1 (As eI d.L), vk d.At] 64] (fun d' b' => d' = .row 1 /\ b' = [.box [.sl 1 (As eI r.2.L), vk r.2.At] 64, .row 5 1 (As e8 r.1)]) := by
 unfold Ft at G
 refine Fn.of Try.func11 rfl rfl rfl fun w0 I ρ0 => ?_
 show Cp _ ⟨w0, I, ρ0, 1, 1, 23⟩ _ _ _
 refine Bt 1 9 Bg fun B => ?_
 refine Bt 9 17 B fun B => ?_
 refine An <| C4 17 57 B ?_
 refine A8 ?_
 obtain ⟨y, hy, G⟩ := Ac G
 refine G7 [0] [0] [] false (D6 _ _ _ hy) ?_
 refine B4 fun B => ?_
 refine Ar <| Gg (fun ((n_1, d_1, b_1) : Int × Am × List UInt8) => mk [(0, .ptr 0 0), (5, .row 1), (6, vk n_1)] [(0, .box [.sl 1 (As eI d_1.L), vk d_1.At] 64), (1, .row 5 1 (As e8 b_1))] 2) G (A3 [(0, 0)]) ?_
 rintro ⟨n_1, d_1, b_1⟩ m1 o1 G hn1
 replace G : Ft.l1 n_1 d_1 b_1 = some o1 := G
 show Cp _ _ _ _ (mk _ _ _)
 unfold Ft.l1 at G
 refine An <| Bt 2 18 Bg fun B => ?_
 refine C1 rfl G (fun h5 G => ?_) fun h5 G => ?_
 refine C9 ?_
 refine An <| Ar <| Aq (Cm _ _ [34]) 18 82 B rfl rfl ?_
 refine A8 ?_
 refine eT Fo z3 Jj ([0, 1, 2, 103] : List Int) eI ?_
 obtain ⟨y_2, hy_2, G⟩ := Ac G
 refine G7 [0] [0] [] false (Ew _ _ _ hy_2) ?_
 refine D1 rfl rfl (L5 Rq Qe) rfl rfl ?_
 refine Ik Lc z5 gH ([(u8 y_2.1)] : List UInt8) e8 ?_
 obtain ⟨l, hl, G⟩ := Ac G
 refine Ei (rd := [1, 58]) rfl rfl (Fu Lc Nc .row rfl .row rfl hl rfl) rfl rfl ?_
 refine B4 fun B => ?_
 refine Aq (Cm _ _ []) 82 106 B rfl rfl ?_
 refine B4 fun B => ?_
 obtain rfl := oi_ G
 exact ⟨((W (n_1 - 1), y_2.2, l), m1), xO _, hn1, A3 [(0, 0), (1, 66)]⟩
 refine F8 ?_
 replace G := B1 G hn1
 refine Bt 18 34 B fun B => ?_
 refine El ?_
 obtain rfl := oi_ G
 exact Ee [(0, 0), (1, 1)] ⟨rfl, rfl⟩
theorem Sw (b : Int) (r : Int) (G : Dg b = some r) : Fn Try.prog 77 0 [vk b] [] (fun d' b' => d' = vk r /\ b' = []) := by
 unfold Dg at G
 refine Fn.of Try.func77 rfl rfl rfl fun w0 I ρ0 => ?_
 show Cp _ ⟨w0, I, ρ0, 0, 0, 25⟩ _ _ _
 refine Bt 0 8 Bg fun B => ?_
 refine An <| Ar <| By (ι := Bool) (fun (x3_1 : Bool) => mk [(0, vk b), (3, .val (.bool x3_1))] [] 0) (fun (x3_1 : Bool) => Dg.j1 b x3_1 = some r) ?_ ?_
 refine Aq (Cm _ _ []) 8 64 B rfl rfl ?_
 refine A8 ?_
 rcases If G with ⟨h2, G⟩ | ⟨h2, G⟩
 refine B4 fun B => ?_
 exact ⟨true, G, A3 []⟩
 refine B4 fun B => ?_
 exact ⟨decide (16384 < b), G, A3 []⟩
 rintro x3_1 G
 replace G : Dg.j1 b x3_1 = some r := G
 show Cp _ _ _ _ (mk _ _ _)
 unfold Dg.j1 at G
 refine C1 rfl G (fun h5 G => ?_) fun h5 G => ?_
 refine C4 0 8 Bg ?_
 exact F9
 refine Bt 0 24 Bg fun B => ?_
 refine C1 rfl G (fun h8 G => ?_) fun h8 G => ?_
 refine C4 24 32 B ?_
 exact F9
 refine Bt 24 48 B fun B => ?_
 refine C1 rfl G (fun h11 G => ?_) fun h11 G => ?_
 refine C4 48 56 B ?_
 exact F9
 refine Bt 48 72 B fun B => ?_
 refine C1 rfl G (fun h14 G => ?_) fun h14 G => ?_
 refine C4 72 80 B ?_
 exact F9
 refine Bt 72 96 B fun B => ?_
 refine C1 rfl G (fun h17 G => ?_) fun h17 G => ?_
 refine C4 96 104 B ?_
 exact F9
 refine Bt 96 120 B fun B => ?_
 refine C1 rfl G (fun h20 G => ?_) fun h20 G => ?_
 refine C4 120 128 B ?_
 exact F9
 refine C9 ?_
 refine Bt 120 128 B fun B => ?_
 exact Nv
theorem Hf (b : Int) (sizes : (List Int)) (strengths : (List Int)) (r : Int) (G : B5 b sizes strengths = some r) : Fn Try.prog 78 0 [vk b, .sl 1 (As eI sizes), .sl 1 (As eI strengths)] [] (fun d' b' => d' = vk r /\ b' = []) := by
 unfold B5 at G
 refine Fn.of Try.func78 rfl rfl rfl fun w0 I ρ0 => ?_
 show Cp _ ⟨w0, I, ρ0, 0, 0, 24⟩ _ _ _
 refine Bt 0 8 Bg fun B => ?_
 refine An <| Bt 8 16 B fun B => ?_
 refine Ar <| Gg (fun (i_1 : Int) => mk [(0, vk b), (1, .sl 1 (As eI sizes)), (2, .sl 1 (As eI strengths)), (7, vk i_1)] [] 0) G (A3 []) ?_
 rintro i_1 m1 o1 G hn1
 replace G : B5.l1 b sizes strengths i_1 = some o1 := G
 show Cp _ _ _ _ (mk _ _ _)
 unfold B5.l1 at G
 refine An <| Bt 0 32 Bg fun B => ?_
 refine C1 rfl G (fun h4 G => ?_) fun h4 G => ?_
 refine C9 ?_
 refine An <| Ar <| C4 32 80 B ?_
 refine A8 ?_
 obtain ⟨e, he, G⟩ := Ac G
 refine A8 ?_
 refine Uw he ?_
 refine B4 fun B => ?_
 refine C1 rfl G (fun h6 G => ?_) fun h6 G => ?_
 refine C4 80 120 B ?_
 refine A8 ?_
 obtain ⟨e_2, he_2, G⟩ := Ac G
 refine A8 ?_
 refine Uw he_2 ?_
 refine B4 fun B => ?_
 refine El ?_
 replace G := B1 G hn1
 exact Xl
 refine C9 ?_
 refine Aq (Cm _ _ []) 80 104 B rfl rfl ?_
 refine B4 fun B => ?_
 obtain rfl := oi_ G
 exact ⟨(W (i_1 + 1), m1), xO _, hn1, A3 []⟩
 refine F8 ?_
 replace G := B1 G hn1
 refine Bt 32 40 B fun B => ?_
 exact Nv
theorem T6 (alg : Int) (r : Int) (G : C7 alg = some r) : Fn Try.prog 79 0 [vk alg] [] (fun d' b' => d' = vk r /\ b' = []) := by
 unfold C7 at G
 refine Fn.of Try.func79 rfl rfl rfl fun w0 I ρ0 => ?_
 show Cp _ ⟨w0, I, ρ0, 0, 0, 21⟩ _ _ _
 refine Bt 0 8 Bg fun B => ?_
 refine An <| Bt 8 16 B fun B => ?_
 refine Ar <| Bt 16 32 B fun B => ?_
 refine C1 rfl G (fun h4 G => ?_) fun h4 G => ?_
 refine C4 32 40 B ?_
 exact F9
 refine Bt 32 48 B fun B => ?_
 refine C1 rfl G (fun h7 G => ?_) fun h7 G => ?_
 refine C4 48 56 B ?_
 exact F9
 refine By (ι := Bool) (fun (x8_1 : Bool) => mk [(3, vk alg), (8, .val (.bool x8_1))] [] 0) (fun (x8_1 : Bool) => C7.j1 alg x8_1 = some r) ?_ ?_
 refine Bt 48 64 B fun B => ?_
 refine C1 rfl G (fun h10 G => ?_) fun h10 G => ?_
 refine C9 ?_
 exact ⟨decide (alg = 3), G, A3 []⟩
 refine Bt 64 80 B fun B => ?_
 refine C1 rfl G (fun h12 G => ?_) fun h12 G => ?_
 refine C9 ?_
 exact ⟨decide (alg = 8), G, A3 []⟩
 refine Aq (Cm _ _ []) 80 96 B rfl rfl ?_
 refine B4 fun B => ?_
 exact ⟨decide (alg = 21), G, A3 []⟩
 rintro x8_1 G
 replace G : C7.j1 alg x8_1 = some r := G
 show Cp _ _ _ _ (mk _ _ _)
 unfold C7.j1 at G
 refine C1 rfl G (fun h14 G => ?_) fun h14 G => ?_
 refine C4 0 8 Bg ?_
 exact F9
 refine Bt 0 16 Bg fun B => ?_
 refine C1 rfl G (fun h17 G => ?_) fun h17 G => ?_
 refine C4 16 24 B ?_
 exact F9
 refine By (ι := Bool) (fun (x14_2 : Bool) => mk [(3, vk alg), (14, .val (.bool x14_2))] [] 0) (fun (x14_2 : Bool) => C7.j2 alg x14_2 = some r) ?_ ?_
 refine Bt 16 32 B fun B => ?_
 refine C1 rfl G (fun h20 G => ?_) fun h20 G => ?_
 refine C9 ?_
 exact ⟨decide (alg = 18), G, A3 []⟩
 refine Aq (Cm _ _ []) 32 48 B rfl rfl ?_
 refine B4 fun B => ?_
 exact ⟨decide (alg = 22), G, A3 []⟩
 rintro x14_2 G
 replace G : C7.j2 alg x14_2 = some r := G
 show Cp _ _ _ _ (mk _ _ _)
 unfold C7.j2 at G
 refine C1 rfl G (fun h22 G => ?_) fun h22 G => ?_
 refine C4 0 8 Bg ?_
 exact F9
 refine Bt 0 16 Bg fun B => ?_
 refine C1 rfl G (fun h25 G => ?_) fun h25 G => ?_
 refine C4 16 24 B ?_
 exact F9
 refine Bt 16 32 B fun B => ?_
 refine C1 rfl G (fun h28 G => ?_) fun h28 G => ?_
 refine C4 32 40 B ?_
 exact F9
 refine C9 ?_
 refine Bt 32 40 B fun B => ?_
 exact Nv
theorem Rh (u : Aa) (r : Int) (G : Ay u = some r) : Fn Try.prog 55 0 [.agg [vk u.Alg, vk u.Bits]] [] (fun d' b' => d' = vk r /\ b' = []) := by
 unfold Ay at G
 refine Fn.of Try.func55 rfl rfl rfl fun w0 I ρ0 => ?_
 show Cp _ ⟨w0, I, ρ0, 0, 0, 76⟩ _ _ _
 refine Bt 0 16 Bg fun B => ?_
 refine Bt 16 40 B fun B => ?_
 refine An <| Bt 40 56 B fun B => ?_
 refine Ar <| By (ι := Bool) (fun (x8_1 : Bool) => mk [(1, .ptr 0 0), (3, vk u.Bits), (7, vk u.Alg), (8, .val (.bool x8_1))] [(0, .box [vk u.Alg, vk u.Bits] 43)] 1) (fun (x8_1 : Bool) => Ay.j1 u x8_1 = some r) ?_ ?_
 refine Bt 56 72 B fun B => ?_
 refine C1 rfl G (fun h5 G => ?_) fun h5 G => ?_
 refine C9 ?_
 exact ⟨decide (u.Alg = 5), G, A3 [(0, 0)]⟩
 refine Bt 72 88 B fun B => ?_
 refine C1 rfl G (fun h7 G => ?_) fun h7 G => ?_
 refine C9 ?_
 exact ⟨decide (u.Alg = 6), G, A3 [(0, 0)]⟩
 refine Bt 88 104 B fun B => ?_
 refine C1 rfl G (fun h9 G => ?_) fun h9 G => ?_
 refine C9 ?_
 exact ⟨decide (u.Alg = 10), G, A3 [(0, 0)]⟩
 refine Aq (Cm _ _ []) 104 120 B rfl rfl ?_
 refine B4 fun B => ?_
 exact ⟨decide (u.Alg = 11), G, A3 [(0, 0)]⟩
 rintro x8_1 G
 replace G : Ay.j1 u x8_1 = some r := G
 show Cp _ _ _ _ (mk _ _ _)
 unfold Ay.j1 at G
 refine C1 rfl G (fun h11 G => ?_) fun h11 G => ?_
 refine C4 1 25 Bg ?_
 refine A8 ?_
 obtain ⟨y, hy, G⟩ := Ac G
 refine Ix (Sw _ _ hy) ?_
 exact F9
 refine By (ι := Bool) (fun (x15_2 : Bool) => mk [(1, .ptr 0 0), (3, vk u.Bits), (7, vk u.Alg), (15, .val (.bool x15_2))] [(0, .box [vk u.Alg, vk u.Bits] 43)] 1) (fun (x15_2 : Bool) => Ay.j2 u x15_2 = some r) ?_ ?_
 refine Bt 1 17 Bg fun B => ?_
 refine C1 rfl G (fun h14 G => ?_) fun h14 G => ?_
 refine C9 ?_
 exact ⟨decide (u.Alg = 7), G, A3 [(0, 0)]⟩
 refine Aq (Cm _ _ []) 17 33 B rfl rfl ?_
 refine B4 fun B => ?_
 exact ⟨decide (u.Alg = 12), G, A3 [(0, 0)]⟩
 rintro x15_2 G
 replace G : Ay.j2 u x15_2 = some r := G
 show Cp _ _ _ _ (mk _ _ _)
 unfold Ay.j2 at G
 refine C1 rfl G (fun h16 G => ?_) fun h16 G => ?_
 refine An <| By (ι := Bool) (fun (x35_3 : Bool) => mk [(3, vk u.Bits), (35, .val (.bool x35_3))] [] 0) (fun (x35_3 : Bool) => Ay.j3 u x35_3 = some r) ?_ ?_
 refine Aq (Cm _ _ []) 1 145 Bg rfl rfl ?_
 refine A8 ?_
 rcases If G with ⟨h17, G⟩ | ⟨h17, G⟩
 refine B4 fun B => ?_
 exact ⟨true, G, A3 []⟩
 refine A8 ?_
 rcases If G with ⟨h19, G⟩ | ⟨h19, G⟩
 refine B4 fun B => ?_
 exact ⟨true, G, A3 []⟩
 refine A8 ?_
 rcases If G with ⟨h21, G⟩ | ⟨h21, G⟩
 refine B4 fun B => ?_
 exact ⟨true, G, A3 []⟩
 refine A8 ?_
 rcases If G with ⟨h23, G⟩ | ⟨h23, G⟩
 refine B4 fun B => ?_
 exact ⟨true, G, A3 []⟩
 refine B4 fun B => ?_
 exact ⟨decide (u.Bits = 521), G, A3 []⟩
 rintro x35_3 G
 replace G : Ay.j3 u x35_3 = some r := G
 show Cp _ _ _ _ (mk _ _ _)
 unfold Ay.j3 at G
 refine C1 rfl G (fun h26 G => ?_) fun h26 G => ?_
 refine C4 0 24 Bg ?_
 refine A8 ?_
 obtain ⟨q, hq, G⟩ := Ac G
 refine D1 rfl rfl (Jv hq) rfl rfl ?_
 exact F9
 refine C9 ?_
 refine Bt 0 8 Bg fun B => ?_
 exact Nv
 refine Bt 1 17 Bg fun B => ?_
 refine C1 rfl G (fun h30 G => ?_) fun h30 G => ?_
 refine C4 17 57 B ?_
 refine A8 ?_
 refine Ik Fo z3 Jj ([44, 65, 87] : List Int) eI ?_
 refine Ik Fo z3 Jj ([128, 192, 256] : List Int) eI ?_
 obtain ⟨y_2, hy_2, G⟩ := Ac G
 refine G7 [25, 33] [] [] true (Hf _ _ _ _ hy_2) ?_
 exact F9
 refine Bt 17 33 B fun B => ?_
 refine C1 rfl G (fun h33 G => ?_) fun h33 G => ?_
 refine C4 33 73 B ?_
 refine A8 ?_
 refine Ik Fo z3 Jj ([512, 768, 1024] : List Int) eI ?_
 refine Ik Fo z3 Jj ([128, 192, 256] : List Int) eI ?_
 obtain ⟨y_3, hy_3, G⟩ := Ac G
 refine G7 [41, 49] [] [] true (Hf _ _ _ _ hy_3) ?_
 exact F9
 refine Bt 33 49 B fun B => ?_
 refine C1 rfl G (fun h36 G => ?_) fun h36 G => ?_
 refine C4 49 89 B ?_
 refine A8 ?_
 refine Ik Fo z3 Jj ([40, 128] : List Int) eI ?_
 refine Ik Fo z3 Jj ([40, 60] : List Int) eI ?_
 obtain ⟨y_4, hy_4, G⟩ := Ac G
 refine G7 [57, 65] [] [] true (Hf _ _ _ _ hy_4) ?_
 exact F9
 refine Bt 49 65 B fun B => ?_
 refine C1 rfl G (fun h39 G => ?_) fun h39 G => ?_
 refine C4 65 105 B ?_
 refine A8 ?_
 refine Ik Fo z3 Jj ([112, 168] : List Int) eI ?_
 refine Ik Fo z3 Jj ([80, 112] : List Int) eI ?_
 obtain ⟨y_5, hy_5, G⟩ := Ac G
 refine G7 [73, 81] [] [] true (Hf _ _ _ _ hy_5) ?_
 exact F9
 refine By (ι := Bool) (fun (x62_4 : Bool) => mk [(1, .ptr 0 0), (3, vk u.Bits), (62, .val (.bool x62_4))] [(0, .box [vk u.Alg, vk u.Bits] 43)] 1) (fun (x62_4 : Bool) => Ay.j4 u x62_4 = some r) ?_ ?_
 refine Bt 65 81 B fun B => ?_
 refine C1 rfl G (fun h42 G => ?_) fun h42 G => ?_
 refine C9 ?_
 exact ⟨decide (u.Alg = 16), G, A3 [(0, 0)]⟩
 refine Aq (Cm _ _ []) 81 97 B rfl rfl ?_
 refine B4 fun B => ?_
 exact ⟨decide (u.Alg = 17), G, A3 [(0, 0)]⟩
 rintro x62_4 G
 replace G : Ay.j4 u x62_4 = some r := G
 show Cp _ _ _ _ (mk _ _ _)
 unfold Ay.j4 at G
 refine C1 rfl G (fun h44 G => ?_) fun h44 G => ?_
 refine C4 1 41 Bg ?_
 refine A8 ?_
 refine Ik Fo z3 Jj ([128, 256] : List Int) eI ?_
 refine Ik Fo z3 Jj ([128, 256] : List Int) eI ?_
 obtain ⟨y_6, hy_6, G⟩ := Ac G
 refine G7 [9, 17] [] [] true (Hf _ _ _ _ hy_6) ?_
 exact F9
 refine C9 ?_
 refine C4 1 65 Bg ?_
 refine A8 ?_
 refine Ik Fo z3 Jj ([0] : List Int) eI ?_
 refine A8 ?_
 obtain ⟨y_7, hy_7, G⟩ := Ac G
 refine Ix (T6 _ _ hy_7) ?_
 refine Ik Fo z3 Jj ([y_7] : List Int) eI ?_
 obtain ⟨y_8, hy_8, G⟩ := Ac G
 refine G7 [9, 41] [] [] true (Hf _ _ _ _ hy_8) ?_
 exact F9
end Go.Proofs.Ytfkgbfhpibiheaa
