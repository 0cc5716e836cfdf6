import Derived.Test.YtfkgbfhpibiheaaT1
import Derived.Test.YtfkgbfhpibiheaaA2
set_option linter.unusedVariables false
set_option linter.unusedSimpArgs false
set_option maxRecDepth 100000
set_option maxHeartbeats 1600000
namespace Go.Proofs.Ytfkgbfhpibiheaa
open Go.RowKit
theorem Uu (a : Aa) (b : Aa) (r : Int) (G : Gb a b = some r) : Fn Try.prog 45 0 [.agg [vk a.Alg, vk a.Bits], .agg [vk b.Alg, vk b.Bits]] [] (fun d' b' => d' = vk r /\ b' = []) := by
 unfold Gb at G
 refine Fn.of Try.func45 rfl rfl rfl fun w0 I ρ0 => ?_
 show Cp _ ⟨w0, I, ρ0, 0, 0, 20⟩ _ _ _
 refine Bt 0 24 Bg fun B => ?_
 refine An <| Bt 24 64 B fun B => ?_
 refine C1 rfl G (fun h3 G => ?_) fun h3 G => ?_
 refine C4 64 112 B ?_
 exact F9
 refine C9 ?_
 refine Bt 64 112 B fun B => ?_
 exact Nv
theorem Gs (data : List Aa) (a : Int) (b : Int) (cmp : Aa -> Aa -> Option (Int)) (hf_cmp : ∀ (x0 : Aa) (x1 : Aa) (y : Int), cmp x0 x1 = some y -> Fn Try.prog 45 0 [.agg [vk x0.Alg, vk x0.Bits], .agg [vk x1.Alg, vk x1.Bits]] [] (fun d' b' => d' = vk y /\ b' = [])) (r : (List Aa)) (G : Av data a b cmp = some r) : Fn Try.prog 84 1 [.row 0, vk a, vk b, .clo 45 0 []] [.row 43 2 (As Aa.enc data)] (fun d' b' => d' = .tup [] /\ b' = [.row 43 2 (As Aa.enc r)]) := by
 unfold Av at G
 refine Fn.of Try.func84 rfl rfl rfl fun w0 I ρ0 => ?_
 show Cp _ ⟨w0, I, ρ0, 1, 1, 53⟩ _ _ _
 refine Bt 1 25 Bg fun B => ?_
 refine Ar <| Gg (fun ((i_1, data_1) : Int × List Aa) => mk [(0, .row 0), (1, vk a), (2, vk b), (3, .clo 45 0 []), (8, vk i_1)] [(0, .row 43 2 (As Aa.enc data_1))] 1) G (A3 [(0, 0)]) ?_
 rintro ⟨i_1, data_1⟩ m1 o1 G hn1
 replace G : Av.l1 a b cmp i_1 data_1 = some o1 := G
 show Cp _ _ _ _ (mk _ _ _)
 unfold Av.l1 at G
 refine An <| Bt 1 25 Bg fun B => ?_
 refine C1 rfl G (fun h3 G => ?_) fun h3 G => ?_
 refine C9 ?_
 refine An <| Ar <| Bt 25 41 B fun B => ?_
 refine Ar <| Gg (fun ((j_2, data_2) : Int × List Aa) => mk [(0, .row 0), (1, vk a), (2, vk b), (3, .clo 45 0 []), (8, vk i_1), (9, vk j_2)] [(0, .row 43 2 (As Aa.enc data_2))] 1) G (A3 [(0, 0)]) ?_
 rintro ⟨j_2, data_2⟩ m2 o2 G hn2
 replace G : Av.l2 a cmp i_1 j_2 data_2 = some o2 := G
 show Cp _ _ _ _ (mk _ _ _)
 unfold Av.l2 at G
 refine An <| By (ι := Bool) (fun (x34_3 : Bool) => mk [(0, .row 0), (1, vk a), (2, vk b), (3, .clo 45 0 []), (8, vk i_1), (9, vk j_2), (34, .val (.bool x34_3))] [(0, .row 43 2 (As Aa.enc data_2))] 1) (fun (x34_3 : Bool) => Av.j3 i_1 j_2 data_2 x34_3 = some o2) ?_ ?_
 refine Br (Cm _ _ []) (by kernel_rfl) [0, 0, 3, 7, 15, 15, 15, 111, 239, 15, 15, 1039, 3599, 7695, 16383, 32767, 65535] 1 137 Bg rfl rfl (by kernel_rfl) ?_
 refine A8 ?_
 rcases If G with ⟨h5, G⟩ | ⟨h5, G⟩
 refine A8 ?_
 obtain ⟨e, he, G⟩ := Ac G
 refine A8 ?_
 refine Fj he ?_
 refine A8 ?_
 obtain ⟨e_2, he_2, G⟩ := Ac G
 refine A8 ?_
 refine Fj he_2 ?_
 obtain ⟨y, hy, G⟩ := Ac G
 refine Dm (rd := []) (ps := []) (gs := []) false (Et rfl rfl h5) rfl (hf_cmp e e_2 _ hy) rfl rfl (.cons (.agg (.cons .val (.cons .val .nil))) (.cons (.agg (.cons .val (.cons .val .nil))) .nil)) rfl rfl (by intro h; cases h) rfl rfl rfl rfl ?_
 refine B4 fun B => ?_
 exact ⟨decide (y < 0), G, A3 [(0, 0)]⟩
 refine B4 fun B => ?_
 exact ⟨false, G, A3 [(0, 0)]⟩
 rintro x34_3 G
 replace G : Av.j3 i_1 j_2 data_2 x34_3 = some o2 := G
 show Cp _ _ _ _ (mk _ _ _)
 unfold Av.j3 at G
 refine C1 rfl G (fun h8 G => ?_) fun h8 G => ?_
 refine C9 ?_
 refine An <| Ar <| Br (Cm _ _ []) (by kernel_rfl) [0, 0, 0, 0, 8, 0, 0, 64, 224, 480, 0, 0, 3072, 7168, 16355, 32739, 65535, 131071] 1 145 Bg rfl rfl (by kernel_rfl) ?_
 refine A8 ?_
 obtain ⟨e_3, he_3, G⟩ := Ac G
 refine A8 ?_
 refine Fj he_3 ?_
 refine A8 ?_
 obtain ⟨e_4, he_4, G⟩ := Ac G
 refine A8 ?_
 refine Fj he_4 ?_
 refine A8 ?_
 refine Il Hu he_4 (x' := e_3) ?_
 obtain ⟨e_5, he_5, G⟩ := Ac G
 refine A8 ?_
 refine Il Hu he_5 (x' := e_4) ?_
 refine D2 fun B => ?_
 refine Aq (Cm _ _ []) 145 169 B rfl rfl ?_
 refine B4 fun B => ?_
 obtain rfl := oi_ G
 exact ⟨((W (j_2 - 1), Bi (Bi data_2 ((j_2).toNat) e_3) ((W (j_2 - 1)).toNat) e_4), m2), xO _, hn2, A3 [(0, 0)]⟩
 refine F8 ?_
 replace G := B1 G hn2
 refine Aq (Cm _ _ []) 1 25 Bg rfl rfl ?_
 refine B4 fun B => ?_
 obtain rfl := oi_ G
 exact ⟨((W (i_1 + 1), data_2), m1), xO _, hn1, A3 [(0, 0)]⟩
 refine F8 ?_
 replace G := B1 G hn1
 obtain rfl := oi_ G
 exact Ee [(0, 0)] ⟨rfl, rfl⟩
theorem Fe (data : List Aa) (lo : Int) (hi : Int) (first : Int) (cmp : Aa -> Aa -> Option (Int)) (hf_cmp : ∀ (x0 : Aa) (x1 : Aa) (y : Int), cmp x0 x1 = some y -> Fn Try.prog 45 0 [.agg [vk x0.Alg, vk x0.Bits], .agg [vk x1.Alg, vk x1.Bits]] [] (fun d' b' => d' = vk y /\ b' = [])) (r : (List Aa)) (G : Aw data lo hi first cmp = some r) : Fn Try.prog 100 1 [.row 0, vk lo, vk hi, vk first, .clo 45 0 []] [.row 43 2 (As Aa.enc data)] (fun d' b' => d' = .tup [] /\ b' = [.row 43 2 (As Aa.enc r)]) := by
 unfold Aw at G
 refine Fn.of Try.func100 rfl rfl rfl fun w0 I ρ0 => ?_
 show Cp _ ⟨w0, I, ρ0, 1, 1, 82⟩ _ _ _
 refine Bt 1 17 Bg fun B => ?_
 refine Ar <| Gg (fun ((root_1, data_1) : Int × List Aa) => mk [(0, .row 0), (2, vk hi), (3, vk first), (4, .clo 45 0 []), (10, vk root_1)] [(0, .row 43 2 (As Aa.enc data_1))] 1) G (A3 [(0, 0)]) ?_
 rintro ⟨root_1, data_1⟩ m1 o1 G hn1
 replace G : Aw.l1 hi first cmp root_1 data_1 = some o1 := G
 show Cp _ _ _ _ (mk _ _ _)
 unfold Aw.l1 at G
 refine Ar <| Bt 1 33 Bg fun B => ?_
 refine An <| Bt 33 57 B fun B => ?_
 refine C1 rfl G (fun h4 G => ?_) fun h4 G => ?_
 refine F8 ?_
 replace G := B1 G hn1
 obtain rfl := oi_ G
 exact Ee [(0, 0)] ⟨rfl, rfl⟩
 refine C9 ?_
 refine By (ι := Int) (fun (child_3 : Int) => mk [(0, .row 0), (2, vk hi), (3, vk first), (4, .clo 45 0 []), (10, vk root_1), (11, vk child_3)] [(0, .row 43 2 (As Aa.enc data_1))] 1) (fun (child_3 : Int) => Aw.j3 first cmp root_1 data_1 child_3 = some o1) ?_ ?_
 refine By (ι := Bool) (fun (x40_2 : Bool) => mk [(0, .row 0), (2, vk hi), (3, vk first), (4, .clo 45 0 []), (10, vk root_1), (11, .val (.int .i64 (W ((W (2 * root_1)) + 1)))), (40, .val (.bool x40_2))] [(0, .row 43 2 (As Aa.enc data_1))] 1) (fun (x40_2 : Bool) => Aw.j2 first cmp root_1 data_1 x40_2 = some o1) ?_ ?_
 refine Br (Cm _ _ []) (by kernel_rfl) [0, 1, 0, 7, 15, 31, 31, 31, 31, 415, 991, 2015, 31, 31, 31, 24607, 57375, 127007, 258079, 524287, 1048575, 2097151] 57 233 B rfl rfl (by kernel_rfl) ?_
 refine A8 ?_
 rcases If G with ⟨h5, G⟩ | ⟨h5, G⟩
 refine A8 ?_
 obtain ⟨e, he, G⟩ := Ac G
 refine A8 ?_
 refine Fj he ?_
 refine A8 ?_
 obtain ⟨e_2, he_2, G⟩ := Ac G
 refine A8 ?_
 refine Fj he_2 ?_
 obtain ⟨y, hy, G⟩ := Ac G
 refine Dm (rd := []) (ps := []) (gs := []) false (Et rfl rfl h5) rfl (hf_cmp e e_2 _ hy) rfl rfl (.cons (.agg (.cons .val (.cons .val .nil))) (.cons (.agg (.cons .val (.cons .val .nil))) .nil)) rfl rfl (by intro h; cases h) rfl rfl rfl rfl ?_
 refine B4 fun B => ?_
 exact ⟨decide (y < 0), G, A3 [(0, 0)]⟩
 refine B4 fun B => ?_
 exact ⟨false, G, A3 [(0, 0)]⟩
 rintro x40_2 G
 replace G : Aw.j2 first cmp root_1 data_1 x40_2 = some o1 := G
 show Cp _ _ _ _ (mk _ _ _)
 unfold Aw.j2 at G
 refine C1 rfl G (fun h8 G => ?_) fun h8 G => ?_
 refine Aq (Cm _ _ []) 1 25 Bg rfl rfl ?_
 refine B4 fun B => ?_
 exact ⟨W ((W ((W (2 * root_1)) + 1)) + 1), G, A3 [(0, 0)]⟩
 refine C9 ?_
 exact ⟨W ((W (2 * root_1)) + 1), G, A3 [(0, 0)]⟩
 rintro child_3 G
 replace G : Aw.j3 first cmp root_1 data_1 child_3 = some o1 := G
 show Cp _ _ _ _ (mk _ _ _)
 unfold Aw.j3 at G
 refine An <| An <| Br (Cm _ _ []) (by kernel_rfl) [0, 0, 0, 0, 12, 30, 62, 0, 0, 0, 768, 1920, 3968, 8191, 16383, 32767] 1 129 Bg rfl rfl (by kernel_rfl) ?_
 refine A8 ?_
 obtain ⟨e_3, he_3, G⟩ := Ac G
 refine A8 ?_
 refine Fj he_3 ?_
 refine A8 ?_
 obtain ⟨e_4, he_4, G⟩ := Ac G
 refine A8 ?_
 refine Fj he_4 ?_
 obtain ⟨y_2, hy_2, G⟩ := Ac G
 refine Dm (rd := []) (ps := []) (gs := []) false rfl rfl (hf_cmp e_3 e_4 _ hy_2) rfl rfl (.cons (.agg (.cons .val (.cons .val .nil))) (.cons (.agg (.cons .val (.cons .val .nil))) .nil)) rfl rfl (by intro h; cases h) rfl rfl rfl rfl ?_
 refine B4 fun B => ?_
 refine C1 rfl G (fun h11 G => ?_) fun h11 G => ?_
 refine Mt ?_
 refine sW ?_
 replace G := B1 G hn1
 obtain rfl := oi_ G
 exact Ee [(0, 0)] ⟨rfl, rfl⟩
 refine C9 ?_
 refine An <| Br (Cm _ _ []) (by kernel_rfl) [0, 0, 0, 6, 0, 0, 0, 96, 0, 0, 0, 1536, 3840, 7936, 0, 0, 0, 98304, 245760, 507904, 1048335, 2096911, 4194303, 8388607] 129 321 B rfl rfl (by kernel_rfl) ?_
 refine A8 ?_
 refine Fj he_4 ?_
 refine A8 ?_
 refine Fj he_3 ?_
 refine A8 ?_
 refine Il Hu he_3 (x' := e_4) ?_
 obtain ⟨e_5, he_5, G⟩ := Ac G
 refine A8 ?_
 refine Il Hu he_5 (x' := e_3) ?_
 refine D2 fun B => ?_
 refine Aq (Cm _ _ []) 321 337 B rfl rfl ?_
 refine B4 fun B => ?_
 obtain rfl := oi_ G
 exact ⟨((child_3, Bi (Bi data_1 ((W (first + root_1)).toNat) e_4) ((W (first + child_3)).toNat) e_3), m1), xO _, hn1, A3 [(0, 0)]⟩
theorem G9 (data : List Aa) (a : Int) (b : Int) (cmp : Aa -> Aa -> Option (Int)) (hf_cmp : ∀ (x0 : Aa) (x1 : Aa) (y : Int), cmp x0 x1 = some y -> Fn Try.prog 45 0 [.agg [vk x0.Alg, vk x0.Bits], .agg [vk x1.Alg, vk x1.Bits]] [] (fun d' b' => d' = vk y /\ b' = [])) (r : (List Aa)) (G : A6 data a b cmp = some r) : Fn Try.prog 85 1 [.row 0, vk a, vk b, .clo 45 0 []] [.row 43 2 (As Aa.enc data)] (fun d' b' => d' = .tup [] /\ b' = [.row 43 2 (As Aa.enc r)]) := by
 unfold A6 at G
 refine Fn.of Try.func85 rfl rfl rfl fun w0 I ρ0 => ?_
 show Cp _ ⟨w0, I, ρ0, 1, 1, 60⟩ _ _ _
 refine Bt 1 17 Bg fun B => ?_
 refine Bt 17 25 B fun B => ?_
 refine Bt 25 57 B fun B => ?_
 refine An <| C4 57 89 B ?_
 refine A8 ?_
 obtain ⟨q, hq, G⟩ := Ac G
 refine D1 rfl rfl (Jv hq) rfl rfl ?_
 refine B4 fun B => ?_
 refine Ar <| Gg (fun ((i_1, data_1) : Int × List Aa) => mk [(0, .row 0), (3, .clo 45 0 []), (8, vk a), (9, .val (.int .i64 0)), (10, .val (.int .i64 (W (b - a)))), (11, vk i_1)] [(0, .row 43 2 (As Aa.enc data_1))] 1) G (A3 [(0, 0)]) ?_
 rintro ⟨i_1, data_1⟩ m1 o1 G hn1
 replace G : A6.l1 a b cmp i_1 data_1 = some o1 := G
 show Cp _ _ _ _ (mk _ _ _)
 unfold A6.l1 at G
 refine An <| Bt 1 17 Bg fun B => ?_
 refine C1 rfl G (fun h6 G => ?_) fun h6 G => ?_
 refine C9 ?_
 refine An <| Ar <| Aq (Cm _ _ []) 17 65 B rfl rfl ?_
 refine A8 ?_
 obtain ⟨y, hy, G⟩ := Ac G
 refine G7 [0] [0] [] false (Fe data_1 i_1 (W (b - a)) a cmp hf_cmp _ hy) ?_
 refine D2 fun B => ?_
 refine Aq (Cm _ _ []) 65 89 B rfl rfl ?_
 refine B4 fun B => ?_
 obtain rfl := oi_ G
 exact ⟨((W (i_1 - 1), y), m1), xO _, hn1, A3 [(0, 0)]⟩
 refine F8 ?_
 replace G := B1 G hn1
 refine Bt 17 41 B fun B => ?_
 refine Ar <| Gg (fun ((i_2, data_2) : Int × List Aa) => mk [(0, .row 0), (3, .clo 45 0 []), (8, vk a), (9, .val (.int .i64 0)), (12, vk i_2)] [(0, .row 43 2 (As Aa.enc data_2))] 1) G (A3 [(0, 0)]) ?_
 rintro ⟨i_2, data_2⟩ m2 o2 G hn2
 replace G : A6.l2 a cmp i_2 data_2 = some o2 := G
 show Cp _ _ _ _ (mk _ _ _)
 unfold A6.l2 at G
 refine An <| Bt 1 17 Bg fun B => ?_
 refine C1 rfl G (fun h11 G => ?_) fun h11 G => ?_
 refine C9 ?_
 refine An <| Ar <| An <| Br (Cm _ _ []) (by kernel_rfl) [0, 0, 0, 0, 0, 24, 0, 0, 0, 384, 960, 1984, 0, 0, 12288, 28672, 65475, 131011, 262143, 524287] 17 177 B rfl rfl (by kernel_rfl) ?_
 refine A8 ?_
 obtain ⟨e, he, G⟩ := Ac G
 refine A8 ?_
 refine Fj he ?_
 refine A8 ?_
 obtain ⟨e_2, he_2, G⟩ := Ac G
 refine A8 ?_
 refine Fj he_2 ?_
 refine A8 ?_
 refine Il Hu he_2 (x' := e) ?_
 obtain ⟨e_3, he_3, G⟩ := Ac G
 refine A8 ?_
 refine Il Hu he_3 (x' := e_2) ?_
 refine D2 fun B => ?_
 refine Aq (Cm _ _ []) 177 225 B rfl rfl ?_
 refine A8 ?_
 obtain ⟨y_2, hy_2, G⟩ := Ac G
 refine G7 [0] [0] [] false (Fe (Bi (Bi data_2 ((a).toNat) e) ((W (a + i_2)).toNat) e_2) 0 i_2 a cmp hf_cmp _ hy_2) ?_
 refine D2 fun B => ?_
 refine Aq (Cm _ _ []) 225 249 B rfl rfl ?_
 refine B4 fun B => ?_
 obtain rfl := oi_ G
 exact ⟨((W (i_2 - 1), y_2), m2), xO _, hn2, A3 [(0, 0)]⟩
 refine F8 ?_
 replace G := B1 G hn2
 obtain rfl := oi_ G
 exact Ee [(0, 0)] ⟨rfl, rfl⟩
theorem Gn (data : List Aa) (a : Int) (b : Int) (cmp : Aa -> Aa -> Option (Int)) (hf_cmp : ∀ (x0 : Aa) (x1 : Aa) (y : Int), cmp x0 x1 = some y -> Fn Try.prog 45 0 [.agg [vk x0.Alg, vk x0.Bits], .agg [vk x1.Alg, vk x1.Bits]] [] (fun d' b' => d' = vk y /\ b' = [])) (r : (List Aa)) (G : A1 data a b cmp = some r) : Fn Try.prog 86 1 [.row 0, vk a, vk b, .clo 45 0 []] [.row 43 2 (As Aa.enc data)] (fun d' b' => d' = .tup [] /\ b' = [.row 43 2 (As Aa.enc r)]) := by
 unfold A1 at G
 refine Fn.of Try.func86 rfl rfl rfl fun w0 I ρ0 => ?_
 show Cp _ ⟨w0, I, ρ0, 1, 1, 67⟩ _ _ _
 refine Bt 1 33 Bg fun B => ?_
 refine Bt 33 49 B fun B => ?_
 refine C1 rfl G (fun h3 G => ?_) fun h3 G => ?_
 refine C4 49 81 B ?_
 refine A8 ?_
 refine D1 rfl rfl (Oy Rq lB) rfl rfl ?_
 refine B4 fun B => ?_
 refine C4 81 105 B ?_
 refine A8 ?_
 obtain ⟨y, hy, G⟩ := Ac G
 refine Ix (Iw _ _ hy) ?_
 refine B4 fun B => ?_
 refine C4 105 161 B ?_
 refine A8 ?_
 obtain ⟨q, hq, G⟩ := Ac G
 refine D1 rfl rfl (Jv hq) rfl rfl ?_
 refine B4 fun B => ?_
 refine Ar <| Gg (fun ((idx_1, data_1, random_1) : Int × List Aa × Int) => mk [(0, .row 0), (1, vk a), (8, .val (.int .i64 (W (b - a)))), (9, .ptr 1 0), (10, .val (.int .u64 y)), (11, vk idx_1)] [(0, .row 43 2 (As Aa.enc data_1)), (1, .box [.val (.int .u64 random_1)] 129)] 2) G (A3 [(0, 0), (1, 65)]) ?_
 rintro ⟨idx_1, data_1, random_1⟩ m1 o1 G hn1
 replace G : A1.l1 a b y idx_1 data_1 random_1 = some o1 := G
 show Cp _ _ _ _ (mk _ _ _)
 unfold A1.l1 at G
 refine An <| C4 2 66 Bg ?_
 refine A8 ?_
 obtain ⟨q_2, hq_2, G⟩ := Ac G
 refine D1 rfl rfl (Jv hq_2) rfl rfl ?_
 refine B4 fun B => ?_
 refine C1 rfl G (fun h8 G => ?_) fun h8 G => ?_
 refine C9 ?_
 refine An <| Ar <| C4 66 114 B ?_
 obtain ⟨y_2, hy_2, G⟩ := Ac G
 refine G7 [1] [1] [] false (I1 _ _ hy_2) ?_
 refine A8 ?_
 refine D1 rfl rfl lH rfl rfl ?_
 refine D1 rfl rfl kB rfl rfl ?_
 refine D1 rfl rfl (Ti Zm Rq) rfl rfl ?_
 refine B4 fun B => ?_
 refine By (ι := Int) (fun (other_2 : Int) => mk [(0, .row 0), (1, vk a), (8, .val (.int .i64 (W (b - a)))), (9, .ptr 1 0), (10, .val (.int .u64 y)), (11, vk idx_1), (12, vk other_2)] [(0, .row 43 2 (As Aa.enc data_1)), (1, .box [.val (.int .u64 y_2.2)] 129)] 2) (fun (other_2 : Int) => A1.j2 a idx_1 data_1 y_2 other_2 = some o1) ?_ ?_
 refine Bt 114 138 B fun B => ?_
 refine C1 rfl G (fun h11 G => ?_) fun h11 G => ?_
 refine Aq (Cm _ _ []) 138 170 B rfl rfl ?_
 refine B4 fun B => ?_
 exact ⟨W ((W (Rx .u64 y_2.1 (IntKind.wrap .u64 (y - 1)))) - (W (b - a))), G, A3 [(0, 0), (1, 1)]⟩
 refine C9 ?_
 exact ⟨W (Rx .u64 y_2.1 (IntKind.wrap .u64 (y - 1))), G, A3 [(0, 0), (1, 1)]⟩
 rintro other_2 G
 replace G : A1.j2 a idx_1 data_1 y_2 other_2 = some o1 := G
 show Cp _ _ _ _ (mk _ _ _)
 unfold A1.j2 at G
 refine Br (Cm _ _ []) (by kernel_rfl) [0, 0, 0, 0, 0, 24, 0, 0, 0, 384, 960, 1984, 0, 0, 12288, 28672, 65475, 131011, 262143, 524287] 2 162 Bg rfl rfl (by kernel_rfl) ?_
 refine A8 ?_
 obtain ⟨e, he, G⟩ := Ac G
 refine A8 ?_
 refine Fj he ?_
 refine A8 ?_
 obtain ⟨e_2, he_2, G⟩ := Ac G
 refine A8 ?_
 refine Fj he_2 ?_
 refine A8 ?_
 refine Il Hu he_2 (x' := e) ?_
 obtain ⟨e_3, he_3, G⟩ := Ac G
 refine A8 ?_
 refine Il Hu he_3 (x' := e_2) ?_
 refine D2 fun B => ?_
 refine Aq (Cm _ _ []) 162 186 B rfl rfl ?_
 refine B4 fun B => ?_
 obtain rfl := oi_ G
 exact ⟨((W (idx_1 + 1), Bi (Bi data_1 ((idx_1).toNat) e) ((W (a + other_2)).toNat) e_2, y_2.2), m1), xO _, hn1, A3 [(0, 0), (1, 1)]⟩
 refine F8 ?_
 replace G := B1 G hn1
 obtain rfl := oi_ G
 exact Ee [(0, 0)] ⟨rfl, rfl⟩
 refine C9 ?_
 obtain rfl := oi_ G
 exact Ee [(0, 0)] ⟨rfl, rfl⟩
theorem Em (data : (List Aa)) (a : Int) (b : Int) (swaps : Int) (cmp : Aa -> Aa -> Option (Int)) (hf_cmp : ∀ (x0 : Aa) (x1 : Aa) (y : Int), cmp x0 x1 = some y -> Fn Try.prog 45 0 [.agg [vk x0.Alg, vk x0.Bits], .agg [vk x1.Alg, vk x1.Bits]] [] (fun d' b' => d' = vk y /\ b' = [])) (r : Int × Int × Int) (G : De data a b swaps cmp = some r) : Fn Try.prog 104 1 [.sl 2 (As Aa.enc data), vk a, vk b, .ptr 0 0, .clo 45 0 []] [.box [vk swaps] 3] (fun d' b' => d' = .tup [vk r.1, vk r.2.1] /\ b' = [.box [vk r.2.2] 3]) := by
 unfold De at G
 refine Fn.of Try.func104 rfl rfl rfl fun w0 I ρ0 => ?_
 show Cp _ ⟨w0, I, ρ0, 1, 1, 32⟩ _ _ _
 refine Bt 1 17 Bg fun B => ?_
 refine An <| An <| Br (Cm _ _ []) (by kernel_rfl) [0, 0, 0, 6, 14, 0, 0, 96, 224, 511, 1023] 17 105 B rfl rfl (by kernel_rfl) ?_
 refine A8 ?_
 obtain ⟨e, he, G⟩ := Ac G
 refine A8 ?_
 refine Xz he ?_
 refine A8 ?_
 obtain ⟨e_2, he_2, G⟩ := Ac G
 refine A8 ?_
 refine Xz he_2 ?_
 obtain ⟨y, hy, G⟩ := Ac G
 refine Dm (rd := []) (ps := []) (gs := []) false rfl rfl (hf_cmp e e_2 _ hy) rfl rfl (.cons (.agg (.cons .val (.cons .val .nil))) (.cons (.agg (.cons .val (.cons .val .nil))) .nil)) rfl rfl (by intro h; cases h) rfl rfl rfl rfl ?_
 refine B4 fun B => ?_
 refine C1 rfl G (fun h3 G => ?_) fun h3 G => ?_
 refine Bt 105 153 B fun B => ?_
 refine Bt 153 185 B fun B => ?_
 refine El ?_
 obtain rfl := oi_ G
 exact Ee [(0, 0)] ⟨rfl, rfl⟩
 refine C9 ?_
 refine Bt 105 137 B fun B => ?_
 refine El ?_
 obtain rfl := oi_ G
 exact Ee [(0, 0)] ⟨rfl, rfl⟩
theorem Fk (data : (List Aa)) (a : Int) (b : Int) (c : Int) (swaps : Int) (cmp : Aa -> Aa -> Option (Int)) (hf_cmp : ∀ (x0 : Aa) (x1 : Aa) (y : Int), cmp x0 x1 = some y -> Fn Try.prog 45 0 [.agg [vk x0.Alg, vk x0.Bits], .agg [vk x1.Alg, vk x1.Bits]] [] (fun d' b' => d' = vk y /\ b' = [])) (r : Int × Int) (G : Ds data a b c swaps cmp = some r) : Fn Try.prog 102 1 [.sl 2 (As Aa.enc data), vk a, vk b, vk c, .ptr 0 0, .clo 45 0 []] [.box [vk swaps] 3] (fun d' b' => d' = vk r.1 /\ b' = [.box [vk r.2] 3]) := by
 unfold Ds at G
 refine Fn.of Try.func102 rfl rfl rfl fun w0 I ρ0 => ?_
 show Cp _ ⟨w0, I, ρ0, 1, 1, 41⟩ _ _ _
 refine Bt 1 9 Bg fun B => ?_
 refine C4 9 97 B ?_
 refine A8 ?_
 obtain ⟨y, hy, G⟩ := Ac G
 refine G7 [0] [0] [] false (Em data a b swaps cmp hf_cmp _ hy) ?_
 refine B4 fun B => ?_
 refine C4 97 185 B ?_
 refine A8 ?_
 obtain ⟨y_2, hy_2, G⟩ := Ac G
 refine G7 [0] [0] [] false (Em data y.2.1 c y.2.2 cmp hf_cmp _ hy_2) ?_
 refine B4 fun B => ?_
 refine C4 185 273 B ?_
 refine A8 ?_
 obtain ⟨y_3, hy_3, G⟩ := Ac G
 refine G7 [0] [0] [] false (Em data y.1 y_2.1 y_2.2.2 cmp hf_cmp _ hy_3) ?_
 refine B4 fun B => ?_
 refine Bt 273 289 B fun B => ?_
 refine El ?_
 obtain rfl := oi_ G
 exact Ee [(0, 0)] ⟨rfl, rfl⟩
theorem Dy (data : (List Aa)) (a : Int) (swaps : Int) (cmp : Aa -> Aa -> Option (Int)) (hf_cmp : ∀ (x0 : Aa) (x1 : Aa) (y : Int), cmp x0 x1 = some y -> Fn Try.prog 45 0 [.agg [vk x0.Alg, vk x0.Bits], .agg [vk x1.Alg, vk x1.Bits]] [] (fun d' b' => d' = vk y /\ b' = [])) (r : Int × Int) (G : Ct data a swaps cmp = some r) : Fn Try.prog 101 1 [.sl 2 (As Aa.enc data), vk a, .ptr 0 0, .clo 45 0 []] [.box [vk swaps] 3] (fun d' b' => d' = vk r.1 /\ b' = [.box [vk r.2] 3]) := by
 unfold Ct at G
 refine Fn.of Try.func101 rfl rfl rfl fun w0 I ρ0 => ?_
 show Cp _ ⟨w0, I, ρ0, 1, 1, 18⟩ _ _ _
 refine Bt 1 9 Bg fun B => ?_
 refine C4 9 89 B ?_
 refine A8 ?_
 obtain ⟨y, hy, G⟩ := Ac G
 refine G7 [0] [0] [] false (Fk data (W (a - 1)) a (W (a + 1)) swaps cmp hf_cmp _ hy) ?_
 refine B4 fun B => ?_
 refine El ?_
 obtain rfl := oi_ G
 exact Ee [(0, 0)] ⟨rfl, rfl⟩
theorem Gx (data : (List Aa)) (a : Int) (b : Int) (cmp : Aa -> Aa -> Option (Int)) (hf_cmp : ∀ (x0 : Aa) (x1 : Aa) (y : Int), cmp x0 x1 = some y -> Fn Try.prog 45 0 [.agg [vk x0.Alg, vk x0.Bits], .agg [vk x1.Alg, vk x1.Bits]] [] (fun d' b' => d' = vk y /\ b' = [])) (r : Int × Int) (G : Bb data a b cmp = some r) : Fn Try.prog 87 0 [.sl 2 (As Aa.enc data), vk a, vk b, .clo 45 0 []] [] (fun d' b' => d' = .tup [vk r.1, vk r.2] /\ b' = []) := by
 unfold Bb at G
 refine Fn.of Try.func87 rfl rfl rfl fun w0 I ρ0 => ?_
 show Cp _ ⟨w0, I, ρ0, 0, 0, 63⟩ _ _ _
 refine Bt 0 16 Bg fun B => ?_
 refine Bt 16 48 B fun B => ?_
 refine Bt 48 56 B fun B => ?_
 refine C4 56 104 B ?_
 refine A8 ?_
 obtain ⟨q, hq, G⟩ := Ac G
 refine D1 rfl rfl (Jv hq) rfl rfl ?_
 refine B4 fun B => ?_
 refine C4 104 152 B ?_
 refine A8 ?_
 obtain ⟨q_2, hq_2, G⟩ := Ac G
 refine D1 rfl rfl (Jv hq_2) rfl rfl ?_
 refine B4 fun B => ?_
 refine C4 152 200 B ?_
 refine A8 ?_
 obtain ⟨q_3, hq_3, G⟩ := Ac G
 refine D1 rfl rfl (Jv hq_3) rfl rfl ?_
 refine B4 fun B => ?_
 refine By (ι := Int × Int) (fun ((j_2, swaps_2) : Int × Int) => mk [(11, .ptr 0 0), (13, vk j_2)] [(0, .box [vk swaps_2] 3)] 1) (fun ((j_2, swaps_2) : Int × Int) => Bb.j2 j_2 swaps_2 = some r) ?_ ?_
 refine Bt 200 216 B fun B => ?_
 refine C1 rfl G (fun h8 G => ?_) fun h8 G => ?_
 refine By (ι := Int × Int × Int × Int) (fun ((i_1, j_1, k_1, swaps_1) : Int × Int × Int × Int) => mk [(0, .sl 2 (As Aa.enc data)), (3, .clo 45 0 []), (11, .ptr 0 0), (12, vk i_1), (13, vk j_1), (14, vk k_1)] [(0, .box [vk swaps_1] 3)] 1) (fun ((i_1, j_1, k_1, swaps_1) : Int × Int × Int × Int) => Bb.j1 data cmp i_1 j_1 k_1 swaps_1 = some r) ?_ ?_
 refine Bt 216 232 B fun B => ?_
 refine C1 rfl G (fun h10 G => ?_) fun h10 G => ?_
 refine C4 232 272 B ?_
 refine A8 ?_
 obtain ⟨y, hy, G⟩ := Ac G
 refine G7 [48] [48] [] false (Dy data (W (a + (W (q * 1)))) 0 cmp hf_cmp _ hy) ?_
 refine B4 fun B => ?_
 refine C4 272 312 B ?_
 refine A8 ?_
 obtain ⟨y_2, hy_2, G⟩ := Ac G
 refine G7 [48] [48] [] false (Dy data (W (a + (W (q_2 * 2)))) y.2 cmp hf_cmp _ hy_2) ?_
 refine B4 fun B => ?_
 refine Aq (Cm _ _ []) 312 352 B rfl rfl ?_
 refine A8 ?_
 obtain ⟨y_3, hy_3, G⟩ := Ac G
 refine G7 [48] [48] [] false (Dy data (W (a + (W (q_3 * 3)))) y_2.2 cmp hf_cmp _ hy_3) ?_
 refine B4 fun B => ?_
 exact ⟨(y.1, y_2.1, y_3.1, y_3.2), G, A3 [(0, 48)]⟩
 refine C9 ?_
 exact ⟨(W (a + (W (q * 1))), W (a + (W (q_2 * 2))), W (a + (W (q_3 * 3))), 0), G, A3 [(0, 48)]⟩
 rintro ⟨i_1, j_1, k_1, swaps_1⟩ G
 replace G : Bb.j1 data cmp i_1 j_1 k_1 swaps_1 = some r := G
 show Cp _ _ _ _ (mk _ _ _)
 unfold Bb.j1 at G
 refine Aq (Cm _ _ []) 1 57 Bg rfl rfl ?_
 refine A8 ?_
 obtain ⟨y_4, hy_4, G⟩ := Ac G
 refine G7 [0] [0] [] false (Fk data i_1 j_1 k_1 swaps_1 cmp hf_cmp _ hy_4) ?_
 refine B4 fun B => ?_
 exact ⟨(y_4.1, y_4.2), G, A3 [(0, 0)]⟩
 refine C9 ?_
 exact ⟨(W (a + (W (q_2 * 2))), 0), G, A3 [(0, 48)]⟩
 rintro ⟨j_2, swaps_2⟩ G
 replace G : Bb.j2 j_2 swaps_2 = some r := G
 show Cp _ _ _ _ (mk _ _ _)
 unfold Bb.j2 at G
 refine Bt 1 9 Bg fun B => ?_
 refine Ar <| Bt 9 25 B fun B => ?_
 refine C1 rfl G (fun h17 G => ?_) fun h17 G => ?_
 refine C4 25 49 B ?_
 exact F9
 refine Bt 25 41 B fun B => ?_
 refine C1 rfl G (fun h20 G => ?_) fun h20 G => ?_
 refine C4 41 65 B ?_
 exact F9
 refine C4 41 65 B ?_
 exact F9
theorem Gv (data : List Aa) (a : Int) (b : Int) (cmp : Aa -> Aa -> Option (Int)) (hf_cmp : ∀ (x0 : Aa) (x1 : Aa) (y : Int), cmp x0 x1 = some y -> Fn Try.prog 45 0 [.agg [vk x0.Alg, vk x0.Bits], .agg [vk x1.Alg, vk x1.Bits]] [] (fun d' b' => d' = vk y /\ b' = [])) (r : (List Aa)) (G : Bk data a b cmp = some r) : Fn Try.prog 88 1 [.row 0, vk a, vk b, .clo 45 0 []] [.row 43 2 (As Aa.enc data)] (fun d' b' => d' = .tup [] /\ b' = [.row 43 2 (As Aa.enc r)]) := by
 unfold Bk at G
 refine Fn.of Try.func88 rfl rfl rfl fun w0 I ρ0 => ?_
 show Cp _ ⟨w0, I, ρ0, 1, 1, 34⟩ _ _ _
 refine Bt 1 17 Bg fun B => ?_
 refine Bt 17 41 B fun B => ?_
 refine Ar <| Gg (fun ((i_1, j_1, data_1) : Int × Int × List Aa) => mk [(0, .row 0), (8, vk i_1), (9, vk j_1)] [(0, .row 43 2 (As Aa.enc data_1))] 1) G (A3 [(0, 0)]) ?_
 rintro ⟨i_1, j_1, data_1⟩ m1 o1 G hn1
 replace G : Bk.l1 i_1 j_1 data_1 = some o1 := G
 show Cp _ _ _ _ (mk _ _ _)
 unfold Bk.l1 at G
 refine An <| Bt 1 25 Bg fun B => ?_
 refine C1 rfl G (fun h4 G => ?_) fun h4 G => ?_
 refine C9 ?_
 refine Ar <| An <| Br (Cm _ _ []) (by kernel_rfl) [0, 0, 0, 0, 0, 0, 48, 112, 0, 0, 768, 1792, 4083, 8179, 16383, 32767] 25 153 B rfl rfl (by kernel_rfl) ?_
 refine A8 ?_
 obtain ⟨e, he, G⟩ := Ac G
 refine A8 ?_
 refine Fj he ?_
 refine A8 ?_
 obtain ⟨e_2, he_2, G⟩ := Ac G
 refine A8 ?_
 refine Fj he_2 ?_
 refine A8 ?_
 refine Il Hu he_2 (x' := e) ?_
 obtain ⟨e_3, he_3, G⟩ := Ac G
 refine A8 ?_
 refine Il Hu he_3 (x' := e_2) ?_
 refine D2 fun B => ?_
 refine Bt 153 177 B fun B => ?_
 refine Aq (Cm _ _ []) 177 201 B rfl rfl ?_
 refine B4 fun B => ?_
 obtain rfl := oi_ G
 exact ⟨((W (i_1 + 1), W (j_1 - 1), Bi (Bi data_1 ((i_1).toNat) e) ((j_1).toNat) e_2), m1), xO _, hn1, A3 [(0, 0)]⟩
 refine F8 ?_
 replace G := B1 G hn1
 obtain rfl := oi_ G
 exact Ee [(0, 0)] ⟨rfl, rfl⟩
theorem F2 (data : List Aa) (a : Int) (b : Int) (cmp : Aa -> Aa -> Option (Int)) (hf_cmp : ∀ (x0 : Aa) (x1 : Aa) (y : Int), cmp x0 x1 = some y -> Fn Try.prog 45 0 [.agg [vk x0.Alg, vk x0.Bits], .agg [vk x1.Alg, vk x1.Bits]] [] (fun d' b' => d' = vk y /\ b' = [])) (r : Bool × (List Aa)) (G : Ad data a b cmp = some r) : Fn Try.prog 89 1 [.row 0, vk a, vk b, .clo 45 0 []] [.row 43 2 (As Aa.enc data)] (fun d' b' => d' = .val (.bool r.1) /\ b' = [.row 43 2 (As Aa.enc r.2)]) := by
 unfold Ad at G
 refine Fn.of Try.func89 rfl rfl rfl fun w0 I ρ0 => ?_
 show Cp _ ⟨w0, I, ρ0, 1, 1, 141⟩ _ _ _
 refine Bt 1 9 Bg fun B => ?_
 refine Bt 9 33 B fun B => ?_
 refine An <| Bt 33 41 B fun B => ?_
 refine Ar <| Gg (fun ((i_1, j_1, data_1) : Int × Int × List Aa) => mk [(0, .row 0), (1, vk a), (2, vk b), (3, .clo 45 0 []), (9, vk i_1), (10, vk j_1)] [(0, .row 43 2 (As Aa.enc data_1))] 1) G (A3 [(0, 0)]) ?_
 rintro ⟨i_1, j_1, data_1⟩ m1 o1 G hn1
 replace G : Ad.l1 a b cmp i_1 j_1 data_1 = some o1 := G
 show Cp _ _ _ _ (mk _ _ _)
 unfold Ad.l1 at G
 refine An <| Bt 1 17 Bg fun B => ?_
 refine C1 rfl G (fun h5 G => ?_) fun h5 G => ?_
 refine C9 ?_
 refine By (ι := Int × List Aa) (fun ((i_7, data_7) : Int × List Aa) => mk [(0, .row 0), (1, vk a), (2, vk b), (3, .clo 45 0 []), (9, vk i_7), (10, vk j_1)] [(0, .row 43 2 (As Aa.enc data_7))] 1) (fun ((i_7, data_7) : Int × List Aa) => Ad.j7 j_1 i_7 data_7 = some o1) ?_ ?_
 refine Ar <| An <| Ar <| Gg (fun (i_2 : Int) => mk [(0, .row 0), (1, vk a), (2, vk b), (3, .clo 45 0 []), (9, vk i_2), (10, vk j_1)] [(0, .row 43 2 (As Aa.enc data_1))] 1) G (A3 [(0, 0)]) ?_
 rintro i_2 m2 o2 G hn2
 replace G : Ad.l2 a b cmp j_1 data_1 i_2 = some o2 := G
 show Cp _ _ _ _ (mk _ _ _)
 unfold Ad.l2 at G
 refine An <| By (ι := Bool) (fun (x36_3 : Bool) => mk [(0, .row 0), (1, vk a), (2, vk b), (3, .clo 45 0 []), (9, vk i_2), (10, vk j_1), (36, .val (.bool x36_3))] [(0, .row 43 2 (As Aa.enc data_1))] 1) (fun (x36_3 : Bool) => Ad.j3 a b cmp j_1 data_1 i_2 x36_3 = some o2) ?_ ?_
 refine Br (Cm _ _ []) (by kernel_rfl) [0, 0, 3, 7, 15, 15, 15, 111, 239, 15, 15, 1039, 3599, 7695, 16383, 32767, 65535, 131071] 1 145 Bg rfl rfl (by kernel_rfl) ?_
 refine A8 ?_
 rcases If G with ⟨h6, G⟩ | ⟨h6, G⟩
 refine A8 ?_
 obtain ⟨e, he, G⟩ := Ac G
 refine A8 ?_
 refine Fj he ?_
 refine A8 ?_
 obtain ⟨e_2, he_2, G⟩ := Ac G
 refine A8 ?_
 refine Fj he_2 ?_
 obtain ⟨y, hy, G⟩ := Ac G
 refine Dm (rd := []) (ps := []) (gs := []) false (Et rfl rfl h6) rfl (hf_cmp e e_2 _ hy) rfl rfl (.cons (.agg (.cons .val (.cons .val .nil))) (.cons (.agg (.cons .val (.cons .val .nil))) .nil)) rfl rfl (by intro h; cases h) rfl rfl rfl rfl ?_
 refine B4 fun B => ?_
 exact ⟨!(decide (y < 0)), G, A3 [(0, 0)]⟩
 refine B4 fun B => ?_
 exact ⟨false, G, A3 [(0, 0)]⟩
 rintro x36_3 G
 replace G : Ad.j3 a b cmp j_1 data_1 i_2 x36_3 = some o2 := G
 show Cp _ _ _ _ (mk _ _ _)
 unfold Ad.j3 at G
 refine C1 rfl G (fun h9 G => ?_) fun h9 G => ?_
 refine C9 ?_
 refine Ar <| Aq (Cm _ _ []) 1 25 Bg rfl rfl ?_
 refine B4 fun B => ?_
 obtain rfl := oi_ G
 exact ⟨(W (i_2 + 1), m2), xO _, hn2, A3 [(0, 0)]⟩
 refine F8 ?_
 replace G := B1 G hn2
 refine An <| Bt 1 25 Bg fun B => ?_
 refine C1 rfl G (fun h12 G => ?_) fun h12 G => ?_
 refine Bt 25 33 B fun B => ?_
 refine El ?_
 replace G := B1 G hn1
 obtain rfl := oi_ G
 exact Ee [(0, 0)] ⟨rfl, rfl⟩
 refine C9 ?_
 refine An <| Bt 25 57 B fun B => ?_
 refine C1 rfl G (fun h15 G => ?_) fun h15 G => ?_
 refine Bt 57 65 B fun B => ?_
 refine El ?_
 replace G := B1 G hn1
 obtain rfl := oi_ G
 exact Ee [(0, 0)] ⟨rfl, rfl⟩
 refine C9 ?_
 refine An <| Br (Cm _ _ []) (by kernel_rfl) [0, 0, 0, 0, 8, 0, 0, 64, 224, 480, 0, 0, 3072, 7168, 16355, 32739, 65535, 131071] 57 201 B rfl rfl (by kernel_rfl) ?_
 refine A8 ?_
 obtain ⟨e_3, he_3, G⟩ := Ac G
 refine A8 ?_
 refine Fj he_3 ?_
 refine A8 ?_
 obtain ⟨e_4, he_4, G⟩ := Ac G
 refine A8 ?_
 refine Fj he_4 ?_
 refine A8 ?_
 refine Il Hu he_4 (x' := e_3) ?_
 obtain ⟨e_5, he_5, G⟩ := Ac G
 refine A8 ?_
 refine Il Hu he_5 (x' := e_4) ?_
 refine D2 fun B => ?_
 refine By (ι := List Aa) (fun (data_5 : List Aa) => mk [(0, .row 0), (1, vk a), (2, vk b), (3, .clo 45 0 []), (9, vk i_2), (10, vk j_1)] [(0, .row 43 2 (As Aa.enc data_5))] 1) (fun (data_5 : List Aa) => Ad.j5 b cmp j_1 i_2 data_5 = some o1) ?_ ?_
 refine Bt 201 233 B fun B => ?_
 refine C1 rfl G (fun h19 G => ?_) fun h19 G => ?_
 refine Bt 233 257 B fun B => ?_
 refine Ar <| Gg (fun ((j_4, data_4) : Int × List Aa) => mk [(0, .row 0), (1, vk a), (2, vk b), (3, .clo 45 0 []), (9, vk i_2), (10, vk j_1), (11, vk j_4)] [(0, .row 43 2 (As Aa.enc data_4))] 1) G (A3 [(0, 0)]) ?_
 rintro ⟨j_4, data_4⟩ m4 o4 G hn4
 replace G : Ad.l4 b cmp j_1 i_2 j_4 data_4 = some o4 := G
 show Cp _ _ _ _ (mk _ _ _)
 unfold Ad.l4 at G
 refine An <| Bt 1 17 Bg fun B => ?_
 refine C1 rfl G (fun h22 G => ?_) fun h22 G => ?_
 refine C9 ?_
 refine An <| Ar <| An <| An <| Br (Cm _ _ []) (by kernel_rfl) [0, 0, 0, 6, 14, 0, 0, 64, 224, 480, 1023, 2047, 4095] 17 121 B rfl rfl (by kernel_rfl) ?_
 refine A8 ?_
 obtain ⟨e_6, he_6, G⟩ := Ac G
 refine A8 ?_
 refine Fj he_6 ?_
 refine A8 ?_
 obtain ⟨e_7, he_7, G⟩ := Ac G
 refine A8 ?_
 refine Fj he_7 ?_
 obtain ⟨y_2, hy_2, G⟩ := Ac G
 refine Dm (rd := []) (ps := []) (gs := []) false rfl rfl (hf_cmp e_6 e_7 _ hy_2) rfl rfl (.cons (.agg (.cons .val (.cons .val .nil))) (.cons (.agg (.cons .val (.cons .val .nil))) .nil)) rfl rfl (by intro h; cases h) rfl rfl rfl rfl ?_
 refine B4 fun B => ?_
 refine C1 rfl G (fun h24 G => ?_) fun h24 G => ?_
 refine F8 ?_
 replace G := B1 G hn4
 exact ⟨data_4, G, A3 [(0, 0)]⟩
 refine C9 ?_
 refine Br (Cm _ _ []) (by kernel_rfl) [0, 0, 0, 0, 8, 0, 0, 64, 224, 480, 0, 0, 3072, 7168, 16355, 32739, 65535, 131071] 121 265 B rfl rfl (by kernel_rfl) ?_
 refine A8 ?_
 refine Fj he_7 ?_
 refine A8 ?_
 refine Fj he_6 ?_
 refine A8 ?_
 refine Il Hu he_6 (x' := e_7) ?_
 obtain ⟨e_8, he_8, G⟩ := Ac G
 refine A8 ?_
 refine Il Hu he_8 (x' := e_6) ?_
 refine D2 fun B => ?_
 refine Aq (Cm _ _ []) 265 289 B rfl rfl ?_
 refine B4 fun B => ?_
 obtain rfl := oi_ G
 exact ⟨((W (j_4 - 1), Bi (Bi data_4 ((j_4).toNat) e_7) ((W (j_4 - 1)).toNat) e_6), m4), xO _, hn4, A3 [(0, 0)]⟩
 refine F8 ?_
 replace G := B1 G hn4
 exact ⟨data_4, G, A3 [(0, 0)]⟩
 refine C9 ?_
 exact ⟨Bi (Bi data_1 ((i_2).toNat) e_3) ((W (i_2 - 1)).toNat) e_4, G, A3 [(0, 0)]⟩
 rintro data_5 G
 replace G : Ad.j5 b cmp j_1 i_2 data_5 = some o1 := G
 show Cp _ _ _ _ (mk _ _ _)
 unfold Ad.j5 at G
 refine Bt 1 33 Bg fun B => ?_
 refine C1 rfl G (fun h28 G => ?_) fun h28 G => ?_
 refine Bt 33 57 B fun B => ?_
 refine Ar <| Gg (fun ((j_6, data_6) : Int × List Aa) => mk [(0, .row 0), (1, vk a), (2, vk b), (3, .clo 45 0 []), (9, vk i_2), (10, vk j_1), (12, vk j_6)] [(0, .row 43 2 (As Aa.enc data_6))] 1) G (A3 [(0, 0)]) ?_
 rintro ⟨j_6, data_6⟩ m6 o6 G hn6
 replace G : Ad.l6 b cmp j_1 i_2 j_6 data_6 = some o6 := G
 show Cp _ _ _ _ (mk _ _ _)
 unfold Ad.l6 at G
 refine An <| Bt 1 25 Bg fun B => ?_
 refine C1 rfl G (fun h31 G => ?_) fun h31 G => ?_
 refine C9 ?_
 refine An <| Ar <| An <| An <| Br (Cm _ _ []) (by kernel_rfl) [0, 0, 0, 6, 14, 0, 0, 64, 224, 480, 1023, 2047, 4095] 25 129 B rfl rfl (by kernel_rfl) ?_
 refine A8 ?_
 obtain ⟨e_9, he_9, G⟩ := Ac G
 refine A8 ?_
 refine Fj he_9 ?_
 refine A8 ?_
 obtain ⟨e_10, he_10, G⟩ := Ac G
 refine A8 ?_
 refine Fj he_10 ?_
 obtain ⟨y_3, hy_3, G⟩ := Ac G
 refine Dm (rd := []) (ps := []) (gs := []) false rfl rfl (hf_cmp e_9 e_10 _ hy_3) rfl rfl (.cons (.agg (.cons .val (.cons .val .nil))) (.cons (.agg (.cons .val (.cons .val .nil))) .nil)) rfl rfl (by intro h; cases h) rfl rfl rfl rfl ?_
 refine B4 fun B => ?_
 refine C1 rfl G (fun h33 G => ?_) fun h33 G => ?_
 refine F8 ?_
 replace G := B1 G hn6
 exact ⟨(i_2, data_6), G, A3 [(0, 0)]⟩
 refine C9 ?_
 refine Br (Cm _ _ []) (by kernel_rfl) [0, 0, 0, 0, 8, 0, 0, 64, 224, 480, 0, 0, 3072, 7168, 16355, 32739, 65535, 131071] 129 273 B rfl rfl (by kernel_rfl) ?_
 refine A8 ?_
 refine Fj he_10 ?_
 refine A8 ?_
 refine Fj he_9 ?_
 refine A8 ?_
 refine Il Hu he_9 (x' := e_10) ?_
 obtain ⟨e_11, he_11, G⟩ := Ac G
 refine A8 ?_
 refine Il Hu he_11 (x' := e_9) ?_
 refine D2 fun B => ?_
 refine Aq (Cm _ _ []) 273 297 B rfl rfl ?_
 refine B4 fun B => ?_
 obtain rfl := oi_ G
 exact ⟨((W (j_6 + 1), Bi (Bi data_6 ((j_6).toNat) e_10) ((W (j_6 - 1)).toNat) e_9), m6), xO _, hn6, A3 [(0, 0)]⟩
 refine F8 ?_
 replace G := B1 G hn6
 exact ⟨(i_2, data_6), G, A3 [(0, 0)]⟩
 refine C9 ?_
 exact ⟨(i_2, data_5), G, A3 [(0, 0)]⟩
 rintro ⟨i_7, data_7⟩ G
 replace G : Ad.j7 j_1 i_7 data_7 = some o1 := G
 show Cp _ _ _ _ (mk _ _ _)
 unfold Ad.j7 at G
 refine Aq (Cm _ _ []) 1 25 Bg rfl rfl ?_
 refine B4 fun B => ?_
 obtain rfl := oi_ G
 exact ⟨((i_7, W (j_1 + 1), data_7), m1), xO _, hn1, A3 [(0, 0)]⟩
 refine F8 ?_
 replace G := B1 G hn1
 refine Bt 17 25 B fun B => ?_
 refine El ?_
 obtain rfl := oi_ G
 exact Ee [(0, 0)] ⟨rfl, rfl⟩
theorem Gi (data : List Aa) (a : Int) (b : Int) (pivot : Int) (cmp : Aa -> Aa -> Option (Int)) (hf_cmp : ∀ (x0 : Aa) (x1 : Aa) (y : Int), cmp x0 x1 = some y -> Fn Try.prog 45 0 [.agg [vk x0.Alg, vk x0.Bits], .agg [vk x1.Alg, vk x1.Bits]] [] (fun d' b' => d' = vk y /\ b' = [])) (r : Int × (List Aa)) (G : Ao data a b pivot cmp = some r) : Fn Try.prog 90 1 [.row 0, vk a, vk b, vk pivot, .clo 45 0 []] [.row 43 2 (As Aa.enc data)] (fun d' b' => d' = vk r.1 /\ b' = [.row 43 2 (As Aa.enc r.2)]) := by
 unfold Ao at G
 refine Fn.of Try.func90 rfl rfl rfl fun w0 I ρ0 => ?_
 show Cp _ ⟨w0, I, ρ0, 1, 1, 90⟩ _ _ _
 refine Bt 1 9 Bg fun B => ?_
 refine An <| Br (Cm _ _ []) (by kernel_rfl) [0, 0, 0, 0, 0, 0, 48, 112, 0, 0, 768, 1792, 4083, 8179, 16383, 32767] 9 137 B rfl rfl (by kernel_rfl) ?_
 refine A8 ?_
 obtain ⟨e, he, G⟩ := Ac G
 refine A8 ?_
 refine Fj he ?_
 refine A8 ?_
 obtain ⟨e_2, he_2, G⟩ := Ac G
 refine A8 ?_
 refine Fj he_2 ?_
 refine A8 ?_
 refine Il Hu he_2 (x' := e) ?_
 obtain ⟨e_3, he_3, G⟩ := Ac G
 refine A8 ?_
 refine Il Hu he_3 (x' := e_2) ?_
 refine D2 fun B => ?_
 refine Bt 137 185 B fun B => ?_
 refine An <| Ar <| Gg (fun ((i_1, j_1, data_1) : Int × Int × List Aa) => mk [(0, .row 0), (1, vk a), (4, .clo 45 0 []), (11, vk i_1), (12, vk j_1)] [(0, .row 43 2 (As Aa.enc data_1))] 1) G (A3 [(0, 0)]) ?_
 rintro ⟨i_1, j_1, data_1⟩ m1 o1 G hn1
 replace G : Ao.l1 a cmp i_1 j_1 data_1 = some o1 := G
 show Cp _ _ _ _ (mk _ _ _)
 unfold Ao.l1 at G
 refine Ar <| An <| Ar <| Gg (fun (i_2 : Int) => mk [(0, .row 0), (1, vk a), (4, .clo 45 0 []), (11, vk i_2), (12, vk j_1)] [(0, .row 43 2 (As Aa.enc data_1))] 1) G (A3 [(0, 0)]) ?_
 rintro i_2 m2 o2 G hn2
 replace G : Ao.l2 a cmp j_1 data_1 i_2 = some o2 := G
 show Cp _ _ _ _ (mk _ _ _)
 unfold Ao.l2 at G
 refine An <| By (ι := Bool) (fun (x47_3 : Bool) => mk [(0, .row 0), (1, vk a), (4, .clo 45 0 []), (11, vk i_2), (12, vk j_1), (47, .val (.bool x47_3))] [(0, .row 43 2 (As Aa.enc data_1))] 1) (fun (x47_3 : Bool) => Ao.j3 a cmp j_1 data_1 i_2 x47_3 = some o2) ?_ ?_
 refine Br (Cm _ _ []) (by kernel_rfl) [0, 0, 3, 7, 15, 15, 15, 111, 239, 15, 15, 1551, 3599, 8191, 16383, 32767, 65535] 1 137 Bg rfl rfl (by kernel_rfl) ?_
 refine A8 ?_
 rcases If G with ⟨h4, G⟩ | ⟨h4, G⟩
 refine A8 ?_
 obtain ⟨e_4, he_4, G⟩ := Ac G
 refine A8 ?_
 refine Fj he_4 ?_
 refine A8 ?_
 obtain ⟨e_5, he_5, G⟩ := Ac G
 refine A8 ?_
 refine Fj he_5 ?_
 obtain ⟨y, hy, G⟩ := Ac G
 refine Dm (rd := []) (ps := []) (gs := []) false (Et rfl rfl h4) rfl (hf_cmp e_4 e_5 _ hy) rfl rfl (.cons (.agg (.cons .val (.cons .val .nil))) (.cons (.agg (.cons .val (.cons .val .nil))) .nil)) rfl rfl (by intro h; cases h) rfl rfl rfl rfl ?_
 refine B4 fun B => ?_
 exact ⟨!(decide (y < 0)), G, A3 [(0, 0)]⟩
 refine B4 fun B => ?_
 exact ⟨false, G, A3 [(0, 0)]⟩
 rintro x47_3 G
 replace G : Ao.j3 a cmp j_1 data_1 i_2 x47_3 = some o2 := G
 show Cp _ _ _ _ (mk _ _ _)
 unfold Ao.j3 at G
 refine C1 rfl G (fun h7 G => ?_) fun h7 G => ?_
 refine C9 ?_
 refine Ar <| Aq (Cm _ _ []) 1 25 Bg rfl rfl ?_
 refine B4 fun B => ?_
 obtain rfl := oi_ G
 exact ⟨(W (i_2 + 1), m2), xO _, hn2, A3 [(0, 0)]⟩
 refine F8 ?_
 replace G := B1 G hn2
 refine An <| Ar <| Gg (fun (j_4 : Int) => mk [(0, .row 0), (1, vk a), (4, .clo 45 0 []), (11, vk i_2), (12, vk j_4)] [(0, .row 43 2 (As Aa.enc data_1))] 1) G (A3 [(0, 0)]) ?_
 rintro j_4 m4 o4 G hn4
 replace G : Ao.l4 a cmp data_1 i_2 j_4 = some o4 := G
 show Cp _ _ _ _ (mk _ _ _)
 unfold Ao.l4 at G
 refine An <| By (ι := Bool) (fun (x65_5 : Bool) => mk [(0, .row 0), (1, vk a), (4, .clo 45 0 []), (11, vk i_2), (12, vk j_4), (65, .val (.bool x65_5))] [(0, .row 43 2 (As Aa.enc data_1))] 1) (fun (x65_5 : Bool) => Ao.j5 data_1 i_2 j_4 x65_5 = some o4) ?_ ?_
 refine Br (Cm _ _ []) (by kernel_rfl) [0, 0, 3, 7, 15, 15, 15, 111, 239, 15, 15, 1551, 3599, 8191, 16383, 32767] 1 129 Bg rfl rfl (by kernel_rfl) ?_
 refine A8 ?_
 rcases If G with ⟨h9, G⟩ | ⟨h9, G⟩
 refine A8 ?_
 obtain ⟨e_6, he_6, G⟩ := Ac G
 refine A8 ?_
 refine Fj he_6 ?_
 refine A8 ?_
 obtain ⟨e_7, he_7, G⟩ := Ac G
 refine A8 ?_
 refine Fj he_7 ?_
 obtain ⟨y_2, hy_2, G⟩ := Ac G
 refine Dm (rd := []) (ps := []) (gs := []) false (Et rfl rfl h9) rfl (hf_cmp e_6 e_7 _ hy_2) rfl rfl (.cons (.agg (.cons .val (.cons .val .nil))) (.cons (.agg (.cons .val (.cons .val .nil))) .nil)) rfl rfl (by intro h; cases h) rfl rfl rfl rfl ?_
 refine B4 fun B => ?_
 exact ⟨decide (y_2 < 0), G, A3 [(0, 0)]⟩
 refine B4 fun B => ?_
 exact ⟨false, G, A3 [(0, 0)]⟩
 rintro x65_5 G
 replace G : Ao.j5 data_1 i_2 j_4 x65_5 = some o4 := G
 show Cp _ _ _ _ (mk _ _ _)
 unfold Ao.j5 at G
 refine C1 rfl G (fun h12 G => ?_) fun h12 G => ?_
 refine C9 ?_
 refine Ar <| Aq (Cm _ _ []) 1 25 Bg rfl rfl ?_
 refine B4 fun B => ?_
 obtain rfl := oi_ G
 exact ⟨(W (j_4 - 1), m4), xO _, hn4, A3 [(0, 0)]⟩
 refine F8 ?_
 replace G := B1 G hn4
 refine An <| Bt 1 25 Bg fun B => ?_
 refine C1 rfl G (fun h15 G => ?_) fun h15 G => ?_
 refine F8 ?_
 replace G := B1 G hn1
 refine Bt 25 41 B fun B => ?_
 refine El ?_
 obtain rfl := oi_ G
 exact Ee [(0, 0)] ⟨rfl, rfl⟩
 refine C9 ?_
 refine An <| Br (Cm _ _ []) (by kernel_rfl) [0, 0, 0, 0, 0, 0, 48, 112, 0, 0, 768, 1792, 4083, 8179, 16383, 32767] 25 153 B rfl rfl (by kernel_rfl) ?_
 refine A8 ?_
 obtain ⟨e_8, he_8, G⟩ := Ac G
 refine A8 ?_
 refine Fj he_8 ?_
 refine A8 ?_
 obtain ⟨e_9, he_9, G⟩ := Ac G
 refine A8 ?_
 refine Fj he_9 ?_
 refine A8 ?_
 refine Il Hu he_9 (x' := e_8) ?_
 obtain ⟨e_10, he_10, G⟩ := Ac G
 refine A8 ?_
 refine Il Hu he_10 (x' := e_9) ?_
 refine D2 fun B => ?_
 refine Bt 153 177 B fun B => ?_
 refine Aq (Cm _ _ []) 177 201 B rfl rfl ?_
 refine B4 fun B => ?_
 obtain rfl := oi_ G
 exact ⟨((W (i_2 + 1), W (j_4 - 1), Bi (Bi data_1 ((i_2).toNat) e_8) ((j_4).toNat) e_9), m1), xO _, hn1, A3 [(0, 0)]⟩
end Go.Proofs.Ytfkgbfhpibiheaa
