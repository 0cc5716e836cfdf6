import Derived.Test.YtopkgllcjbpdeaaDoorT1
import Derived.Test.YtopkgllcjbpdeaaDoorA1
set_option linter.unusedVariables false
set_option linter.unusedSimpArgs false
set_option maxRecDepth 100000
set_option maxHeartbeats 1600000
namespace Go.Proofs.YtopkgllcjbpdeaaDoor
open Go.RowKit
theorem Ef (data : List Int) (lo : Int) (hi : Int) (first : Int) (cmp : Int -> Int -> Option (Int)) (hf_cmp : ∀ (x0 : Int) (x1 : Int) (y : Int), cmp x0 x1 = some y -> Fn Tryd.prog 46 0 [.val (.int .u32 x0), .val (.int .u32 x1)] [] (fun d' b' => d' = vk y /\ b' = [])) (r : (List Int)) (G : Am data lo hi first cmp = some r) : Fn Tryd.prog 85 1 [.row 0, vk lo, vk hi, vk first, .clo 46 0 []] [.row 68 1 (An (eK .u32) data)] (fun d' b' => d' = .tup [] /\ b' = [.row 68 1 (An (eK .u32) r)]) := by
 unfold Am at G
 refine Fn.of Tryd.func85 rfl rfl rfl fun w0 I ρ0 => ?_
 show Ca _ ⟨w0, I, ρ0, 1, 1, 82, none⟩ _ _ _
 refine Bk 1 17 Ba fun B => ?_
 refine Aj <| Fq (fun ((root_1, data_1) : Int × List Int) => mk [(0, .row 0), (2, vk hi), (3, vk first), (4, .clo 46 0 []), (10, vk root_1)] [(0, .row 68 1 (An (eK .u32) data_1))] 1) G (Ax [(0, 0)]) ?_
 rintro ⟨root_1, data_1⟩ m1 o1 G hn1
 replace G : Am.l1 hi first cmp root_1 data_1 = some o1 := G
 show Ca _ _ _ _ (mk _ _ _)
 unfold Am.l1 at G
 refine Aj <| Bk 1 33 Ba fun B => ?_
 refine Af <| Bk 33 57 B fun B => ?_
 refine Cn rfl G (fun h4 G => ?_) fun h4 G => ?_
 refine Fl ?_
 replace G := Bn G hn1
 obtain rfl := oi_ G
 exact Fe [(0, 0)] ⟨rfl, rfl⟩
 refine Cp ?_
 refine B0 (ι := Int) (fun (child_3 : Int) => mk [(0, .row 0), (2, vk hi), (3, vk first), (4, .clo 46 0 []), (10, vk root_1), (11, vk child_3)] [(0, .row 68 1 (An (eK .u32) data_1))] 1) (fun (child_3 : Int) => Am.j3 first cmp root_1 data_1 child_3 = some o1) ?_ ?_
 refine B0 (ι := Bool) (fun (x40_2 : Bool) => mk [(0, .row 0), (2, vk hi), (3, vk first), (4, .clo 46 0 []), (10, vk root_1), (11, .val (.int .i64 (W ((W (2 * root_1)) + 1)))), (40, .val (.bool x40_2))] [(0, .row 68 1 (An (eK .u32) data_1))] 1) (fun (x40_2 : Bool) => Am.j2 first cmp root_1 data_1 x40_2 = some o1) ?_ ?_
 refine Br (Ce _ _ []) (by kernel_rfl) [0, 1, 0, 7, 15, 31, 31, 31, 31, 415, 991, 2015, 31, 31, 31, 24607, 57375, 127007, 258079, 524287, 1048575, 2097151] 57 233 B rfl rfl (by kernel_rfl) ?_
 refine A5 ?_
 rcases Gh G with ⟨h5, G⟩ | ⟨h5, G⟩
 refine A5 ?_
 obtain ⟨e, he, G⟩ := Ab G
 refine A5 ?_
 refine Ch (rd := [0]) (Ea rfl rfl h5) rfl (.loadR1 Cu (A9 (Bd _) (Ar he) (o := 0) (c := .int .u32 e) rfl rfl)) rfl rfl ?_
 refine A5 ?_
 obtain ⟨e_2, he_2, G⟩ := Ab G
 refine A5 ?_
 refine Ch (rd := [0]) (Ea rfl rfl h5) rfl (.loadR1 Cu (A9 (Bd _) (Ar he_2) (o := 0) (c := .int .u32 e_2) rfl rfl)) rfl rfl ?_
 obtain ⟨y, hy, G⟩ := Ab G
 refine E9 (rd := []) (ps := []) (gs := []) false (Ea rfl rfl h5) rfl (hf_cmp e e_2 _ hy) rfl rfl (.cons .val (.cons .val .nil)) rfl rfl (by intro h; cases h) rfl rfl rfl rfl ?_
 refine Bl fun B => ?_
 exact ⟨decide (y < 0), G, Ax [(0, 0)]⟩
 refine Bl fun B => ?_
 exact ⟨false, G, Ax [(0, 0)]⟩
 rintro x40_2 G
 replace G : Am.j2 first cmp root_1 data_1 x40_2 = some o1 := G
 show Ca _ _ _ _ (mk _ _ _)
 unfold Am.j2 at G
 refine Cn rfl G (fun h8 G => ?_) fun h8 G => ?_
 refine Ak (Ce _ _ []) 1 25 Ba rfl rfl ?_
 refine Bl fun B => ?_
 exact ⟨W ((W ((W (2 * root_1)) + 1)) + 1), G, Ax [(0, 0)]⟩
 refine Cp ?_
 exact ⟨W ((W (2 * root_1)) + 1), G, Ax [(0, 0)]⟩
 rintro child_3 G
 replace G : Am.j3 first cmp root_1 data_1 child_3 = some o1 := G
 show Ca _ _ _ _ (mk _ _ _)
 unfold Am.j3 at G
 refine Af <| Af <| Br (Ce _ _ []) (by kernel_rfl) [0, 0, 0, 0, 12, 30, 62, 0, 0, 0, 768, 1920, 3968, 8191, 16383, 32767] 1 129 Ba rfl rfl (by kernel_rfl) ?_
 refine A5 ?_
 obtain ⟨e_3, he_3, G⟩ := Ab G
 refine A5 ?_
 refine Ch (rd := [0]) rfl rfl (.loadR1 Cu (A9 (Bd _) (Ar he_3) (o := 0) (c := .int .u32 e_3) rfl rfl)) rfl rfl ?_
 refine A5 ?_
 obtain ⟨e_4, he_4, G⟩ := Ab G
 refine A5 ?_
 refine Ch (rd := [0]) rfl rfl (.loadR1 Cu (A9 (Bd _) (Ar he_4) (o := 0) (c := .int .u32 e_4) rfl rfl)) rfl rfl ?_
 obtain ⟨y_2, hy_2, G⟩ := Ab G
 refine E9 (rd := []) (ps := []) (gs := []) false rfl rfl (hf_cmp e_3 e_4 _ hy_2) rfl rfl (.cons .val (.cons .val .nil)) rfl rfl (by intro h; cases h) rfl rfl rfl rfl ?_
 refine Bl fun B => ?_
 refine Cn rfl G (fun h11 G => ?_) fun h11 G => ?_
 refine J1 ?_
 refine U0 ?_
 replace G := Bn G hn1
 obtain rfl := oi_ G
 exact Fe [(0, 0)] ⟨rfl, rfl⟩
 refine Cp ?_
 refine Af <| Br (Ce _ _ []) (by kernel_rfl) [0, 0, 0, 6, 0, 0, 0, 96, 0, 0, 0, 1536, 3840, 7936, 0, 0, 0, 98304, 245760, 507904, 1048335, 2096911, 4194303, 8388607] 129 321 B rfl rfl (by kernel_rfl) ?_
 refine A5 ?_
 refine Ch (rd := [0]) rfl rfl (.loadR1 Cu (A9 (Bd _) (Ar he_4) (o := 0) (c := .int .u32 e_4) rfl rfl)) rfl rfl ?_
 refine A5 ?_
 refine Ch (rd := [0]) rfl rfl (.loadR1 Cu (A9 (Bd _) (Ar he_3) (o := 0) (c := .int .u32 e_3) rfl rfl)) rfl rfl ?_
 refine A5 ?_
 refine Ch (rd := [0]) rfl rfl (C2 Cu rfl (Bu (Bd _) (Ar he_3) (o := 0) (m := 1) (by decide) rfl) G1 (cs' := [.int .u32 e_4]) (.cons .int .nil) (Cd (Bd _) (Ar he_3) (o := 0) (x' := e_4) (Nat.le_of_ble_eq_true rfl) rfl rfl)) rfl rfl ?_
 obtain ⟨e_5, he_5, G⟩ := Ab G
 refine A5 ?_
 refine Ch (rd := [0]) rfl rfl (C2 Cu rfl (Bu (Bd _) (Ar he_5) (o := 0) (m := 1) (by decide) rfl) G1 (cs' := [.int .u32 e_3]) (.cons .int .nil) (Cd (Bd _) (Ar he_5) (o := 0) (x' := e_3) (Nat.le_of_ble_eq_true rfl) rfl rfl)) rfl rfl ?_
 refine Fc fun B => ?_
 refine Ak (Ce _ _ []) 321 337 B rfl rfl ?_
 refine Bl fun B => ?_
 obtain rfl := oi_ G
 exact ⟨((child_3, Cg (Cg data_1 ((W (first + root_1)).toNat) e_4) ((W (first + child_3)).toNat) e_3), m1), Nat.lt_succ_self _, hn1, Ax [(0, 0)]⟩
theorem Gg (data : List Int) (a : Int) (b : Int) (cmp : Int -> Int -> Option (Int)) (hf_cmp : ∀ (x0 : Int) (x1 : Int) (y : Int), cmp x0 x1 = some y -> Fn Tryd.prog 46 0 [.val (.int .u32 x0), .val (.int .u32 x1)] [] (fun d' b' => d' = vk y /\ b' = [])) (r : (List Int)) (G : Au data a b cmp = some r) : Fn Tryd.prog 75 1 [.row 0, vk a, vk b, .clo 46 0 []] [.row 68 1 (An (eK .u32) data)] (fun d' b' => d' = .tup [] /\ b' = [.row 68 1 (An (eK .u32) r)]) := by
 unfold Au at G
 refine Fn.of Tryd.func75 rfl rfl rfl fun w0 I ρ0 => ?_
 show Ca _ ⟨w0, I, ρ0, 1, 1, 60, none⟩ _ _ _
 refine Bk 1 17 Ba fun B => ?_
 refine Bk 17 25 B fun B => ?_
 refine Bk 25 57 B fun B => ?_
 refine Af <| Cf 57 89 B ?_
 refine A5 ?_
 obtain ⟨q, hq, G⟩ := Ab G
 refine Ei rfl rfl (Sb hq) rfl rfl ?_
 refine Bl fun B => ?_
 refine Aj <| Fq (fun ((i_1, data_1) : Int × List Int) => mk [(0, .row 0), (3, .clo 46 0 []), (8, vk a), (9, .val (.int .i64 0)), (10, .val (.int .i64 (W (b - a)))), (11, vk i_1)] [(0, .row 68 1 (An (eK .u32) data_1))] 1) G (Ax [(0, 0)]) ?_
 rintro ⟨i_1, data_1⟩ m1 o1 G hn1
 replace G : Au.l1 a b cmp i_1 data_1 = some o1 := G
 show Ca _ _ _ _ (mk _ _ _)
 unfold Au.l1 at G
 refine Af <| Bk 1 17 Ba fun B => ?_
 refine Cn rfl G (fun h6 G => ?_) fun h6 G => ?_
 refine Cp ?_
 refine Af <| Aj <| Ak (Ce _ _ []) 17 65 B rfl rfl ?_
 refine A5 ?_
 obtain ⟨y, hy, G⟩ := Ab G
 refine Kg [0] [0] [] false (Ef data_1 i_1 (W (b - a)) a cmp hf_cmp _ hy) ?_
 refine Fc fun B => ?_
 refine Ak (Ce _ _ []) 65 89 B rfl rfl ?_
 refine Bl fun B => ?_
 obtain rfl := oi_ G
 exact ⟨((W (i_1 - 1), y), m1), Nat.lt_succ_self _, hn1, Ax [(0, 0)]⟩
 refine Fl ?_
 replace G := Bn G hn1
 refine Bk 17 41 B fun B => ?_
 refine Aj <| Fq (fun ((i_2, data_2) : Int × List Int) => mk [(0, .row 0), (3, .clo 46 0 []), (8, vk a), (9, .val (.int .i64 0)), (12, vk i_2)] [(0, .row 68 1 (An (eK .u32) data_2))] 1) G (Ax [(0, 0)]) ?_
 rintro ⟨i_2, data_2⟩ m2 o2 G hn2
 replace G : Au.l2 a cmp i_2 data_2 = some o2 := G
 show Ca _ _ _ _ (mk _ _ _)
 unfold Au.l2 at G
 refine Af <| Bk 1 17 Ba fun B => ?_
 refine Cn rfl G (fun h11 G => ?_) fun h11 G => ?_
 refine Cp ?_
 refine Af <| Aj <| Af <| Br (Ce _ _ []) (by kernel_rfl) [0, 0, 0, 0, 0, 24, 0, 0, 0, 384, 960, 1984, 0, 0, 12288, 28672, 65475, 131011, 262143, 524287] 17 177 B rfl rfl (by kernel_rfl) ?_
 refine A5 ?_
 obtain ⟨e, he, G⟩ := Ab G
 refine A5 ?_
 refine Ch (rd := [0]) rfl rfl (.loadR1 Cu (A9 (Bd _) (Ar he) (o := 0) (c := .int .u32 e) rfl rfl)) rfl rfl ?_
 refine A5 ?_
 obtain ⟨e_2, he_2, G⟩ := Ab G
 refine A5 ?_
 refine Ch (rd := [0]) rfl rfl (.loadR1 Cu (A9 (Bd _) (Ar he_2) (o := 0) (c := .int .u32 e_2) rfl rfl)) rfl rfl ?_
 refine A5 ?_
 refine Ch (rd := [0]) rfl rfl (C2 Cu rfl (Bu (Bd _) (Ar he_2) (o := 0) (m := 1) (by decide) rfl) G1 (cs' := [.int .u32 e]) (.cons .int .nil) (Cd (Bd _) (Ar he_2) (o := 0) (x' := e) (Nat.le_of_ble_eq_true rfl) rfl rfl)) rfl rfl ?_
 obtain ⟨e_3, he_3, G⟩ := Ab G
 refine A5 ?_
 refine Ch (rd := [0]) rfl rfl (C2 Cu rfl (Bu (Bd _) (Ar he_3) (o := 0) (m := 1) (by decide) rfl) G1 (cs' := [.int .u32 e_2]) (.cons .int .nil) (Cd (Bd _) (Ar he_3) (o := 0) (x' := e_2) (Nat.le_of_ble_eq_true rfl) rfl rfl)) rfl rfl ?_
 refine Fc fun B => ?_
 refine Ak (Ce _ _ []) 177 225 B rfl rfl ?_
 refine A5 ?_
 obtain ⟨y_2, hy_2, G⟩ := Ab G
 refine Kg [0] [0] [] false (Ef (Cg (Cg data_2 ((a).toNat) e) ((W (a + i_2)).toNat) e_2) 0 i_2 a cmp hf_cmp _ hy_2) ?_
 refine Fc fun B => ?_
 refine Ak (Ce _ _ []) 225 249 B rfl rfl ?_
 refine Bl fun B => ?_
 obtain rfl := oi_ G
 exact ⟨((W (i_2 - 1), y_2), m2), Nat.lt_succ_self _, hn2, Ax [(0, 0)]⟩
 refine Fl ?_
 replace G := Bn G hn2
 obtain rfl := oi_ G
 exact Fe [(0, 0)] ⟨rfl, rfl⟩
theorem Mm (length : Int) (r : Int) (G : Eh length = some r) : Fn Tryd.prog 86 0 [vk length] [] (fun d' b' => d' = .val (.int .u64 r) /\ b' = []) := by
 unfold Eh at G
 refine Fn.of Tryd.func86 rfl rfl rfl fun w0 I ρ0 => ?_
 show Ca _ ⟨w0, I, ρ0, 0, 0, 7, none⟩ _ _ _
 refine Bk 0 8 Ba fun B => ?_
 refine Cf 8 48 B ?_
 refine A5 ?_
 refine Ei rfl rfl (Xq Ve Ze) rfl rfl ?_
 obtain ⟨y, hy, G⟩ := Ab G
 refine Dz (M6 _ _ hy) ?_
 obtain ⟨q, hq, G⟩ := Ab G
 refine Ei rfl rfl (Hu hq) rfl rfl ?_
 exact E7
theorem M0 (r' : Int) (r : Int × Int) (G : En r' = some r) : Fn Tryd.prog 87 1 [.ptr 0 0] [.box [.val (.int .u64 r')] 113] (fun d' b' => d' = .val (.int .u64 r.1) /\ b' = [.box [.val (.int .u64 r.2)] 113]) := by
 unfold En at G
 refine Fn.of Tryd.func87 rfl rfl rfl fun w0 I ρ0 => ?_
 show Ca _ ⟨w0, I, ρ0, 1, 1, 33, none⟩ _ _ _
 refine Bk 1 9 Ba fun B => ?_
 refine Af <| Br (Ce _ _ []) (by kernel_rfl) [0, 1, 3, 0, 8, 24, 56, 127, 255, 511] 9 89 B rfl rfl (by kernel_rfl) ?_
 refine A5 ?_
 obtain ⟨q, hq, G⟩ := Ab G
 refine Ei rfl rfl (Hu hq) rfl rfl ?_
 refine Ei rfl rfl Xf rfl rfl ?_
 refine Bl fun B => ?_
 refine Af <| Br (Ce _ _ []) (by kernel_rfl) [0, 1, 3, 0, 8, 24, 56, 127, 255, 511] 89 169 B rfl rfl (by kernel_rfl) ?_
 refine A5 ?_
 obtain ⟨q_2, hq_2, G⟩ := Ab G
 refine Ei rfl rfl (M5 hq_2) rfl rfl ?_
 refine Ei rfl rfl Xf rfl rfl ?_
 refine Bl fun B => ?_
 refine Af <| Br (Ce _ _ []) (by kernel_rfl) [0, 1, 3, 0, 8, 24, 56, 127, 255, 511] 169 249 B rfl rfl (by kernel_rfl) ?_
 refine A5 ?_
 obtain ⟨q_3, hq_3, G⟩ := Ab G
 refine Ei rfl rfl (Hu hq_3) rfl rfl ?_
 refine Ei rfl rfl Xf rfl rfl ?_
 refine Bl fun B => ?_
 refine Bk 249 281 B fun B => ?_
 refine Et ?_
 obtain rfl := oi_ G
 exact Fe [(0, 0)] ⟨rfl, rfl⟩
theorem Fs (data : List Int) (a : Int) (b : Int) (cmp : Int -> Int -> Option (Int)) (hf_cmp : ∀ (x0 : Int) (x1 : Int) (y : Int), cmp x0 x1 = some y -> Fn Tryd.prog 46 0 [.val (.int .u32 x0), .val (.int .u32 x1)] [] (fun d' b' => d' = vk y /\ b' = [])) (r : (List Int)) (G : As data a b cmp = some r) : Fn Tryd.prog 76 1 [.row 0, vk a, vk b, .clo 46 0 []] [.row 68 1 (An (eK .u32) data)] (fun d' b' => d' = .tup [] /\ b' = [.row 68 1 (An (eK .u32) r)]) := by
 unfold As at G
 refine Fn.of Tryd.func76 rfl rfl rfl fun w0 I ρ0 => ?_
 show Ca _ ⟨w0, I, ρ0, 1, 1, 67, none⟩ _ _ _
 refine Bk 1 33 Ba fun B => ?_
 refine Bk 33 49 B fun B => ?_
 refine Cn rfl G (fun h3 G => ?_) fun h3 G => ?_
 refine Cf 49 81 B ?_
 refine A5 ?_
 refine Ei rfl rfl (Xq Ve mE) rfl rfl ?_
 refine Bl fun B => ?_
 refine Cf 81 105 B ?_
 refine A5 ?_
 obtain ⟨y, hy, G⟩ := Ab G
 refine Dz (Mm _ _ hy) ?_
 refine Bl fun B => ?_
 refine Cf 105 161 B ?_
 refine A5 ?_
 obtain ⟨q, hq, G⟩ := Ab G
 refine Ei rfl rfl (Sb hq) rfl rfl ?_
 refine Bl fun B => ?_
 refine Aj <| Fq (fun ((idx_1, data_1, random_1) : Int × List Int × Int) => mk [(0, .row 0), (1, vk a), (8, .val (.int .i64 (W (b - a)))), (9, .ptr 1 0), (10, .val (.int .u64 y)), (11, vk idx_1)] [(0, .row 68 1 (An (eK .u32) data_1)), (1, .box [.val (.int .u64 random_1)] 113)] 2) G (Ax [(0, 0), (1, 65)]) ?_
 rintro ⟨idx_1, data_1, random_1⟩ m1 o1 G hn1
 replace G : As.l1 a b y idx_1 data_1 random_1 = some o1 := G
 show Ca _ _ _ _ (mk _ _ _)
 unfold As.l1 at G
 refine Af <| Cf 2 66 Ba ?_
 refine A5 ?_
 obtain ⟨q_2, hq_2, G⟩ := Ab G
 refine Ei rfl rfl (Sb hq_2) rfl rfl ?_
 refine Bl fun B => ?_
 refine Cn rfl G (fun h8 G => ?_) fun h8 G => ?_
 refine Cp ?_
 refine Af <| Aj <| Cf 66 114 B ?_
 obtain ⟨y_2, hy_2, G⟩ := Ab G
 refine Kg [1] [1] [] false (M0 _ _ hy_2) ?_
 refine A5 ?_
 refine Ei rfl rfl oM rfl rfl ?_
 refine Ei rfl rfl Pr rfl rfl ?_
 refine Ei rfl rfl (Zc Ze Ve) rfl rfl ?_
 refine Bl fun B => ?_
 refine B0 (ι := Int) (fun (other_2 : Int) => mk [(0, .row 0), (1, vk a), (8, .val (.int .i64 (W (b - a)))), (9, .ptr 1 0), (10, .val (.int .u64 y)), (11, vk idx_1), (12, vk other_2)] [(0, .row 68 1 (An (eK .u32) data_1)), (1, .box [.val (.int .u64 y_2.2)] 113)] 2) (fun (other_2 : Int) => As.j2 a idx_1 data_1 y_2 other_2 = some o1) ?_ ?_
 refine Bk 114 138 B fun B => ?_
 refine Cn rfl G (fun h11 G => ?_) fun h11 G => ?_
 refine Ak (Ce _ _ []) 138 170 B rfl rfl ?_
 refine Bl fun B => ?_
 exact ⟨W ((W (Oa .u64 y_2.1 (IntKind.wrap .u64 (y - 1)))) - (W (b - a))), G, Ax [(0, 0), (1, 1)]⟩
 refine Cp ?_
 exact ⟨W (Oa .u64 y_2.1 (IntKind.wrap .u64 (y - 1))), G, Ax [(0, 0), (1, 1)]⟩
 rintro other_2 G
 replace G : As.j2 a idx_1 data_1 y_2 other_2 = some o1 := G
 show Ca _ _ _ _ (mk _ _ _)
 unfold As.j2 at G
 refine Br (Ce _ _ []) (by kernel_rfl) [0, 0, 0, 0, 0, 24, 0, 0, 0, 384, 960, 1984, 0, 0, 12288, 28672, 65475, 131011, 262143, 524287] 2 162 Ba rfl rfl (by kernel_rfl) ?_
 refine A5 ?_
 obtain ⟨e, he, G⟩ := Ab G
 refine A5 ?_
 refine Ch (rd := [0]) rfl rfl (.loadR1 Cu (A9 (Bd _) (Ar he) (o := 0) (c := .int .u32 e) rfl rfl)) rfl rfl ?_
 refine A5 ?_
 obtain ⟨e_2, he_2, G⟩ := Ab G
 refine A5 ?_
 refine Ch (rd := [0]) rfl rfl (.loadR1 Cu (A9 (Bd _) (Ar he_2) (o := 0) (c := .int .u32 e_2) rfl rfl)) rfl rfl ?_
 refine A5 ?_
 refine Ch (rd := [0]) rfl rfl (C2 Cu rfl (Bu (Bd _) (Ar he_2) (o := 0) (m := 1) (by decide) rfl) G1 (cs' := [.int .u32 e]) (.cons .int .nil) (Cd (Bd _) (Ar he_2) (o := 0) (x' := e) (Nat.le_of_ble_eq_true rfl) rfl rfl)) rfl rfl ?_
 obtain ⟨e_3, he_3, G⟩ := Ab G
 refine A5 ?_
 refine Ch (rd := [0]) rfl rfl (C2 Cu rfl (Bu (Bd _) (Ar he_3) (o := 0) (m := 1) (by decide) rfl) G1 (cs' := [.int .u32 e_2]) (.cons .int .nil) (Cd (Bd _) (Ar he_3) (o := 0) (x' := e_2) (Nat.le_of_ble_eq_true rfl) rfl rfl)) rfl rfl ?_
 refine Fc fun B => ?_
 refine Ak (Ce _ _ []) 162 186 B rfl rfl ?_
 refine Bl fun B => ?_
 obtain rfl := oi_ G
 exact ⟨((W (idx_1 + 1), Cg (Cg data_1 ((idx_1).toNat) e) ((W (a + other_2)).toNat) e_2, y_2.2), m1), Nat.lt_succ_self _, hn1, Ax [(0, 0), (1, 1)]⟩
 refine Fl ?_
 replace G := Bn G hn1
 obtain rfl := oi_ G
 exact Fe [(0, 0)] ⟨rfl, rfl⟩
 refine Cp ?_
 obtain rfl := oi_ G
 exact Fe [(0, 0)] ⟨rfl, rfl⟩
theorem Do (data : (List Int)) (a : Int) (b : Int) (swaps : Int) (cmp : Int -> Int -> Option (Int)) (hf_cmp : ∀ (x0 : Int) (x1 : Int) (y : Int), cmp x0 x1 = some y -> Fn Tryd.prog 46 0 [.val (.int .u32 x0), .val (.int .u32 x1)] [] (fun d' b' => d' = vk y /\ b' = [])) (r : Int × Int × Int) (G : Cm data a b swaps cmp = some r) : Fn Tryd.prog 90 1 [.sl 1 (An (eK .u32) data), vk a, vk b, .ptr 0 0, .clo 46 0 []] [.box [vk swaps] 3] (fun d' b' => d' = .tup [vk r.1, vk r.2.1] /\ b' = [.box [vk r.2.2] 3]) := by
 unfold Cm at G
 refine Fn.of Tryd.func90 rfl rfl rfl fun w0 I ρ0 => ?_
 show Ca _ ⟨w0, I, ρ0, 1, 1, 32, none⟩ _ _ _
 refine Bk 1 17 Ba fun B => ?_
 refine Af <| Af <| Br (Ce _ _ []) (by kernel_rfl) [0, 0, 0, 6, 14, 0, 0, 96, 224, 511, 1023] 17 105 B rfl rfl (by kernel_rfl) ?_
 refine A5 ?_
 obtain ⟨e, he, G⟩ := Ab G
 refine A5 ?_
 refine Ei rfl rfl (D0 Cu (A9 (Bd _) (Ar he) (o := 0) (c := .int .u32 e) rfl rfl)) rfl rfl ?_
 refine A5 ?_
 obtain ⟨e_2, he_2, G⟩ := Ab G
 refine A5 ?_
 refine Ei rfl rfl (D0 Cu (A9 (Bd _) (Ar he_2) (o := 0) (c := .int .u32 e_2) rfl rfl)) rfl rfl ?_
 obtain ⟨y, hy, G⟩ := Ab G
 refine E9 (rd := []) (ps := []) (gs := []) false rfl rfl (hf_cmp e e_2 _ hy) rfl rfl (.cons .val (.cons .val .nil)) rfl rfl (by intro h; cases h) rfl rfl rfl rfl ?_
 refine Bl fun B => ?_
 refine Cn rfl G (fun h3 G => ?_) fun h3 G => ?_
 refine Bk 105 153 B fun B => ?_
 refine Bk 153 185 B fun B => ?_
 refine Et ?_
 obtain rfl := oi_ G
 exact Fe [(0, 0)] ⟨rfl, rfl⟩
 refine Cp ?_
 refine Bk 105 137 B fun B => ?_
 refine Et ?_
 obtain rfl := oi_ G
 exact Fe [(0, 0)] ⟨rfl, rfl⟩
theorem Er (data : (List Int)) (a : Int) (b : Int) (c : Int) (swaps : Int) (cmp : Int -> Int -> Option (Int)) (hf_cmp : ∀ (x0 : Int) (x1 : Int) (y : Int), cmp x0 x1 = some y -> Fn Tryd.prog 46 0 [.val (.int .u32 x0), .val (.int .u32 x1)] [] (fun d' b' => d' = vk y /\ b' = [])) (r : Int × Int) (G : Cw data a b c swaps cmp = some r) : Fn Tryd.prog 89 1 [.sl 1 (An (eK .u32) data), vk a, vk b, vk c, .ptr 0 0, .clo 46 0 []] [.box [vk swaps] 3] (fun d' b' => d' = vk r.1 /\ b' = [.box [vk r.2] 3]) := by
 unfold Cw at G
 refine Fn.of Tryd.func89 rfl rfl rfl fun w0 I ρ0 => ?_
 show Ca _ ⟨w0, I, ρ0, 1, 1, 41, none⟩ _ _ _
 refine Bk 1 9 Ba fun B => ?_
 refine Cf 9 97 B ?_
 refine A5 ?_
 obtain ⟨y, hy, G⟩ := Ab G
 refine Kg [0] [0] [] false (Do data a b swaps cmp hf_cmp _ hy) ?_
 refine Bl fun B => ?_
 refine Cf 97 185 B ?_
 refine A5 ?_
 obtain ⟨y_2, hy_2, G⟩ := Ab G
 refine Kg [0] [0] [] false (Do data y.2.1 c y.2.2 cmp hf_cmp _ hy_2) ?_
 refine Bl fun B => ?_
 refine Cf 185 273 B ?_
 refine A5 ?_
 obtain ⟨y_3, hy_3, G⟩ := Ab G
 refine Kg [0] [0] [] false (Do data y.1 y_2.1 y_2.2.2 cmp hf_cmp _ hy_3) ?_
 refine Bl fun B => ?_
 refine Bk 273 289 B fun B => ?_
 refine Et ?_
 obtain rfl := oi_ G
 exact Fe [(0, 0)] ⟨rfl, rfl⟩
theorem C9 (data : (List Int)) (a : Int) (swaps : Int) (cmp : Int -> Int -> Option (Int)) (hf_cmp : ∀ (x0 : Int) (x1 : Int) (y : Int), cmp x0 x1 = some y -> Fn Tryd.prog 46 0 [.val (.int .u32 x0), .val (.int .u32 x1)] [] (fun d' b' => d' = vk y /\ b' = [])) (r : Int × Int) (G : Cb data a swaps cmp = some r) : Fn Tryd.prog 88 1 [.sl 1 (An (eK .u32) data), vk a, .ptr 0 0, .clo 46 0 []] [.box [vk swaps] 3] (fun d' b' => d' = vk r.1 /\ b' = [.box [vk r.2] 3]) := by
 unfold Cb at G
 refine Fn.of Tryd.func88 rfl rfl rfl fun w0 I ρ0 => ?_
 show Ca _ ⟨w0, I, ρ0, 1, 1, 18, none⟩ _ _ _
 refine Bk 1 9 Ba fun B => ?_
 refine Cf 9 89 B ?_
 refine A5 ?_
 obtain ⟨y, hy, G⟩ := Ab G
 refine Kg [0] [0] [] false (Er data (W (a - 1)) a (W (a + 1)) swaps cmp hf_cmp _ hy) ?_
 refine Bl fun B => ?_
 refine Et ?_
 obtain rfl := oi_ G
 exact Fe [(0, 0)] ⟨rfl, rfl⟩
theorem Fz (data : (List Int)) (a : Int) (b : Int) (cmp : Int -> Int -> Option (Int)) (hf_cmp : ∀ (x0 : Int) (x1 : Int) (y : Int), cmp x0 x1 = some y -> Fn Tryd.prog 46 0 [.val (.int .u32 x0), .val (.int .u32 x1)] [] (fun d' b' => d' = vk y /\ b' = [])) (r : Int × Int) (G : Av data a b cmp = some r) : Fn Tryd.prog 77 0 [.sl 1 (An (eK .u32) data), vk a, vk b, .clo 46 0 []] [] (fun d' b' => d' = .tup [vk r.1, vk r.2] /\ b' = []) := by
 unfold Av at G
 refine Fn.of Tryd.func77 rfl rfl rfl fun w0 I ρ0 => ?_
 show Ca _ ⟨w0, I, ρ0, 0, 0, 63, none⟩ _ _ _
 refine Bk 0 16 Ba fun B => ?_
 refine Bk 16 48 B fun B => ?_
 refine Bk 48 56 B fun B => ?_
 refine Cf 56 104 B ?_
 refine A5 ?_
 obtain ⟨q, hq, G⟩ := Ab G
 refine Ei rfl rfl (Sb hq) rfl rfl ?_
 refine Bl fun B => ?_
 refine Cf 104 152 B ?_
 refine A5 ?_
 obtain ⟨q_2, hq_2, G⟩ := Ab G
 refine Ei rfl rfl (Sb hq_2) rfl rfl ?_
 refine Bl fun B => ?_
 refine Cf 152 200 B ?_
 refine A5 ?_
 obtain ⟨q_3, hq_3, G⟩ := Ab G
 refine Ei rfl rfl (Sb hq_3) rfl rfl ?_
 refine Bl fun B => ?_
 refine B0 (ι := Int × Int) (fun ((j_2, swaps_2) : Int × Int) => mk [(11, .ptr 0 0), (13, vk j_2)] [(0, .box [vk swaps_2] 3)] 1) (fun ((j_2, swaps_2) : Int × Int) => Av.j2 j_2 swaps_2 = some r) ?_ ?_
 refine Bk 200 216 B fun B => ?_
 refine Cn rfl G (fun h8 G => ?_) fun h8 G => ?_
 refine B0 (ι := Int × Int × Int × Int) (fun ((i_1, j_1, k_1, swaps_1) : Int × Int × Int × Int) => mk [(0, .sl 1 (An (eK .u32) data)), (3, .clo 46 0 []), (11, .ptr 0 0), (12, vk i_1), (13, vk j_1), (14, vk k_1)] [(0, .box [vk swaps_1] 3)] 1) (fun ((i_1, j_1, k_1, swaps_1) : Int × Int × Int × Int) => Av.j1 data cmp i_1 j_1 k_1 swaps_1 = some r) ?_ ?_
 refine Bk 216 232 B fun B => ?_
 refine Cn rfl G (fun h10 G => ?_) fun h10 G => ?_
 refine Cf 232 272 B ?_
 refine A5 ?_
 obtain ⟨y, hy, G⟩ := Ab G
 refine Kg [48] [48] [] false (C9 data (W (a + (W (q * 1)))) 0 cmp hf_cmp _ hy) ?_
 refine Bl fun B => ?_
 refine Cf 272 312 B ?_
 refine A5 ?_
 obtain ⟨y_2, hy_2, G⟩ := Ab G
 refine Kg [48] [48] [] false (C9 data (W (a + (W (q_2 * 2)))) y.2 cmp hf_cmp _ hy_2) ?_
 refine Bl fun B => ?_
 refine Ak (Ce _ _ []) 312 352 B rfl rfl ?_
 refine A5 ?_
 obtain ⟨y_3, hy_3, G⟩ := Ab G
 refine Kg [48] [48] [] false (C9 data (W (a + (W (q_3 * 3)))) y_2.2 cmp hf_cmp _ hy_3) ?_
 refine Bl fun B => ?_
 exact ⟨(y.1, y_2.1, y_3.1, y_3.2), G, Ax [(0, 48)]⟩
 refine Cp ?_
 exact ⟨(W (a + (W (q * 1))), W (a + (W (q_2 * 2))), W (a + (W (q_3 * 3))), 0), G, Ax [(0, 48)]⟩
 rintro ⟨i_1, j_1, k_1, swaps_1⟩ G
 replace G : Av.j1 data cmp i_1 j_1 k_1 swaps_1 = some r := G
 show Ca _ _ _ _ (mk _ _ _)
 unfold Av.j1 at G
 refine Ak (Ce _ _ []) 1 57 Ba rfl rfl ?_
 refine A5 ?_
 obtain ⟨y_4, hy_4, G⟩ := Ab G
 refine Kg [0] [0] [] false (Er data i_1 j_1 k_1 swaps_1 cmp hf_cmp _ hy_4) ?_
 refine Bl fun B => ?_
 exact ⟨(y_4.1, y_4.2), G, Ax [(0, 0)]⟩
 refine Cp ?_
 exact ⟨(W (a + (W (q_2 * 2))), 0), G, Ax [(0, 48)]⟩
 rintro ⟨j_2, swaps_2⟩ G
 replace G : Av.j2 j_2 swaps_2 = some r := G
 show Ca _ _ _ _ (mk _ _ _)
 unfold Av.j2 at G
 refine Bk 1 9 Ba fun B => ?_
 refine Aj <| Bk 9 25 B fun B => ?_
 refine Cn rfl G (fun h17 G => ?_) fun h17 G => ?_
 refine Cf 25 49 B ?_
 exact E7
 refine Bk 25 41 B fun B => ?_
 refine Cn rfl G (fun h20 G => ?_) fun h20 G => ?_
 refine Cf 41 65 B ?_
 exact E7
 refine Cf 41 65 B ?_
 exact E7
theorem Fw (data : List Int) (a : Int) (b : Int) (cmp : Int -> Int -> Option (Int)) (hf_cmp : ∀ (x0 : Int) (x1 : Int) (y : Int), cmp x0 x1 = some y -> Fn Tryd.prog 46 0 [.val (.int .u32 x0), .val (.int .u32 x1)] [] (fun d' b' => d' = vk y /\ b' = [])) (r : (List Int)) (G : A8 data a b cmp = some r) : Fn Tryd.prog 78 1 [.row 0, vk a, vk b, .clo 46 0 []] [.row 68 1 (An (eK .u32) data)] (fun d' b' => d' = .tup [] /\ b' = [.row 68 1 (An (eK .u32) r)]) := by
 unfold A8 at G
 refine Fn.of Tryd.func78 rfl rfl rfl fun w0 I ρ0 => ?_
 show Ca _ ⟨w0, I, ρ0, 1, 1, 34, none⟩ _ _ _
 refine Bk 1 17 Ba fun B => ?_
 refine Bk 17 41 B fun B => ?_
 refine Aj <| Fq (fun ((i_1, j_1, data_1) : Int × Int × List Int) => mk [(0, .row 0), (8, vk i_1), (9, vk j_1)] [(0, .row 68 1 (An (eK .u32) data_1))] 1) G (Ax [(0, 0)]) ?_
 rintro ⟨i_1, j_1, data_1⟩ m1 o1 G hn1
 replace G : A8.l1 i_1 j_1 data_1 = some o1 := G
 show Ca _ _ _ _ (mk _ _ _)
 unfold A8.l1 at G
 refine Af <| Bk 1 25 Ba fun B => ?_
 refine Cn rfl G (fun h4 G => ?_) fun h4 G => ?_
 refine Cp ?_
 refine Aj <| Af <| Br (Ce _ _ []) (by kernel_rfl) [0, 0, 0, 0, 0, 0, 48, 112, 0, 0, 768, 1792, 4083, 8179, 16383, 32767] 25 153 B rfl rfl (by kernel_rfl) ?_
 refine A5 ?_
 obtain ⟨e, he, G⟩ := Ab G
 refine A5 ?_
 refine Ch (rd := [0]) rfl rfl (.loadR1 Cu (A9 (Bd _) (Ar he) (o := 0) (c := .int .u32 e) rfl rfl)) rfl rfl ?_
 refine A5 ?_
 obtain ⟨e_2, he_2, G⟩ := Ab G
 refine A5 ?_
 refine Ch (rd := [0]) rfl rfl (.loadR1 Cu (A9 (Bd _) (Ar he_2) (o := 0) (c := .int .u32 e_2) rfl rfl)) rfl rfl ?_
 refine A5 ?_
 refine Ch (rd := [0]) rfl rfl (C2 Cu rfl (Bu (Bd _) (Ar he_2) (o := 0) (m := 1) (by decide) rfl) G1 (cs' := [.int .u32 e]) (.cons .int .nil) (Cd (Bd _) (Ar he_2) (o := 0) (x' := e) (Nat.le_of_ble_eq_true rfl) rfl rfl)) rfl rfl ?_
 obtain ⟨e_3, he_3, G⟩ := Ab G
 refine A5 ?_
 refine Ch (rd := [0]) rfl rfl (C2 Cu rfl (Bu (Bd _) (Ar he_3) (o := 0) (m := 1) (by decide) rfl) G1 (cs' := [.int .u32 e_2]) (.cons .int .nil) (Cd (Bd _) (Ar he_3) (o := 0) (x' := e_2) (Nat.le_of_ble_eq_true rfl) rfl rfl)) rfl rfl ?_
 refine Fc fun B => ?_
 refine Bk 153 177 B fun B => ?_
 refine Ak (Ce _ _ []) 177 201 B rfl rfl ?_
 refine Bl fun B => ?_
 obtain rfl := oi_ G
 exact ⟨((W (i_1 + 1), W (j_1 - 1), Cg (Cg data_1 ((i_1).toNat) e) ((j_1).toNat) e_2), m1), Nat.lt_succ_self _, hn1, Ax [(0, 0)]⟩
 refine Fl ?_
 replace G := Bn G hn1
 obtain rfl := oi_ G
 exact Fe [(0, 0)] ⟨rfl, rfl⟩
theorem E4 (data : List Int) (a : Int) (b : Int) (cmp : Int -> Int -> Option (Int)) (hf_cmp : ∀ (x0 : Int) (x1 : Int) (y : Int), cmp x0 x1 = some y -> Fn Tryd.prog 46 0 [.val (.int .u32 x0), .val (.int .u32 x1)] [] (fun d' b' => d' = vk y /\ b' = [])) (r : Bool × (List Int)) (G : Ac data a b cmp = some r) : Fn Tryd.prog 79 1 [.row 0, vk a, vk b, .clo 46 0 []] [.row 68 1 (An (eK .u32) data)] (fun d' b' => d' = .val (.bool r.1) /\ b' = [.row 68 1 (An (eK .u32) r.2)]) := by
 unfold Ac at G
 refine Fn.of Tryd.func79 rfl rfl rfl fun w0 I ρ0 => ?_
 show Ca _ ⟨w0, I, ρ0, 1, 1, 141, none⟩ _ _ _
 refine Bk 1 9 Ba fun B => ?_
 refine Bk 9 33 B fun B => ?_
 refine Af <| Bk 33 41 B fun B => ?_
 refine Aj <| Fq (fun ((i_1, j_1, data_1) : Int × Int × List Int) => mk [(0, .row 0), (1, vk a), (2, vk b), (3, .clo 46 0 []), (9, vk i_1), (10, vk j_1)] [(0, .row 68 1 (An (eK .u32) data_1))] 1) G (Ax [(0, 0)]) ?_
 rintro ⟨i_1, j_1, data_1⟩ m1 o1 G hn1
 replace G : Ac.l1 a b cmp i_1 j_1 data_1 = some o1 := G
 show Ca _ _ _ _ (mk _ _ _)
 unfold Ac.l1 at G
 refine Af <| Bk 1 17 Ba fun B => ?_
 refine Cn rfl G (fun h5 G => ?_) fun h5 G => ?_
 refine Cp ?_
 refine B0 (ι := Int × List Int) (fun ((i_7, data_7) : Int × List Int) => mk [(0, .row 0), (1, vk a), (2, vk b), (3, .clo 46 0 []), (9, vk i_7), (10, vk j_1)] [(0, .row 68 1 (An (eK .u32) data_7))] 1) (fun ((i_7, data_7) : Int × List Int) => Ac.j7 j_1 i_7 data_7 = some o1) ?_ ?_
 refine Aj <| Af <| Aj <| Fq (fun (i_2 : Int) => mk [(0, .row 0), (1, vk a), (2, vk b), (3, .clo 46 0 []), (9, vk i_2), (10, vk j_1)] [(0, .row 68 1 (An (eK .u32) data_1))] 1) G (Ax [(0, 0)]) ?_
 rintro i_2 m2 o2 G hn2
 replace G : Ac.l2 a b cmp j_1 data_1 i_2 = some o2 := G
 show Ca _ _ _ _ (mk _ _ _)
 unfold Ac.l2 at G
 refine Af <| B0 (ι := Bool) (fun (x36_3 : Bool) => mk [(0, .row 0), (1, vk a), (2, vk b), (3, .clo 46 0 []), (9, vk i_2), (10, vk j_1), (36, .val (.bool x36_3))] [(0, .row 68 1 (An (eK .u32) data_1))] 1) (fun (x36_3 : Bool) => Ac.j3 a b cmp j_1 data_1 i_2 x36_3 = some o2) ?_ ?_
 refine Br (Ce _ _ []) (by kernel_rfl) [0, 0, 3, 7, 15, 15, 15, 111, 239, 15, 15, 1039, 3599, 7695, 16383, 32767, 65535, 131071] 1 145 Ba rfl rfl (by kernel_rfl) ?_
 refine A5 ?_
 rcases Gh G with ⟨h6, G⟩ | ⟨h6, G⟩
 refine A5 ?_
 obtain ⟨e, he, G⟩ := Ab G
 refine A5 ?_
 refine Ch (rd := [0]) (Ea rfl rfl h6) rfl (.loadR1 Cu (A9 (Bd _) (Ar he) (o := 0) (c := .int .u32 e) rfl rfl)) rfl rfl ?_
 refine A5 ?_
 obtain ⟨e_2, he_2, G⟩ := Ab G
 refine A5 ?_
 refine Ch (rd := [0]) (Ea rfl rfl h6) rfl (.loadR1 Cu (A9 (Bd _) (Ar he_2) (o := 0) (c := .int .u32 e_2) rfl rfl)) rfl rfl ?_
 obtain ⟨y, hy, G⟩ := Ab G
 refine E9 (rd := []) (ps := []) (gs := []) false (Ea rfl rfl h6) rfl (hf_cmp e e_2 _ hy) rfl rfl (.cons .val (.cons .val .nil)) rfl rfl (by intro h; cases h) rfl rfl rfl rfl ?_
 refine Bl fun B => ?_
 exact ⟨!(decide (y < 0)), G, Ax [(0, 0)]⟩
 refine Bl fun B => ?_
 exact ⟨false, G, Ax [(0, 0)]⟩
 rintro x36_3 G
 replace G : Ac.j3 a b cmp j_1 data_1 i_2 x36_3 = some o2 := G
 show Ca _ _ _ _ (mk _ _ _)
 unfold Ac.j3 at G
 refine Cn rfl G (fun h9 G => ?_) fun h9 G => ?_
 refine Cp ?_
 refine Aj <| Ak (Ce _ _ []) 1 25 Ba rfl rfl ?_
 refine Bl fun B => ?_
 obtain rfl := oi_ G
 exact ⟨(W (i_2 + 1), m2), Nat.lt_succ_self _, hn2, Ax [(0, 0)]⟩
 refine Fl ?_
 replace G := Bn G hn2
 refine Af <| Bk 1 25 Ba fun B => ?_
 refine Cn rfl G (fun h12 G => ?_) fun h12 G => ?_
 refine Bk 25 33 B fun B => ?_
 refine Et ?_
 replace G := Bn G hn1
 obtain rfl := oi_ G
 exact Fe [(0, 0)] ⟨rfl, rfl⟩
 refine Cp ?_
 refine Af <| Bk 25 57 B fun B => ?_
 refine Cn rfl G (fun h15 G => ?_) fun h15 G => ?_
 refine Bk 57 65 B fun B => ?_
 refine Et ?_
 replace G := Bn G hn1
 obtain rfl := oi_ G
 exact Fe [(0, 0)] ⟨rfl, rfl⟩
 refine Cp ?_
 refine Af <| Br (Ce _ _ []) (by kernel_rfl) [0, 0, 0, 0, 8, 0, 0, 64, 224, 480, 0, 0, 3072, 7168, 16355, 32739, 65535, 131071] 57 201 B rfl rfl (by kernel_rfl) ?_
 refine A5 ?_
 obtain ⟨e_3, he_3, G⟩ := Ab G
 refine A5 ?_
 refine Ch (rd := [0]) rfl rfl (.loadR1 Cu (A9 (Bd _) (Ar he_3) (o := 0) (c := .int .u32 e_3) rfl rfl)) rfl rfl ?_
 refine A5 ?_
 obtain ⟨e_4, he_4, G⟩ := Ab G
 refine A5 ?_
 refine Ch (rd := [0]) rfl rfl (.loadR1 Cu (A9 (Bd _) (Ar he_4) (o := 0) (c := .int .u32 e_4) rfl rfl)) rfl rfl ?_
 refine A5 ?_
 refine Ch (rd := [0]) rfl rfl (C2 Cu rfl (Bu (Bd _) (Ar he_4) (o := 0) (m := 1) (by decide) rfl) G1 (cs' := [.int .u32 e_3]) (.cons .int .nil) (Cd (Bd _) (Ar he_4) (o := 0) (x' := e_3) (Nat.le_of_ble_eq_true rfl) rfl rfl)) rfl rfl ?_
 obtain ⟨e_5, he_5, G⟩ := Ab G
 refine A5 ?_
 refine Ch (rd := [0]) rfl rfl (C2 Cu rfl (Bu (Bd _) (Ar he_5) (o := 0) (m := 1) (by decide) rfl) G1 (cs' := [.int .u32 e_4]) (.cons .int .nil) (Cd (Bd _) (Ar he_5) (o := 0) (x' := e_4) (Nat.le_of_ble_eq_true rfl) rfl rfl)) rfl rfl ?_
 refine Fc fun B => ?_
 refine B0 (ι := List Int) (fun (data_5 : List Int) => mk [(0, .row 0), (1, vk a), (2, vk b), (3, .clo 46 0 []), (9, vk i_2), (10, vk j_1)] [(0, .row 68 1 (An (eK .u32) data_5))] 1) (fun (data_5 : List Int) => Ac.j5 b cmp j_1 i_2 data_5 = some o1) ?_ ?_
 refine Bk 201 233 B fun B => ?_
 refine Cn rfl G (fun h19 G => ?_) fun h19 G => ?_
 refine Bk 233 257 B fun B => ?_
 refine Aj <| Fq (fun ((j_4, data_4) : Int × List Int) => mk [(0, .row 0), (1, vk a), (2, vk b), (3, .clo 46 0 []), (9, vk i_2), (10, vk j_1), (11, vk j_4)] [(0, .row 68 1 (An (eK .u32) data_4))] 1) G (Ax [(0, 0)]) ?_
 rintro ⟨j_4, data_4⟩ m4 o4 G hn4
 replace G : Ac.l4 b cmp j_1 i_2 j_4 data_4 = some o4 := G
 show Ca _ _ _ _ (mk _ _ _)
 unfold Ac.l4 at G
 refine Af <| Bk 1 17 Ba fun B => ?_
 refine Cn rfl G (fun h22 G => ?_) fun h22 G => ?_
 refine Cp ?_
 refine Af <| Aj <| Af <| Af <| Br (Ce _ _ []) (by kernel_rfl) [0, 0, 0, 6, 14, 0, 0, 64, 224, 480, 1023, 2047, 4095] 17 121 B rfl rfl (by kernel_rfl) ?_
 refine A5 ?_
 obtain ⟨e_6, he_6, G⟩ := Ab G
 refine A5 ?_
 refine Ch (rd := [0]) rfl rfl (.loadR1 Cu (A9 (Bd _) (Ar he_6) (o := 0) (c := .int .u32 e_6) rfl rfl)) rfl rfl ?_
 refine A5 ?_
 obtain ⟨e_7, he_7, G⟩ := Ab G
 refine A5 ?_
 refine Ch (rd := [0]) rfl rfl (.loadR1 Cu (A9 (Bd _) (Ar he_7) (o := 0) (c := .int .u32 e_7) rfl rfl)) rfl rfl ?_
 obtain ⟨y_2, hy_2, G⟩ := Ab G
 refine E9 (rd := []) (ps := []) (gs := []) false rfl rfl (hf_cmp e_6 e_7 _ hy_2) rfl rfl (.cons .val (.cons .val .nil)) rfl rfl (by intro h; cases h) rfl rfl rfl rfl ?_
 refine Bl fun B => ?_
 refine Cn rfl G (fun h24 G => ?_) fun h24 G => ?_
 refine Fl ?_
 replace G := Bn G hn4
 exact ⟨data_4, G, Ax [(0, 0)]⟩
 refine Cp ?_
 refine Br (Ce _ _ []) (by kernel_rfl) [0, 0, 0, 0, 8, 0, 0, 64, 224, 480, 0, 0, 3072, 7168, 16355, 32739, 65535, 131071] 121 265 B rfl rfl (by kernel_rfl) ?_
 refine A5 ?_
 refine Ch (rd := [0]) rfl rfl (.loadR1 Cu (A9 (Bd _) (Ar he_7) (o := 0) (c := .int .u32 e_7) rfl rfl)) rfl rfl ?_
 refine A5 ?_
 refine Ch (rd := [0]) rfl rfl (.loadR1 Cu (A9 (Bd _) (Ar he_6) (o := 0) (c := .int .u32 e_6) rfl rfl)) rfl rfl ?_
 refine A5 ?_
 refine Ch (rd := [0]) rfl rfl (C2 Cu rfl (Bu (Bd _) (Ar he_6) (o := 0) (m := 1) (by decide) rfl) G1 (cs' := [.int .u32 e_7]) (.cons .int .nil) (Cd (Bd _) (Ar he_6) (o := 0) (x' := e_7) (Nat.le_of_ble_eq_true rfl) rfl rfl)) rfl rfl ?_
 obtain ⟨e_8, he_8, G⟩ := Ab G
 refine A5 ?_
 refine Ch (rd := [0]) rfl rfl (C2 Cu rfl (Bu (Bd _) (Ar he_8) (o := 0) (m := 1) (by decide) rfl) G1 (cs' := [.int .u32 e_6]) (.cons .int .nil) (Cd (Bd _) (Ar he_8) (o := 0) (x' := e_6) (Nat.le_of_ble_eq_true rfl) rfl rfl)) rfl rfl ?_
 refine Fc fun B => ?_
 refine Ak (Ce _ _ []) 265 289 B rfl rfl ?_
 refine Bl fun B => ?_
 obtain rfl := oi_ G
 exact ⟨((W (j_4 - 1), Cg (Cg data_4 ((j_4).toNat) e_7) ((W (j_4 - 1)).toNat) e_6), m4), Nat.lt_succ_self _, hn4, Ax [(0, 0)]⟩
 refine Fl ?_
 replace G := Bn G hn4
 exact ⟨data_4, G, Ax [(0, 0)]⟩
 refine Cp ?_
 exact ⟨Cg (Cg data_1 ((i_2).toNat) e_3) ((W (i_2 - 1)).toNat) e_4, G, Ax [(0, 0)]⟩
 rintro data_5 G
 replace G : Ac.j5 b cmp j_1 i_2 data_5 = some o1 := G
 show Ca _ _ _ _ (mk _ _ _)
 unfold Ac.j5 at G
 refine Bk 1 33 Ba fun B => ?_
 refine Cn rfl G (fun h28 G => ?_) fun h28 G => ?_
 refine Bk 33 57 B fun B => ?_
 refine Aj <| Fq (fun ((j_6, data_6) : Int × List Int) => mk [(0, .row 0), (1, vk a), (2, vk b), (3, .clo 46 0 []), (9, vk i_2), (10, vk j_1), (12, vk j_6)] [(0, .row 68 1 (An (eK .u32) data_6))] 1) G (Ax [(0, 0)]) ?_
 rintro ⟨j_6, data_6⟩ m6 o6 G hn6
 replace G : Ac.l6 b cmp j_1 i_2 j_6 data_6 = some o6 := G
 show Ca _ _ _ _ (mk _ _ _)
 unfold Ac.l6 at G
 refine Af <| Bk 1 25 Ba fun B => ?_
 refine Cn rfl G (fun h31 G => ?_) fun h31 G => ?_
 refine Cp ?_
 refine Af <| Aj <| Af <| Af <| Br (Ce _ _ []) (by kernel_rfl) [0, 0, 0, 6, 14, 0, 0, 64, 224, 480, 1023, 2047, 4095] 25 129 B rfl rfl (by kernel_rfl) ?_
 refine A5 ?_
 obtain ⟨e_9, he_9, G⟩ := Ab G
 refine A5 ?_
 refine Ch (rd := [0]) rfl rfl (.loadR1 Cu (A9 (Bd _) (Ar he_9) (o := 0) (c := .int .u32 e_9) rfl rfl)) rfl rfl ?_
 refine A5 ?_
 obtain ⟨e_10, he_10, G⟩ := Ab G
 refine A5 ?_
 refine Ch (rd := [0]) rfl rfl (.loadR1 Cu (A9 (Bd _) (Ar he_10) (o := 0) (c := .int .u32 e_10) rfl rfl)) rfl rfl ?_
 obtain ⟨y_3, hy_3, G⟩ := Ab G
 refine E9 (rd := []) (ps := []) (gs := []) false rfl rfl (hf_cmp e_9 e_10 _ hy_3) rfl rfl (.cons .val (.cons .val .nil)) rfl rfl (by intro h; cases h) rfl rfl rfl rfl ?_
 refine Bl fun B => ?_
 refine Cn rfl G (fun h33 G => ?_) fun h33 G => ?_
 refine Fl ?_
 replace G := Bn G hn6
 exact ⟨(i_2, data_6), G, Ax [(0, 0)]⟩
 refine Cp ?_
 refine Br (Ce _ _ []) (by kernel_rfl) [0, 0, 0, 0, 8, 0, 0, 64, 224, 480, 0, 0, 3072, 7168, 16355, 32739, 65535, 131071] 129 273 B rfl rfl (by kernel_rfl) ?_
 refine A5 ?_
 refine Ch (rd := [0]) rfl rfl (.loadR1 Cu (A9 (Bd _) (Ar he_10) (o := 0) (c := .int .u32 e_10) rfl rfl)) rfl rfl ?_
 refine A5 ?_
 refine Ch (rd := [0]) rfl rfl (.loadR1 Cu (A9 (Bd _) (Ar he_9) (o := 0) (c := .int .u32 e_9) rfl rfl)) rfl rfl ?_
 refine A5 ?_
 refine Ch (rd := [0]) rfl rfl (C2 Cu rfl (Bu (Bd _) (Ar he_9) (o := 0) (m := 1) (by decide) rfl) G1 (cs' := [.int .u32 e_10]) (.cons .int .nil) (Cd (Bd _) (Ar he_9) (o := 0) (x' := e_10) (Nat.le_of_ble_eq_true rfl) rfl rfl)) rfl rfl ?_
 obtain ⟨e_11, he_11, G⟩ := Ab G
 refine A5 ?_
 refine Ch (rd := [0]) rfl rfl (C2 Cu rfl (Bu (Bd _) (Ar he_11) (o := 0) (m := 1) (by decide) rfl) G1 (cs' := [.int .u32 e_9]) (.cons .int .nil) (Cd (Bd _) (Ar he_11) (o := 0) (x' := e_9) (Nat.le_of_ble_eq_true rfl) rfl rfl)) rfl rfl ?_
 refine Fc fun B => ?_
 refine Ak (Ce _ _ []) 273 297 B rfl rfl ?_
 refine Bl fun B => ?_
 obtain rfl := oi_ G
 exact ⟨((W (j_6 + 1), Cg (Cg data_6 ((j_6).toNat) e_10) ((W (j_6 - 1)).toNat) e_9), m6), Nat.lt_succ_self _, hn6, Ax [(0, 0)]⟩
 refine Fl ?_
 replace G := Bn G hn6
 exact ⟨(i_2, data_6), G, Ax [(0, 0)]⟩
 refine Cp ?_
 exact ⟨(i_2, data_5), G, Ax [(0, 0)]⟩
 rintro ⟨i_7, data_7⟩ G
 replace G : Ac.j7 j_1 i_7 data_7 = some o1 := G
 show Ca _ _ _ _ (mk _ _ _)
 unfold Ac.j7 at G
 refine Ak (Ce _ _ []) 1 25 Ba rfl rfl ?_
 refine Bl fun B => ?_
 obtain rfl := oi_ G
 exact ⟨((i_7, W (j_1 + 1), data_7), m1), Nat.lt_succ_self _, hn1, Ax [(0, 0)]⟩
 refine Fl ?_
 replace G := Bn G hn1
 refine Bk 17 25 B fun B => ?_
 refine Et ?_
 obtain rfl := oi_ G
 exact Fe [(0, 0)] ⟨rfl, rfl⟩
theorem Fp (data : List Int) (a : Int) (b : Int) (pivot : Int) (cmp : Int -> Int -> Option (Int)) (hf_cmp : ∀ (x0 : Int) (x1 : Int) (y : Int), cmp x0 x1 = some y -> Fn Tryd.prog 46 0 [.val (.int .u32 x0), .val (.int .u32 x1)] [] (fun d' b' => d' = vk y /\ b' = [])) (r : Int × (List Int)) (G : Ah data a b pivot cmp = some r) : Fn Tryd.prog 80 1 [.row 0, vk a, vk b, vk pivot, .clo 46 0 []] [.row 68 1 (An (eK .u32) data)] (fun d' b' => d' = vk r.1 /\ b' = [.row 68 1 (An (eK .u32) r.2)]) := by
 unfold Ah at G
 refine Fn.of Tryd.func80 rfl rfl rfl fun w0 I ρ0 => ?_
 show Ca _ ⟨w0, I, ρ0, 1, 1, 90, none⟩ _ _ _
 refine Bk 1 9 Ba fun B => ?_
 refine Af <| Br (Ce _ _ []) (by kernel_rfl) [0, 0, 0, 0, 0, 0, 48, 112, 0, 0, 768, 1792, 4083, 8179, 16383, 32767] 9 137 B rfl rfl (by kernel_rfl) ?_
 refine A5 ?_
 obtain ⟨e, he, G⟩ := Ab G
 refine A5 ?_
 refine Ch (rd := [0]) rfl rfl (.loadR1 Cu (A9 (Bd _) (Ar he) (o := 0) (c := .int .u32 e) rfl rfl)) rfl rfl ?_
 refine A5 ?_
 obtain ⟨e_2, he_2, G⟩ := Ab G
 refine A5 ?_
 refine Ch (rd := [0]) rfl rfl (.loadR1 Cu (A9 (Bd _) (Ar he_2) (o := 0) (c := .int .u32 e_2) rfl rfl)) rfl rfl ?_
 refine A5 ?_
 refine Ch (rd := [0]) rfl rfl (C2 Cu rfl (Bu (Bd _) (Ar he_2) (o := 0) (m := 1) (by decide) rfl) G1 (cs' := [.int .u32 e]) (.cons .int .nil) (Cd (Bd _) (Ar he_2) (o := 0) (x' := e) (Nat.le_of_ble_eq_true rfl) rfl rfl)) rfl rfl ?_
 obtain ⟨e_3, he_3, G⟩ := Ab G
 refine A5 ?_
 refine Ch (rd := [0]) rfl rfl (C2 Cu rfl (Bu (Bd _) (Ar he_3) (o := 0) (m := 1) (by decide) rfl) G1 (cs' := [.int .u32 e_2]) (.cons .int .nil) (Cd (Bd _) (Ar he_3) (o := 0) (x' := e_2) (Nat.le_of_ble_eq_true rfl) rfl rfl)) rfl rfl ?_
 refine Fc fun B => ?_
 refine Bk 137 185 B fun B => ?_
 refine Af <| Aj <| Fq (fun ((i_1, j_1, data_1) : Int × Int × List Int) => mk [(0, .row 0), (1, vk a), (4, .clo 46 0 []), (11, vk i_1), (12, vk j_1)] [(0, .row 68 1 (An (eK .u32) data_1))] 1) G (Ax [(0, 0)]) ?_
 rintro ⟨i_1, j_1, data_1⟩ m1 o1 G hn1
 replace G : Ah.l1 a cmp i_1 j_1 data_1 = some o1 := G
 show Ca _ _ _ _ (mk _ _ _)
 unfold Ah.l1 at G
 refine Aj <| Af <| Aj <| Fq (fun (i_2 : Int) => mk [(0, .row 0), (1, vk a), (4, .clo 46 0 []), (11, vk i_2), (12, vk j_1)] [(0, .row 68 1 (An (eK .u32) data_1))] 1) G (Ax [(0, 0)]) ?_
 rintro i_2 m2 o2 G hn2
 replace G : Ah.l2 a cmp j_1 data_1 i_2 = some o2 := G
 show Ca _ _ _ _ (mk _ _ _)
 unfold Ah.l2 at G
 refine Af <| B0 (ι := Bool) (fun (x47_3 : Bool) => mk [(0, .row 0), (1, vk a), (4, .clo 46 0 []), (11, vk i_2), (12, vk j_1), (47, .val (.bool x47_3))] [(0, .row 68 1 (An (eK .u32) data_1))] 1) (fun (x47_3 : Bool) => Ah.j3 a cmp j_1 data_1 i_2 x47_3 = some o2) ?_ ?_
 refine Br (Ce _ _ []) (by kernel_rfl) [0, 0, 3, 7, 15, 15, 15, 111, 239, 15, 15, 1551, 3599, 8191, 16383, 32767, 65535] 1 137 Ba rfl rfl (by kernel_rfl) ?_
 refine A5 ?_
 rcases Gh G with ⟨h4, G⟩ | ⟨h4, G⟩
 refine A5 ?_
 obtain ⟨e_4, he_4, G⟩ := Ab G
 refine A5 ?_
 refine Ch (rd := [0]) (Ea rfl rfl h4) rfl (.loadR1 Cu (A9 (Bd _) (Ar he_4) (o := 0) (c := .int .u32 e_4) rfl rfl)) rfl rfl ?_
 refine A5 ?_
 obtain ⟨e_5, he_5, G⟩ := Ab G
 refine A5 ?_
 refine Ch (rd := [0]) (Ea rfl rfl h4) rfl (.loadR1 Cu (A9 (Bd _) (Ar he_5) (o := 0) (c := .int .u32 e_5) rfl rfl)) rfl rfl ?_
 obtain ⟨y, hy, G⟩ := Ab G
 refine E9 (rd := []) (ps := []) (gs := []) false (Ea rfl rfl h4) rfl (hf_cmp e_4 e_5 _ hy) rfl rfl (.cons .val (.cons .val .nil)) rfl rfl (by intro h; cases h) rfl rfl rfl rfl ?_
 refine Bl fun B => ?_
 exact ⟨!(decide (y < 0)), G, Ax [(0, 0)]⟩
 refine Bl fun B => ?_
 exact ⟨false, G, Ax [(0, 0)]⟩
 rintro x47_3 G
 replace G : Ah.j3 a cmp j_1 data_1 i_2 x47_3 = some o2 := G
 show Ca _ _ _ _ (mk _ _ _)
 unfold Ah.j3 at G
 refine Cn rfl G (fun h7 G => ?_) fun h7 G => ?_
 refine Cp ?_
 refine Aj <| Ak (Ce _ _ []) 1 25 Ba rfl rfl ?_
 refine Bl fun B => ?_
 obtain rfl := oi_ G
 exact ⟨(W (i_2 + 1), m2), Nat.lt_succ_self _, hn2, Ax [(0, 0)]⟩
 refine Fl ?_
 replace G := Bn G hn2
 refine Af <| Aj <| Fq (fun (j_4 : Int) => mk [(0, .row 0), (1, vk a), (4, .clo 46 0 []), (11, vk i_2), (12, vk j_4)] [(0, .row 68 1 (An (eK .u32) data_1))] 1) G (Ax [(0, 0)]) ?_
 rintro j_4 m4 o4 G hn4
 replace G : Ah.l4 a cmp data_1 i_2 j_4 = some o4 := G
 show Ca _ _ _ _ (mk _ _ _)
 unfold Ah.l4 at G
 refine Af <| B0 (ι := Bool) (fun (x65_5 : Bool) => mk [(0, .row 0), (1, vk a), (4, .clo 46 0 []), (11, vk i_2), (12, vk j_4), (65, .val (.bool x65_5))] [(0, .row 68 1 (An (eK .u32) data_1))] 1) (fun (x65_5 : Bool) => Ah.j5 data_1 i_2 j_4 x65_5 = some o4) ?_ ?_
 refine Br (Ce _ _ []) (by kernel_rfl) [0, 0, 3, 7, 15, 15, 15, 111, 239, 15, 15, 1551, 3599, 8191, 16383, 32767] 1 129 Ba rfl rfl (by kernel_rfl) ?_
 refine A5 ?_
 rcases Gh G with ⟨h9, G⟩ | ⟨h9, G⟩
 refine A5 ?_
 obtain ⟨e_6, he_6, G⟩ := Ab G
 refine A5 ?_
 refine Ch (rd := [0]) (Ea rfl rfl h9) rfl (.loadR1 Cu (A9 (Bd _) (Ar he_6) (o := 0) (c := .int .u32 e_6) rfl rfl)) rfl rfl ?_
 refine A5 ?_
 obtain ⟨e_7, he_7, G⟩ := Ab G
 refine A5 ?_
 refine Ch (rd := [0]) (Ea rfl rfl h9) rfl (.loadR1 Cu (A9 (Bd _) (Ar he_7) (o := 0) (c := .int .u32 e_7) rfl rfl)) rfl rfl ?_
 obtain ⟨y_2, hy_2, G⟩ := Ab G
 refine E9 (rd := []) (ps := []) (gs := []) false (Ea rfl rfl h9) rfl (hf_cmp e_6 e_7 _ hy_2) rfl rfl (.cons .val (.cons .val .nil)) rfl rfl (by intro h; cases h) rfl rfl rfl rfl ?_
 refine Bl fun B => ?_
 exact ⟨decide (y_2 < 0), G, Ax [(0, 0)]⟩
 refine Bl fun B => ?_
 exact ⟨false, G, Ax [(0, 0)]⟩
 rintro x65_5 G
 replace G : Ah.j5 data_1 i_2 j_4 x65_5 = some o4 := G
 show Ca _ _ _ _ (mk _ _ _)
 unfold Ah.j5 at G
 refine Cn rfl G (fun h12 G => ?_) fun h12 G => ?_
 refine Cp ?_
 refine Aj <| Ak (Ce _ _ []) 1 25 Ba rfl rfl ?_
 refine Bl fun B => ?_
 obtain rfl := oi_ G
 exact ⟨(W (j_4 - 1), m4), Nat.lt_succ_self _, hn4, Ax [(0, 0)]⟩
 refine Fl ?_
 replace G := Bn G hn4
 refine Af <| Bk 1 25 Ba fun B => ?_
 refine Cn rfl G (fun h15 G => ?_) fun h15 G => ?_
 refine Fl ?_
 replace G := Bn G hn1
 refine Bk 25 41 B fun B => ?_
 refine Et ?_
 obtain rfl := oi_ G
 exact Fe [(0, 0)] ⟨rfl, rfl⟩
 refine Cp ?_
 refine Af <| Br (Ce _ _ []) (by kernel_rfl) [0, 0, 0, 0, 0, 0, 48, 112, 0, 0, 768, 1792, 4083, 8179, 16383, 32767] 25 153 B rfl rfl (by kernel_rfl) ?_
 refine A5 ?_
 obtain ⟨e_8, he_8, G⟩ := Ab G
 refine A5 ?_
 refine Ch (rd := [0]) rfl rfl (.loadR1 Cu (A9 (Bd _) (Ar he_8) (o := 0) (c := .int .u32 e_8) rfl rfl)) rfl rfl ?_
 refine A5 ?_
 obtain ⟨e_9, he_9, G⟩ := Ab G
 refine A5 ?_
 refine Ch (rd := [0]) rfl rfl (.loadR1 Cu (A9 (Bd _) (Ar he_9) (o := 0) (c := .int .u32 e_9) rfl rfl)) rfl rfl ?_
 refine A5 ?_
 refine Ch (rd := [0]) rfl rfl (C2 Cu rfl (Bu (Bd _) (Ar he_9) (o := 0) (m := 1) (by decide) rfl) G1 (cs' := [.int .u32 e_8]) (.cons .int .nil) (Cd (Bd _) (Ar he_9) (o := 0) (x' := e_8) (Nat.le_of_ble_eq_true rfl) rfl rfl)) rfl rfl ?_
 obtain ⟨e_10, he_10, G⟩ := Ab G
 refine A5 ?_
 refine Ch (rd := [0]) rfl rfl (C2 Cu rfl (Bu (Bd _) (Ar he_10) (o := 0) (m := 1) (by decide) rfl) G1 (cs' := [.int .u32 e_9]) (.cons .int .nil) (Cd (Bd _) (Ar he_10) (o := 0) (x' := e_9) (Nat.le_of_ble_eq_true rfl) rfl rfl)) rfl rfl ?_
 refine Fc fun B => ?_
 refine Bk 153 177 B fun B => ?_
 refine Ak (Ce _ _ []) 177 201 B rfl rfl ?_
 refine Bl fun B => ?_
 obtain rfl := oi_ G
 exact ⟨((W (i_2 + 1), W (j_4 - 1), Cg (Cg data_1 ((i_2).toNat) e_8) ((j_4).toNat) e_9), m1), Nat.lt_succ_self _, hn1, Ax [(0, 0)]⟩
end Go.Proofs.YtopkgllcjbpdeaaDoor
