import Derived.Test.YtopkgllcjbpdeaaDoorT1
import Derived.Test.YtopkgllcjbpdeaaDoorA1
import Derived.Test.YtopkgllcjbpdeaaDoorA2
set_option linter.unusedVariables false
set_option linter.unusedSimpArgs false
set_option maxRecDepth 100000
set_option maxHeartbeats 1600000
namespace Go.Proofs.YtopkgllcjbpdeaaDoor
open Go.RowKit
theorem Ga (data : List Int) (a : Int) (b : Int) (pivot : Int) (cmp : Int -> Int -> Option (Int)) (hf_cmp : ∀ (x0 : Int) (x1 : Int) (y : Int), cmp x0 x1 = some y -> Fn Tryd.prog 46 0 [.val (.int .u32 x0), .val (.int .u32 x1)] [] (fun d' b' => d' = vk y /\ b' = [])) (r : Int × Bool × (List Int)) (G : Ad data a b pivot cmp = some r) : Fn Tryd.prog 81 1 [.row 0, vk a, vk b, vk pivot, .clo 46 0 []] [.row 68 1 (An (eK .u32) data)] (fun d' b' => d' = .tup [vk r.1, .val (.bool r.2.1)] /\ b' = [.row 68 1 (An (eK .u32) r.2.2)]) := by
 unfold Ad at G
 refine Fn.of Tryd.func81 rfl rfl rfl fun w0 I ρ0 => ?_
 show Ca _ ⟨w0, I, ρ0, 1, 1, 178, none⟩ _ _ _
 refine Bk 1 17 Ba fun B => ?_
 refine Af <| Br (Ce _ _ []) (by kernel_rfl) [0, 0, 0, 0, 0, 0, 48, 112, 0, 0, 768, 1792, 4083, 8179, 16383, 32767] 17 145 B rfl rfl (by kernel_rfl) ?_
 refine A5 ?_
 obtain ⟨e, he, G⟩ := Ab G
 refine A5 ?_
 refine Ch (rd := [0]) rfl rfl (.loadR1 Cu (A9 (Bd _) (Ar he) (o := 0) (c := .int .u32 e) rfl rfl)) rfl rfl ?_
 refine A5 ?_
 obtain ⟨e_2, he_2, G⟩ := Ab G
 refine A5 ?_
 refine Ch (rd := [0]) rfl rfl (.loadR1 Cu (A9 (Bd _) (Ar he_2) (o := 0) (c := .int .u32 e_2) rfl rfl)) rfl rfl ?_
 refine A5 ?_
 refine Ch (rd := [0]) rfl rfl (C2 Cu rfl (Bu (Bd _) (Ar he_2) (o := 0) (m := 1) (by decide) rfl) G1 (cs' := [.int .u32 e]) (.cons .int .nil) (Cd (Bd _) (Ar he_2) (o := 0) (x' := e) (Nat.le_of_ble_eq_true rfl) rfl rfl)) rfl rfl ?_
 obtain ⟨e_3, he_3, G⟩ := Ab G
 refine A5 ?_
 refine Ch (rd := [0]) rfl rfl (C2 Cu rfl (Bu (Bd _) (Ar he_3) (o := 0) (m := 1) (by decide) rfl) G1 (cs' := [.int .u32 e_2]) (.cons .int .nil) (Cd (Bd _) (Ar he_3) (o := 0) (x' := e_2) (Nat.le_of_ble_eq_true rfl) rfl rfl)) rfl rfl ?_
 refine Fc fun B => ?_
 refine Bk 145 193 B fun B => ?_
 refine Af <| Aj <| Fq (fun (i_1 : Int) => mk [(0, .row 0), (1, vk a), (4, .clo 46 0 []), (12, vk i_1), (13, .val (.int .i64 (W (b - 1))))] [(0, .row 68 1 (An (eK .u32) (Cg (Cg data ((a).toNat) e) ((pivot).toNat) e_2)))] 1) G (Ax [(0, 0)]) ?_
 rintro i_1 m1 o1 G hn1
 replace G : Ad.l1 data a b pivot cmp e e_2 i_1 = some o1 := G
 show Ca _ _ _ _ (mk _ _ _)
 unfold Ad.l1 at G
 refine Af <| B0 (ι := Bool) (fun (x47_2 : Bool) => mk [(0, .row 0), (1, vk a), (4, .clo 46 0 []), (12, vk i_1), (13, .val (.int .i64 (W (b - 1)))), (47, .val (.bool x47_2))] [(0, .row 68 1 (An (eK .u32) (Cg (Cg data ((a).toNat) e) ((pivot).toNat) e_2)))] 1) (fun (x47_2 : Bool) => Ad.j2 data a b pivot cmp e e_2 i_1 x47_2 = some o1) ?_ ?_
 refine Br (Ce _ _ []) (by kernel_rfl) [0, 0, 3, 7, 15, 15, 15, 111, 239, 15, 15, 1551, 3599, 8191, 16383, 32767] 1 129 Ba rfl rfl (by kernel_rfl) ?_
 refine A5 ?_
 rcases Gh G with ⟨h4, G⟩ | ⟨h4, G⟩
 refine A5 ?_
 obtain ⟨e_4, he_4, G⟩ := Ab G
 refine A5 ?_
 refine Ch (rd := [0]) (Ea rfl rfl h4) rfl (.loadR1 Cu (A9 (Bd _) (Ar he_4) (o := 0) (c := .int .u32 e_4) rfl rfl)) rfl rfl ?_
 refine A5 ?_
 obtain ⟨e_5, he_5, G⟩ := Ab G
 refine A5 ?_
 refine Ch (rd := [0]) (Ea rfl rfl h4) rfl (.loadR1 Cu (A9 (Bd _) (Ar he_5) (o := 0) (c := .int .u32 e_5) rfl rfl)) rfl rfl ?_
 obtain ⟨y, hy, G⟩ := Ab G
 refine E9 (rd := []) (ps := []) (gs := []) false (Ea rfl rfl h4) rfl (hf_cmp e_4 e_5 _ hy) rfl rfl (.cons .val (.cons .val .nil)) rfl rfl (by intro h; cases h) rfl rfl rfl rfl ?_
 refine Bl fun B => ?_
 exact ⟨decide (y < 0), G, Ax [(0, 0)]⟩
 refine Bl fun B => ?_
 exact ⟨false, G, Ax [(0, 0)]⟩
 rintro x47_2 G
 replace G : Ad.j2 data a b pivot cmp e e_2 i_1 x47_2 = some o1 := G
 show Ca _ _ _ _ (mk _ _ _)
 unfold Ad.j2 at G
 refine Cn rfl G (fun h7 G => ?_) fun h7 G => ?_
 refine Cp ?_
 refine Aj <| Ak (Ce _ _ []) 1 25 Ba rfl rfl ?_
 refine Bl fun B => ?_
 obtain rfl := oi_ G
 exact ⟨(W (i_1 + 1), m1), Nat.lt_succ_self _, hn1, Ax [(0, 0)]⟩
 refine Fl ?_
 replace G := Bn G hn1
 refine Af <| Aj <| Fq (fun (j_3 : Int) => mk [(0, .row 0), (1, vk a), (4, .clo 46 0 []), (12, vk i_1), (13, vk j_3)] [(0, .row 68 1 (An (eK .u32) (Cg (Cg data ((a).toNat) e) ((pivot).toNat) e_2)))] 1) G (Ax [(0, 0)]) ?_
 rintro j_3 m3 o3 G hn3
 replace G : Ad.l3 data a pivot cmp e e_2 i_1 j_3 = some o3 := G
 show Ca _ _ _ _ (mk _ _ _)
 unfold Ad.l3 at G
 refine Af <| B0 (ι := Bool) (fun (x66_4 : Bool) => mk [(0, .row 0), (1, vk a), (4, .clo 46 0 []), (12, vk i_1), (13, vk j_3), (66, .val (.bool x66_4))] [(0, .row 68 1 (An (eK .u32) (Cg (Cg data ((a).toNat) e) ((pivot).toNat) e_2)))] 1) (fun (x66_4 : Bool) => Ad.j4 data a pivot cmp e e_2 i_1 j_3 x66_4 = some o3) ?_ ?_
 refine Br (Ce _ _ []) (by kernel_rfl) [0, 0, 3, 7, 15, 15, 15, 111, 239, 15, 15, 1551, 3599, 8191, 16383, 32767, 65535] 1 137 Ba rfl rfl (by kernel_rfl) ?_
 refine A5 ?_
 rcases Gh G with ⟨h9, G⟩ | ⟨h9, G⟩
 refine A5 ?_
 obtain ⟨e_6, he_6, G⟩ := Ab G
 refine A5 ?_
 refine Ch (rd := [0]) (Ea rfl rfl h9) rfl (.loadR1 Cu (A9 (Bd _) (Ar he_6) (o := 0) (c := .int .u32 e_6) rfl rfl)) rfl rfl ?_
 refine A5 ?_
 obtain ⟨e_7, he_7, G⟩ := Ab G
 refine A5 ?_
 refine Ch (rd := [0]) (Ea rfl rfl h9) rfl (.loadR1 Cu (A9 (Bd _) (Ar he_7) (o := 0) (c := .int .u32 e_7) rfl rfl)) rfl rfl ?_
 obtain ⟨y_2, hy_2, G⟩ := Ab G
 refine E9 (rd := []) (ps := []) (gs := []) false (Ea rfl rfl h9) rfl (hf_cmp e_6 e_7 _ hy_2) rfl rfl (.cons .val (.cons .val .nil)) rfl rfl (by intro h; cases h) rfl rfl rfl rfl ?_
 refine Bl fun B => ?_
 exact ⟨!(decide (y_2 < 0)), G, Ax [(0, 0)]⟩
 refine Bl fun B => ?_
 exact ⟨false, G, Ax [(0, 0)]⟩
 rintro x66_4 G
 replace G : Ad.j4 data a pivot cmp e e_2 i_1 j_3 x66_4 = some o3 := G
 show Ca _ _ _ _ (mk _ _ _)
 unfold Ad.j4 at G
 refine Cn rfl G (fun h12 G => ?_) fun h12 G => ?_
 refine Cp ?_
 refine Aj <| Ak (Ce _ _ []) 1 25 Ba rfl rfl ?_
 refine Bl fun B => ?_
 obtain rfl := oi_ G
 exact ⟨(W (j_3 - 1), m3), Nat.lt_succ_self _, hn3, Ax [(0, 0)]⟩
 refine Fl ?_
 replace G := Bn G hn3
 refine Af <| Bk 1 25 Ba fun B => ?_
 refine Cn rfl G (fun h15 G => ?_) fun h15 G => ?_
 refine Af <| Br (Ce _ _ []) (by kernel_rfl) [0, 0, 0, 0, 0, 0, 48, 112, 0, 0, 768, 1792, 4083, 8179, 16383, 32767] 25 153 B rfl rfl (by kernel_rfl) ?_
 refine A5 ?_
 obtain ⟨e_8, he_8, G⟩ := Ab G
 refine A5 ?_
 refine Ch (rd := [0]) rfl rfl (.loadR1 Cu (A9 (Bd _) (Ar he_8) (o := 0) (c := .int .u32 e_8) rfl rfl)) rfl rfl ?_
 refine A5 ?_
 obtain ⟨e_9, he_9, G⟩ := Ab G
 refine A5 ?_
 refine Ch (rd := [0]) rfl rfl (.loadR1 Cu (A9 (Bd _) (Ar he_9) (o := 0) (c := .int .u32 e_9) rfl rfl)) rfl rfl ?_
 refine A5 ?_
 refine Ch (rd := [0]) rfl rfl (C2 Cu rfl (Bu (Bd _) (Ar he_9) (o := 0) (m := 1) (by decide) rfl) G1 (cs' := [.int .u32 e_8]) (.cons .int .nil) (Cd (Bd _) (Ar he_9) (o := 0) (x' := e_8) (Nat.le_of_ble_eq_true rfl) rfl rfl)) rfl rfl ?_
 obtain ⟨e_10, he_10, G⟩ := Ab G
 refine A5 ?_
 refine Ch (rd := [0]) rfl rfl (C2 Cu rfl (Bu (Bd _) (Ar he_10) (o := 0) (m := 1) (by decide) rfl) G1 (cs' := [.int .u32 e_9]) (.cons .int .nil) (Cd (Bd _) (Ar he_10) (o := 0) (x' := e_9) (Nat.le_of_ble_eq_true rfl) rfl rfl)) rfl rfl ?_
 refine Fc fun B => ?_
 refine Bk 153 177 B fun B => ?_
 refine Et ?_
 obtain rfl := oi_ G
 exact Fe [(0, 0)] ⟨rfl, rfl⟩
 refine Cp ?_
 refine Af <| Br (Ce _ _ []) (by kernel_rfl) [0, 0, 0, 0, 0, 0, 48, 112, 0, 0, 768, 1792, 4083, 8179, 16383, 32767] 25 153 B rfl rfl (by kernel_rfl) ?_
 refine A5 ?_
 obtain ⟨e_11, he_11, G⟩ := Ab G
 refine A5 ?_
 refine Ch (rd := [0]) rfl rfl (.loadR1 Cu (A9 (Bd _) (Ar he_11) (o := 0) (c := .int .u32 e_11) rfl rfl)) rfl rfl ?_
 refine A5 ?_
 obtain ⟨e_12, he_12, G⟩ := Ab G
 refine A5 ?_
 refine Ch (rd := [0]) rfl rfl (.loadR1 Cu (A9 (Bd _) (Ar he_12) (o := 0) (c := .int .u32 e_12) rfl rfl)) rfl rfl ?_
 refine A5 ?_
 refine Ch (rd := [0]) rfl rfl (C2 Cu rfl (Bu (Bd _) (Ar he_12) (o := 0) (m := 1) (by decide) rfl) G1 (cs' := [.int .u32 e_11]) (.cons .int .nil) (Cd (Bd _) (Ar he_12) (o := 0) (x' := e_11) (Nat.le_of_ble_eq_true rfl) rfl rfl)) rfl rfl ?_
 obtain ⟨e_13, he_13, G⟩ := Ab G
 refine A5 ?_
 refine Ch (rd := [0]) rfl rfl (C2 Cu rfl (Bu (Bd _) (Ar he_13) (o := 0) (m := 1) (by decide) rfl) G1 (cs' := [.int .u32 e_12]) (.cons .int .nil) (Cd (Bd _) (Ar he_13) (o := 0) (x' := e_12) (Nat.le_of_ble_eq_true rfl) rfl rfl)) rfl rfl ?_
 refine Fc fun B => ?_
 refine Bk 153 177 B fun B => ?_
 refine Bk 177 201 B fun B => ?_
 refine Af <| Aj <| Fq (fun ((i_5, j_5, data_5) : Int × Int × List Int) => mk [(0, .row 0), (1, vk a), (4, .clo 46 0 []), (12, vk i_5), (13, vk j_5)] [(0, .row 68 1 (An (eK .u32) data_5))] 1) G (Ax [(0, 0)]) ?_
 rintro ⟨i_5, j_5, data_5⟩ m5 o5 G hn5
 replace G : Ad.l5 a cmp i_5 j_5 data_5 = some o5 := G
 show Ca _ _ _ _ (mk _ _ _)
 unfold Ad.l5 at G
 refine Aj <| Af <| Aj <| Fq (fun (i_6 : Int) => mk [(0, .row 0), (1, vk a), (4, .clo 46 0 []), (12, vk i_6), (13, vk j_5)] [(0, .row 68 1 (An (eK .u32) data_5))] 1) G (Ax [(0, 0)]) ?_
 rintro i_6 m6 o6 G hn6
 replace G : Ad.l6 a cmp j_5 data_5 i_6 = some o6 := G
 show Ca _ _ _ _ (mk _ _ _)
 unfold Ad.l6 at G
 refine Af <| B0 (ι := Bool) (fun (x120_7 : Bool) => mk [(0, .row 0), (1, vk a), (4, .clo 46 0 []), (12, vk i_6), (13, vk j_5), (120, .val (.bool x120_7))] [(0, .row 68 1 (An (eK .u32) data_5))] 1) (fun (x120_7 : Bool) => Ad.j7 a cmp j_5 data_5 i_6 x120_7 = some o6) ?_ ?_
 refine Br (Ce _ _ []) (by kernel_rfl) [0, 0, 3, 7, 15, 15, 15, 111, 239, 15, 15, 1551, 3599, 8191, 16383, 32767] 1 129 Ba rfl rfl (by kernel_rfl) ?_
 refine A5 ?_
 rcases Gh G with ⟨h21, G⟩ | ⟨h21, G⟩
 refine A5 ?_
 obtain ⟨e_14, he_14, G⟩ := Ab G
 refine A5 ?_
 refine Ch (rd := [0]) (Ea rfl rfl h21) rfl (.loadR1 Cu (A9 (Bd _) (Ar he_14) (o := 0) (c := .int .u32 e_14) rfl rfl)) rfl rfl ?_
 refine A5 ?_
 obtain ⟨e_15, he_15, G⟩ := Ab G
 refine A5 ?_
 refine Ch (rd := [0]) (Ea rfl rfl h21) rfl (.loadR1 Cu (A9 (Bd _) (Ar he_15) (o := 0) (c := .int .u32 e_15) rfl rfl)) rfl rfl ?_
 obtain ⟨y_3, hy_3, G⟩ := Ab G
 refine E9 (rd := []) (ps := []) (gs := []) false (Ea rfl rfl h21) rfl (hf_cmp e_14 e_15 _ hy_3) rfl rfl (.cons .val (.cons .val .nil)) rfl rfl (by intro h; cases h) rfl rfl rfl rfl ?_
 refine Bl fun B => ?_
 exact ⟨decide (y_3 < 0), G, Ax [(0, 0)]⟩
 refine Bl fun B => ?_
 exact ⟨false, G, Ax [(0, 0)]⟩
 rintro x120_7 G
 replace G : Ad.j7 a cmp j_5 data_5 i_6 x120_7 = some o6 := G
 show Ca _ _ _ _ (mk _ _ _)
 unfold Ad.j7 at G
 refine Cn rfl G (fun h24 G => ?_) fun h24 G => ?_
 refine Cp ?_
 refine Aj <| Ak (Ce _ _ []) 1 25 Ba rfl rfl ?_
 refine Bl fun B => ?_
 obtain rfl := oi_ G
 exact ⟨(W (i_6 + 1), m6), Nat.lt_succ_self _, hn6, Ax [(0, 0)]⟩
 refine Fl ?_
 replace G := Bn G hn6
 refine Af <| Aj <| Fq (fun (j_8 : Int) => mk [(0, .row 0), (1, vk a), (4, .clo 46 0 []), (12, vk i_6), (13, vk j_8)] [(0, .row 68 1 (An (eK .u32) data_5))] 1) G (Ax [(0, 0)]) ?_
 rintro j_8 m8 o8 G hn8
 replace G : Ad.l8 a cmp data_5 i_6 j_8 = some o8 := G
 show Ca _ _ _ _ (mk _ _ _)
 unfold Ad.l8 at G
 refine Af <| B0 (ι := Bool) (fun (x139_9 : Bool) => mk [(0, .row 0), (1, vk a), (4, .clo 46 0 []), (12, vk i_6), (13, vk j_8), (139, .val (.bool x139_9))] [(0, .row 68 1 (An (eK .u32) data_5))] 1) (fun (x139_9 : Bool) => Ad.j9 a data_5 i_6 j_8 x139_9 = some o8) ?_ ?_
 refine Br (Ce _ _ []) (by kernel_rfl) [0, 0, 3, 7, 15, 15, 15, 111, 239, 15, 15, 1551, 3599, 8191, 16383, 32767, 65535] 1 137 Ba rfl rfl (by kernel_rfl) ?_
 refine A5 ?_
 rcases Gh G with ⟨h26, G⟩ | ⟨h26, G⟩
 refine A5 ?_
 obtain ⟨e_16, he_16, G⟩ := Ab G
 refine A5 ?_
 refine Ch (rd := [0]) (Ea rfl rfl h26) rfl (.loadR1 Cu (A9 (Bd _) (Ar he_16) (o := 0) (c := .int .u32 e_16) rfl rfl)) rfl rfl ?_
 refine A5 ?_
 obtain ⟨e_17, he_17, G⟩ := Ab G
 refine A5 ?_
 refine Ch (rd := [0]) (Ea rfl rfl h26) rfl (.loadR1 Cu (A9 (Bd _) (Ar he_17) (o := 0) (c := .int .u32 e_17) rfl rfl)) rfl rfl ?_
 obtain ⟨y_4, hy_4, G⟩ := Ab G
 refine E9 (rd := []) (ps := []) (gs := []) false (Ea rfl rfl h26) rfl (hf_cmp e_16 e_17 _ hy_4) rfl rfl (.cons .val (.cons .val .nil)) rfl rfl (by intro h; cases h) rfl rfl rfl rfl ?_
 refine Bl fun B => ?_
 exact ⟨!(decide (y_4 < 0)), G, Ax [(0, 0)]⟩
 refine Bl fun B => ?_
 exact ⟨false, G, Ax [(0, 0)]⟩
 rintro x139_9 G
 replace G : Ad.j9 a data_5 i_6 j_8 x139_9 = some o8 := G
 show Ca _ _ _ _ (mk _ _ _)
 unfold Ad.j9 at G
 refine Cn rfl G (fun h29 G => ?_) fun h29 G => ?_
 refine Cp ?_
 refine Aj <| Ak (Ce _ _ []) 1 25 Ba rfl rfl ?_
 refine Bl fun B => ?_
 obtain rfl := oi_ G
 exact ⟨(W (j_8 - 1), m8), Nat.lt_succ_self _, hn8, Ax [(0, 0)]⟩
 refine Fl ?_
 replace G := Bn G hn8
 refine Af <| Bk 1 25 Ba fun B => ?_
 refine Cn rfl G (fun h32 G => ?_) fun h32 G => ?_
 refine Fl ?_
 replace G := Bn G hn5
 refine Af <| Br (Ce _ _ []) (by kernel_rfl) [0, 0, 0, 0, 0, 0, 48, 112, 0, 0, 768, 1792, 4083, 8179, 16383, 32767] 25 153 B rfl rfl (by kernel_rfl) ?_
 refine A5 ?_
 obtain ⟨e_21, he_21, G⟩ := Ab G
 refine A5 ?_
 refine Ch (rd := [0]) rfl rfl (.loadR1 Cu (A9 (Bd _) (Ar he_21) (o := 0) (c := .int .u32 e_21) rfl rfl)) rfl rfl ?_
 refine A5 ?_
 obtain ⟨e_22, he_22, G⟩ := Ab G
 refine A5 ?_
 refine Ch (rd := [0]) rfl rfl (.loadR1 Cu (A9 (Bd _) (Ar he_22) (o := 0) (c := .int .u32 e_22) rfl rfl)) rfl rfl ?_
 refine A5 ?_
 refine Ch (rd := [0]) rfl rfl (C2 Cu rfl (Bu (Bd _) (Ar he_22) (o := 0) (m := 1) (by decide) rfl) G1 (cs' := [.int .u32 e_21]) (.cons .int .nil) (Cd (Bd _) (Ar he_22) (o := 0) (x' := e_21) (Nat.le_of_ble_eq_true rfl) rfl rfl)) rfl rfl ?_
 obtain ⟨e_23, he_23, G⟩ := Ab G
 refine A5 ?_
 refine Ch (rd := [0]) rfl rfl (C2 Cu rfl (Bu (Bd _) (Ar he_23) (o := 0) (m := 1) (by decide) rfl) G1 (cs' := [.int .u32 e_22]) (.cons .int .nil) (Cd (Bd _) (Ar he_23) (o := 0) (x' := e_22) (Nat.le_of_ble_eq_true rfl) rfl rfl)) rfl rfl ?_
 refine Fc fun B => ?_
 refine Bk 153 177 B fun B => ?_
 refine Et ?_
 obtain rfl := oi_ G
 exact Fe [(0, 0)] ⟨rfl, rfl⟩
 refine Cp ?_
 refine Af <| Br (Ce _ _ []) (by kernel_rfl) [0, 0, 0, 0, 0, 0, 48, 112, 0, 0, 768, 1792, 4083, 8179, 16383, 32767] 25 153 B rfl rfl (by kernel_rfl) ?_
 refine A5 ?_
 obtain ⟨e_18, he_18, G⟩ := Ab G
 refine A5 ?_
 refine Ch (rd := [0]) rfl rfl (.loadR1 Cu (A9 (Bd _) (Ar he_18) (o := 0) (c := .int .u32 e_18) rfl rfl)) rfl rfl ?_
 refine A5 ?_
 obtain ⟨e_19, he_19, G⟩ := Ab G
 refine A5 ?_
 refine Ch (rd := [0]) rfl rfl (.loadR1 Cu (A9 (Bd _) (Ar he_19) (o := 0) (c := .int .u32 e_19) rfl rfl)) rfl rfl ?_
 refine A5 ?_
 refine Ch (rd := [0]) rfl rfl (C2 Cu rfl (Bu (Bd _) (Ar he_19) (o := 0) (m := 1) (by decide) rfl) G1 (cs' := [.int .u32 e_18]) (.cons .int .nil) (Cd (Bd _) (Ar he_19) (o := 0) (x' := e_18) (Nat.le_of_ble_eq_true rfl) rfl rfl)) rfl rfl ?_
 obtain ⟨e_20, he_20, G⟩ := Ab G
 refine A5 ?_
 refine Ch (rd := [0]) rfl rfl (C2 Cu rfl (Bu (Bd _) (Ar he_20) (o := 0) (m := 1) (by decide) rfl) G1 (cs' := [.int .u32 e_19]) (.cons .int .nil) (Cd (Bd _) (Ar he_20) (o := 0) (x' := e_19) (Nat.le_of_ble_eq_true rfl) rfl rfl)) rfl rfl ?_
 refine Fc fun B => ?_
 refine Bk 153 177 B fun B => ?_
 refine Ak (Ce _ _ []) 177 201 B rfl rfl ?_
 refine Bl fun B => ?_
 obtain rfl := oi_ G
 exact ⟨((W (i_6 + 1), W (j_8 - 1), Cg (Cg data_5 ((i_6).toNat) e_18) ((j_8).toNat) e_19), m5), Nat.lt_succ_self _, hn5, Ax [(0, 0)]⟩
theorem Dm.F (cmp : Int -> Int -> Option (Int)) (hf_cmp : ∀ (x0 : Int) (x1 : Int) (y : Int), cmp x0 x1 = some y -> Fn Tryd.prog 46 0 [.val (.int .u32 x0), .val (.int .u32 x1)] [] (fun d' b' => d' = vk y /\ b' = [])) (rec : (List Int) -> Int -> Int -> Int -> Option ((List Int))) (hrec : ∀ (data : List Int) (a : Int) (b : Int) (limit : Int) (r : (List Int)), rec data a b limit = some r -> Fn Tryd.prog 65 1 [.row 0, vk a, vk b, vk limit, .clo 46 0 []] [.row 68 1 (An (eK .u32) data)] (fun d' b' => d' = .tup [] /\ b' = [.row 68 1 (An (eK .u32) r)])) (data : List Int) (a : Int) (b : Int) (limit : Int) (r : (List Int)) (G : Ae.F rec data a b limit cmp = some r) : Fn Tryd.prog 65 1 [.row 0, vk a, vk b, vk limit, .clo 46 0 []] [.row 68 1 (An (eK .u32) data)] (fun d' b' => d' = .tup [] /\ b' = [.row 68 1 (An (eK .u32) r)]) := by
 unfold Ae.F at G
 refine Fn.of Tryd.func65 rfl rfl rfl fun w0 I ρ0 => ?_
 show Ca _ ⟨w0, I, ρ0, 1, 1, 148, none⟩ _ _ _
 refine Bk 1 9 Ba fun B => ?_
 refine Bk 9 17 B fun B => ?_
 refine Aj <| Fq (fun ((a_1, b_1, limit_1, wasBalanced_1, wasPartitioned_1, data_1) : Int × Int × Int × Bool × Bool × List Int) => mk [(0, .row 0), (1, vk a_1), (2, vk b_1), (3, vk limit_1), (4, .clo 46 0 []), (10, .val (.bool wasBalanced_1)), (11, .val (.bool wasPartitioned_1))] [(0, .row 68 1 (An (eK .u32) data_1))] 1) G (Ax [(0, 0)]) ?_
 rintro ⟨a_1, b_1, limit_1, wasBalanced_1, wasPartitioned_1, data_1⟩ m1 o1 G hn1
 replace G : Ae.l1 rec cmp a_1 b_1 limit_1 wasBalanced_1 wasPartitioned_1 data_1 = some o1 := G
 show Ca _ _ _ _ (mk _ _ _)
 unfold Ae.l1 at G
 refine Aj <| Bk 1 33 Ba fun B => ?_
 refine Af <| Bk 33 49 B fun B => ?_
 refine Cn rfl G (fun h5 G => ?_) fun h5 G => ?_
 refine Cf 49 89 B ?_
 refine A5 ?_
 obtain ⟨y, hy, G⟩ := Ab G
 refine Kg [0] [0] [] false (Fu data_1 a_1 b_1 cmp hf_cmp _ hy) ?_
 refine Fc fun B => ?_
 refine Et ?_
 replace G := Bn G hn1
 obtain rfl := oi_ G
 exact Fe [(0, 0)] ⟨rfl, rfl⟩
 refine Cp ?_
 refine Af <| Bk 49 65 B fun B => ?_
 refine Cn rfl G (fun h8 G => ?_) fun h8 G => ?_
 refine Cf 65 105 B ?_
 refine A5 ?_
 obtain ⟨y_2, hy_2, G⟩ := Ab G
 refine Kg [0] [0] [] false (Gg data_1 a_1 b_1 cmp hf_cmp _ hy_2) ?_
 refine Fc fun B => ?_
 refine Et ?_
 replace G := Bn G hn1
 obtain rfl := oi_ G
 exact Fe [(0, 0)] ⟨rfl, rfl⟩
 refine Cp ?_
 refine B0 (ι := Int × List Int) (fun ((limit_2, data_2) : Int × List Int) => mk [(0, .row 0), (1, vk a_1), (2, vk b_1), (3, vk limit_2), (4, .clo 46 0 []), (10, .val (.bool wasBalanced_1)), (11, .val (.bool wasPartitioned_1)), (12, .val (.int .i64 (W (b_1 - a_1))))] [(0, .row 68 1 (An (eK .u32) data_2))] 1) (fun ((limit_2, data_2) : Int × List Int) => Ae.j2 rec cmp a_1 b_1 wasBalanced_1 wasPartitioned_1 limit_2 data_2 = some o1) ?_ ?_
 refine Bk 65 81 B fun B => ?_
 refine Cn rfl G (fun h11 G => ?_) fun h11 G => ?_
 refine Cf 81 121 B ?_
 refine A5 ?_
 obtain ⟨y_3, hy_3, G⟩ := Ab G
 refine Kg [0] [0] [] false (Fs data_1 a_1 b_1 cmp hf_cmp _ hy_3) ?_
 refine Fc fun B => ?_
 refine Ak (Ce _ _ []) 121 145 B rfl rfl ?_
 refine Bl fun B => ?_
 exact ⟨(W (limit_1 - 1), y_3), G, Ax [(0, 0)]⟩
 refine Cp ?_
 exact ⟨(limit_1, data_1), G, Ax [(0, 0)]⟩
 rintro ⟨limit_2, data_2⟩ G
 replace G : Ae.j2 rec cmp a_1 b_1 wasBalanced_1 wasPartitioned_1 limit_2 data_2 = some o1 := G
 show Ca _ _ _ _ (mk _ _ _)
 unfold Ae.j2 at G
 refine Cf 1 81 Ba ?_
 refine A5 ?_
 obtain ⟨y_4, hy_4, G⟩ := Ab G
 refine Kg [0] [] [] true (Fz data_2 a_1 b_1 cmp hf_cmp _ hy_4) ?_
 refine Bl fun B => ?_
 refine B0 (ι := Int × Int × List Int) (fun ((pivot_3, hint_3, data_3) : Int × Int × List Int) => mk [(0, .row 0), (1, vk a_1), (2, vk b_1), (3, vk limit_2), (4, .clo 46 0 []), (10, .val (.bool wasBalanced_1)), (11, .val (.bool wasPartitioned_1)), (12, .val (.int .i64 (W (b_1 - a_1)))), (13, vk pivot_3), (14, vk hint_3)] [(0, .row 68 1 (An (eK .u32) data_3))] 1) (fun ((pivot_3, hint_3, data_3) : Int × Int × List Int) => Ae.j3 rec cmp a_1 b_1 wasBalanced_1 wasPartitioned_1 limit_2 pivot_3 hint_3 data_3 = some o1) ?_ ?_
 refine Bk 81 97 B fun B => ?_
 refine Cn rfl G (fun h16 G => ?_) fun h16 G => ?_
 refine Cf 97 137 B ?_
 refine A5 ?_
 obtain ⟨y_5, hy_5, G⟩ := Ab G
 refine Kg [0] [0] [] false (Fw data_2 a_1 b_1 cmp hf_cmp _ hy_5) ?_
 refine Fc fun B => ?_
 refine Bk 137 193 B fun B => ?_
 refine Ak (Ce _ _ []) 193 201 B rfl rfl ?_
 refine Bl fun B => ?_
 exact ⟨(W ((W (b_1 - 1)) - (W (y_4.1 - a_1))), 1, y_5), G, Ax [(0, 0)]⟩
 refine Cp ?_
 exact ⟨(y_4.1, y_4.2, data_2), G, Ax [(0, 0)]⟩
 rintro ⟨pivot_3, hint_3, data_3⟩ G
 replace G : Ae.j3 rec cmp a_1 b_1 wasBalanced_1 wasPartitioned_1 limit_2 pivot_3 hint_3 data_3 = some o1 := G
 show Ca _ _ _ _ (mk _ _ _)
 unfold Ae.j3 at G
 refine B0 (ι := List Int) (fun (data_5 : List Int) => mk [(0, .row 0), (1, vk a_1), (2, vk b_1), (3, vk limit_2), (4, .clo 46 0 []), (10, .val (.bool wasBalanced_1)), (11, .val (.bool wasPartitioned_1)), (12, .val (.int .i64 (W (b_1 - a_1)))), (13, vk pivot_3)] [(0, .row 68 1 (An (eK .u32) data_5))] 1) (fun (data_5 : List Int) => Ae.j5 rec cmp a_1 b_1 wasBalanced_1 wasPartitioned_1 limit_2 pivot_3 data_5 = some o1) ?_ ?_
 refine B0 (ι := Bool) (fun (x75_4 : Bool) => mk [(0, .row 0), (1, vk a_1), (2, vk b_1), (3, vk limit_2), (4, .clo 46 0 []), (10, .val (.bool wasBalanced_1)), (11, .val (.bool wasPartitioned_1)), (12, .val (.int .i64 (W (b_1 - a_1)))), (13, vk pivot_3), (75, .val (.bool x75_4))] [(0, .row 68 1 (An (eK .u32) data_3))] 1) (fun (x75_4 : Bool) => Ae.j4 rec cmp a_1 b_1 wasBalanced_1 wasPartitioned_1 limit_2 pivot_3 data_3 x75_4 = some o1) ?_ ?_
 refine Ak (Ce _ _ []) 1 65 Ba rfl rfl ?_
 refine A5 ?_
 rcases Gh G with ⟨h20, G⟩ | ⟨h20, G⟩
 refine A5 ?_
 rcases Gh G with ⟨h21, G⟩ | ⟨h21, G⟩
 refine Bl fun B => ?_
 exact ⟨decide (hint_3 = 1), G, Ax [(0, 0)]⟩
 refine Bl fun B => ?_
 exact ⟨false, G, Ax [(0, 0)]⟩
 refine Bl fun B => ?_
 exact ⟨false, G, Ax [(0, 0)]⟩
 rintro x75_4 G
 replace G : Ae.j4 rec cmp a_1 b_1 wasBalanced_1 wasPartitioned_1 limit_2 pivot_3 data_3 x75_4 = some o1 := G
 show Ca _ _ _ _ (mk _ _ _)
 unfold Ae.j4 at G
 refine Cn rfl G (fun h25 G => ?_) fun h25 G => ?_
 refine Cf 1 41 Ba ?_
 refine A5 ?_
 obtain ⟨y_6, hy_6, G⟩ := Ab G
 refine Kg [0] [0] [] false (E4 data_3 a_1 b_1 cmp hf_cmp _ hy_6) ?_
 refine Fc fun B => ?_
 refine Cn rfl G (fun h27 G => ?_) fun h27 G => ?_
 refine J1 ?_
 refine U0 ?_
 replace G := Bn G hn1
 obtain rfl := oi_ G
 exact Fe [(0, 0)] ⟨rfl, rfl⟩
 refine Cp ?_
 exact ⟨y_6.2, G, Ax [(0, 0)]⟩
 refine Cp ?_
 exact ⟨data_3, G, Ax [(0, 0)]⟩
 rintro data_5 G
 replace G : Ae.j5 rec cmp a_1 b_1 wasBalanced_1 wasPartitioned_1 limit_2 pivot_3 data_5 = some o1 := G
 show Ca _ _ _ _ (mk _ _ _)
 unfold Ae.j5 at G
 refine Af <| B0 (ι := Bool) (fun (x97_6 : Bool) => mk [(0, .row 0), (1, vk a_1), (2, vk b_1), (3, vk limit_2), (4, .clo 46 0 []), (10, .val (.bool wasBalanced_1)), (11, .val (.bool wasPartitioned_1)), (12, .val (.int .i64 (W (b_1 - a_1)))), (13, vk pivot_3), (97, .val (.bool x97_6))] [(0, .row 68 1 (An (eK .u32) data_5))] 1) (fun (x97_6 : Bool) => Ae.j6 rec cmp a_1 b_1 wasBalanced_1 wasPartitioned_1 limit_2 pivot_3 data_5 x97_6 = some o1) ?_ ?_
 refine Br (Ce _ _ []) (by kernel_rfl) [0, 1, 3, 7, 7, 7, 39, 119, 247, 7, 7, 1543, 3591, 8191, 16383, 32767, 65535] 1 137 Ba rfl rfl (by kernel_rfl) ?_
 refine A5 ?_
 rcases Gh G with ⟨h28, G⟩ | ⟨h28, G⟩
 refine A5 ?_
 obtain ⟨e, he, G⟩ := Ab G
 refine A5 ?_
 refine Ch (rd := [0]) (Ea rfl rfl h28) rfl (.loadR1 Cu (A9 (Bd _) (Ar he) (o := 0) (c := .int .u32 e) rfl rfl)) rfl rfl ?_
 refine A5 ?_
 obtain ⟨e_2, he_2, G⟩ := Ab G
 refine A5 ?_
 refine Ch (rd := [0]) (Ea rfl rfl h28) rfl (.loadR1 Cu (A9 (Bd _) (Ar he_2) (o := 0) (c := .int .u32 e_2) rfl rfl)) rfl rfl ?_
 obtain ⟨y_7, hy_7, G⟩ := Ab G
 refine E9 (rd := []) (ps := []) (gs := []) false (Ea rfl rfl h28) rfl (hf_cmp e e_2 _ hy_7) rfl rfl (.cons .val (.cons .val .nil)) rfl rfl (by intro h; cases h) rfl rfl rfl rfl ?_
 refine Bl fun B => ?_
 exact ⟨!(decide (y_7 < 0)), G, Ax [(0, 0)]⟩
 refine Bl fun B => ?_
 exact ⟨false, G, Ax [(0, 0)]⟩
 rintro x97_6 G
 replace G : Ae.j6 rec cmp a_1 b_1 wasBalanced_1 wasPartitioned_1 limit_2 pivot_3 data_5 x97_6 = some o1 := G
 show Ca _ _ _ _ (mk _ _ _)
 unfold Ae.j6 at G
 refine Cn rfl G (fun h31 G => ?_) fun h31 G => ?_
 refine Cf 1 57 Ba ?_
 refine A5 ?_
 obtain ⟨y_8, hy_8, G⟩ := Ab G
 refine Kg [0] [0] [] false (Fp data_5 a_1 b_1 pivot_3 cmp hf_cmp _ hy_8) ?_
 refine Bl fun B => ?_
 refine Bk 57 73 B fun B => ?_
 refine Fl ?_
 obtain rfl := oi_ G
 exact ⟨((y_8.1, b_1, limit_2, wasBalanced_1, wasPartitioned_1, y_8.2), m1), Nat.lt_succ_self _, hn1, Ax [(0, 0)]⟩
 refine Cp ?_
 refine Cf 1 89 Ba ?_
 refine A5 ?_
 obtain ⟨y_9, hy_9, G⟩ := Ab G
 refine Kg [0] [0] [] false (Ga data_5 a_1 b_1 pivot_3 cmp hf_cmp _ hy_9) ?_
 refine Bl fun B => ?_
 refine Bk 89 105 B fun B => ?_
 refine Bk 105 169 B fun B => ?_
 refine Cf 169 193 B ?_
 refine A5 ?_
 obtain ⟨q, hq, G⟩ := Ab G
 refine Ei rfl rfl (Sb hq) rfl rfl ?_
 refine Bl fun B => ?_
 refine Bk 193 217 B fun B => ?_
 refine Cn rfl G (fun h39 G => ?_) fun h39 G => ?_
 refine Bk 217 249 B fun B => ?_
 refine Cf 249 297 B ?_
 refine A5 ?_
 obtain ⟨y_10, hy_10, G⟩ := Ab G
 refine Kg [0] [0] [] false (hrec y_9.2.2 a_1 y_9.1 limit_2 _ hy_10) ?_
 refine Fc fun B => ?_
 refine Ak (Ce _ _ []) 297 321 B rfl rfl ?_
 refine Bl fun B => ?_
 obtain rfl := oi_ G
 exact ⟨((W (y_9.1 + 1), b_1, limit_2, decide (q <= (W (y_9.1 - a_1))), y_9.2.1, y_10), m1), Nat.lt_succ_self _, hn1, Ax [(0, 0)]⟩
 refine Bk 217 249 B fun B => ?_
 refine Cf 249 305 B ?_
 refine A5 ?_
 obtain ⟨y_11, hy_11, G⟩ := Ab G
 refine Kg [0] [0] [] false (hrec y_9.2.2 (W (y_9.1 + 1)) b_1 limit_2 _ hy_11) ?_
 refine Fc fun B => ?_
 refine Ak (Ce _ _ []) 305 321 B rfl rfl ?_
 refine Bl fun B => ?_
 obtain rfl := oi_ G
 exact ⟨((a_1, y_9.1, limit_2, decide (q <= (W (b_1 - y_9.1))), y_9.2.1, y_11), m1), Nat.lt_succ_self _, hn1, Ax [(0, 0)]⟩
theorem Dm (data : List Int) (a : Int) (b : Int) (limit : Int) (cmp : Int -> Int -> Option (Int)) (hf_cmp : ∀ (x0 : Int) (x1 : Int) (y : Int), cmp x0 x1 = some y -> Fn Tryd.prog 46 0 [.val (.int .u32 x0), .val (.int .u32 x1)] [] (fun d' b' => d' = vk y /\ b' = [])) (r : (List Int)) (G : Ae data a b limit cmp = some r) : Fn Tryd.prog 65 1 [.row 0, vk a, vk b, vk limit, .clo 46 0 []] [.row 68 1 (An (eK .u32) data)] (fun d' b' => d' = .tup [] /\ b' = [.row 68 1 (An (eK .u32) r)]) :=
 fU (motive := fun (x : List Int × Int × Int × Int) (r : (List Int)) => Fn Tryd.prog 65 1 [.row 0, vk x.2.1, vk x.2.2.1, vk x.2.2.2, .clo 46 0 []] [.row 68 1 (An (eK .u32) x.1)] (fun d' b' => d' = .tup [] /\ b' = [.row 68 1 (An (eK .u32) r)])) (fun rec hrec x r h => Dm.F cmp hf_cmp _ (fun data a b limit r h => hrec (data, a, b, limit) r h) x.1 x.2.1 x.2.2.1 x.2.2.2 r h) (data, a, b, limit) r G
theorem Hl (x' : List Int) (cmp : Int -> Int -> Option (Int)) (hf_cmp : ∀ (x0 : Int) (x1 : Int) (y : Int), cmp x0 x1 = some y -> Fn Tryd.prog 46 0 [.val (.int .u32 x0), .val (.int .u32 x1)] [] (fun d' b' => d' = vk y /\ b' = [])) (r : (List Int)) (G : C3 x' cmp = some r) : Fn Tryd.prog 45 1 [.row 0, .clo 46 0 []] [.row 68 1 (An (eK .u32) x')] (fun d' b' => d' = .tup [] /\ b' = [.row 68 1 (An (eK .u32) r)]) := by
 unfold C3 at G
 refine Fn.of Tryd.func45 rfl rfl rfl fun w0 I ρ0 => ?_
 show Ca _ ⟨w0, I, ρ0, 1, 1, 14, none⟩ _ _ _
 refine Bk 1 25 Ba fun B => ?_
 refine Ak (Ce _ _ []) 25 81 B rfl rfl ?_
 refine A5 ?_
 refine Ei rfl rfl (Xq Ve Ze) rfl rfl ?_
 obtain ⟨y, hy, G⟩ := Ab G
 refine Dz (M6 _ _ hy) ?_
 refine A5 ?_
 obtain ⟨y_2, hy_2, G⟩ := Ab G
 refine Kg [0] [0] [] false (Dm x' 0 (x'.length : Int) y cmp hf_cmp _ hy_2) ?_
 refine Fc fun B => ?_
 obtain rfl := oi_ G
 exact Fe [(0, 0)] ⟨rfl, rfl⟩
theorem Lx (s : Int) (yield' : Int -> (Nat × (List Int)) -> Option (Bool × (Nat × (List Int)))) (c0 : Int) (q : (Nat × (List Int))) (r : Int × (Nat × (List Int))) (G : A1 yield' c0 q = some r) (rc : Loop) (hR : ∀ (x0 : Int) (q' : Nat × (List Int)) (y' : Bool × (Nat × (List Int))), yield' x0 q' = some y' -> Y6 Tryd.prog [3] [.ptr 0 0] 13 (Ft rc 0) 1 2 [vk x0] [.box [.row 2] 38, .lop [3] [.ptr 0 0] 13 (Ft rc q'.1), .row 3 1 (An eI q'.2)] (fun b1 b2 => b1 = y'.1 /\ b2 = [.box [.row 2] 38, .lop [3] [.ptr 0 0] 13 (Ft rc y'.2.1), .row 3 1 (An eI y'.2.2)])) : Y7 Tryd.prog 63 1 3 [.ptr 2 0] [.box [.row 3] 38, .lop [3] [.ptr 0 0] 13 (Ft rc q.1), .box [.val (.int .u32 c0)] 68, .row 3 1 (An eI q.2)] (fun b' => b' = [.box [.row 3] 38, .lop [3] [.ptr 0 0] 13 (Ft rc r.2.1), .box [.val (.int .u32 r.1)] 68, .row 3 1 (An eI r.2.2)]) := by
 unfold A1 at G
 refine Y7.of Tryd.func63 rfl rfl rfl rfl fun w0 I ρ0 l hl => ?_
 show Ca _ ⟨w0, I, ρ0, 3, 4, 16, none⟩ _ _ _
 refine Aj <| Fq (fun ((q_1, b_1) : (Nat × (List Int)) × Int) => mk [(0, .val (.func (.yield l) #[] #[])), (1, .ptr 2 0)] [(0, .box [.row 3] 38), (1, .lop [3] [.ptr 0 0] 13 (Ft rc q_1.1)), (2, .box [.val (.int .u32 b_1)] 68), (3, .row 3 1 (An eI q_1.2))] 4) G (Ax [(0, 0), (1, 1), (2, 2), (3, 3)]) ?_
 rintro ⟨q_1, b_1⟩ m1 o1 G hn1
 replace G : A1.l1 yield' q_1 b_1 = some o1 := G
 show Ca _ _ _ _ (mk _ _ _)
 unfold A1.l1 at G
 refine Af <| Bk 4 20 Ba fun B => ?_
 refine Cn rfl G (fun h2 G => ?_) fun h2 G => ?_
 refine Cp ?_
 refine Aj <| Cf 20 44 B ?_
 refine A5 ?_
 obtain ⟨y, hy, G⟩ := Ab G
 refine Dz (Cq _ _ hy) ?_
 refine Bl fun B => ?_
 refine Af <| Br (Ce _ _ []) (by kernel_rfl) [0, 0, 2, 7, 15] 44 84 B rfl rfl (by kernel_rfl) ?_
 refine A5 ?_
 obtain ⟨q_2, hq_2, G⟩ := Ab G
 refine Ei rfl rfl (Hu hq_2) rfl rfl ?_
 refine Ei rfl rfl Ig rfl rfl ?_
 refine Bl fun B => ?_
 refine Af <| Ii ?_
 refine G6.chain (Ce _ _ []) 2 84 100 B rfl rfl ?_
 show Cs _ _ _ _ (idx 0 [_, _]) _ _ _
 refine A5 ?_
 refine Sh fun B => ?_
 obtain ⟨y_2, hy_2, G⟩ := Ab G
 refine pC 100 [0, 1] [3] [0, 1, 3] false B hl (hR _ _ _ hy_2) (.cons .val .nil) ⟨_, _, _, rfl, .head _, ⟨_, rfl, (by repeat' (first | exact Dw.nil | apply Dw.cons | exact Ag.val | exact Ag.sl | exact Ag.nils | exact Ag.ptr rfl | exact Ag.rowK rfl | exact Ag.elt))⟩, ⟨_, _, _, rfl, .tail _ (.head _), ⟨_, rfl, (by repeat' (first | exact Dw.nil | apply Dw.cons | exact Ag.val | exact Ag.sl | exact Ag.nils | exact Ag.ptr rfl | exact Ag.rowK rfl | exact Ag.elt))⟩, ⟨_, _, _, rfl, .tail _ (.tail _ (.head _)), rfl, rfl⟩⟩⟩ fun B => ?_
 refine G6.chain (Ce _ _ []) 1 108 116 B rfl rfl ?_
 show Cs _ _ _ _ (idx 0 [_]) _ _ _
 refine A5 ?_
 refine Sh fun B => ?_
 refine G6.fin ?_
 refine U0 ?_
 refine Cn rfl G (fun h8 G => ?_) fun h8 G => ?_
 refine J1 ?_
 refine U0 ?_
 replace G := Bn G hn1
 obtain rfl := oi_ G
 exact Fe [(0, 0), (1, 1), (2, 2), (3, 100)] ⟨rfl, rfl⟩
 refine Cp ?_
 obtain rfl := oi_ G
 exact ⟨((y_2.2, G4 .u32 b_1 q_2), m1), Nat.lt_succ_self _, hn1, Ax [(0, 0), (1, 1), (2, 2), (3, 100)]⟩
 refine Fl ?_
 replace G := Bn G hn1
 obtain rfl := oi_ G
 exact Fe [(0, 0), (1, 1), (2, 2), (3, 3)] ⟨rfl, rfl⟩
theorem I5 (s : Int) (r : (List Int)) (G : Cy s = some r) : Fn Tryd.prog 49 0 [.val (.int .u32 s)] [] (fun d' b' => d' = .sl 1 (An eI r) /\ b' = []) := by
 unfold Cy at G
 refine Fn.of Tryd.func49 rfl rfl rfl fun w0 I ρ0 => ?_
 show Ca _ ⟨w0, I, ρ0, 0, 0, 13, none⟩ _ _ _
 refine Bk 0 8 Ba fun B => ?_
 refine Bk 8 16 B fun B => ?_
 refine Af <| Cf 16 32 B ?_
 refine A5 ?_
 obtain ⟨y, hy, G⟩ := Ab G
 refine Dv (rd := []) (ps := []) (gs := []) false rfl (Fy _ _ hy) rfl rfl (.cons .val .nil) rfl rfl (by intro h; cases h) rfl (by intro h; first | (cases h; done) | exact ⟨_, _, ⟨rfl, rfl⟩, by simp, by simp⟩) ?_
 rintro _ _ ⟨rfl, rfl⟩
 refine Fc fun B => ?_
 refine Aj ?_
 obtain ⟨y_2, hy_2, G⟩ := Ab G
 refine It (σ' := mk [(3, .ptr 0 0), (6, .clo 63 0 [.ptr 1 0])] [(0, .box [.row 2] 38), (1, .box [.val (.int .u32 y)] 68), (2, .row 3 1 (An eI ([] : List Int)))] 3) (Ax [(0, 8), (1, 24)]) ?_
 refine cC (c := y_2.2.1) (ts := [3]) (ds := [.ptr 0 0]) 3 [0, 3, 1] [2] [0, 3, 1, 2] false Ba (Lx s (fun a0' q' => Y5 (fun s' => Cy.r1 a0' s') q') y (0, ([] : List Int)) _ hy_2) (by repeat' first | exact trivial | refine And.intro rfl ?_) (fun _ _ => .cons (.ptr rfl) .nil) (fun _ _ => ⟨_, _, _, rfl, .head _, ⟨_, rfl, (by repeat' (first | exact Dw.nil | apply Dw.cons | exact Ag.val | exact Ag.sl | exact Ag.nils | exact Ag.ptr rfl | exact Ag.rowK rfl | exact Ag.elt))⟩, ⟨_, _, _, rfl, .tail _ (.head _), ⟨_, rfl, (by repeat' (first | exact Dw.nil | apply Dw.cons | exact Ag.val | exact Ag.sl | exact Ag.nils | exact Ag.ptr rfl | exact Ag.rowK rfl | exact Ag.elt))⟩, ⟨_, _, _, rfl, .tail _ (.tail _ (.head _)), ⟨_, rfl, (by repeat' (first | exact Dw.nil | apply Dw.cons | exact Ag.val | exact Ag.sl | exact Ag.nils | exact Ag.ptr rfl | exact Ag.rowK rfl | exact Ag.elt))⟩, ⟨_, _, _, rfl, .tail _ (.tail _ (.tail _ (.head _))), rfl, rfl⟩⟩⟩⟩) ?_ ?_
 intro _ _ a _ _ hq
 obtain ⟨l_1, o1, rfl, rfl, G⟩ := Mf hq
 replace G : Cy.r1 a l_1 = some o1 := G
 unfold Cy.r1 at G
 refine Y6.of rfl rfl (by kernel_rfl) fun w0 I ρ0 l hl => ?_
 show Ca _ ⟨w0, I, ρ0, 2, 3, 13, some l⟩ _ _ _
 refine Ak (Ce _ _ []) 3 11 Ba rfl rfl ?_
 refine Bl fun B => ?_
 refine pB B rfl rfl fun rb1 hrb1 B => ?_
 refine Aj <| Ak (Ce _ _ []) 11 51 B rfl rfl ?_
 refine A5 ?_
 refine Pt Ka z3 aE ([a] : List Int) eI ?_
 obtain ⟨l, hl, G⟩ := Ab G
 refine Ch (rd := [2, 27]) rfl rfl (Dr Ka G0 .row rfl .row rfl hl rfl) rfl rfl ?_
 refine Bl fun B => ?_
 obtain rfl := oi_ G
 exact lR (kQ 0 hrb1 [(0, 0), (1, 1), (2, 35)] rfl ⟨rfl, rfl⟩)
 intro _ _ B
 rcases oE G with ⟨hj, G⟩ | G
 refine oY hj ?_
 refine U0 ?_
 refine Bk 19 35 B fun B => ?_
 exact Ng
 cases G
theorem F0 (n : Int) (l : (List Aa)) (r : (List (List Int)) × Int) (G : Be n l = some r) : Fn Tryd.prog 18 0 [vk n, .sl 2 (An Aa.enc l)] [] (fun d' b' => d' = .tup [.sl 1 (An (eL 1 eI) r.1), vk r.2] /\ b' = []) := by
 unfold Be at G
 refine Fn.of Tryd.func18 rfl rfl rfl fun w0 I ρ0 => ?_
 show Ca _ ⟨w0, I, ρ0, 0, 0, 81, none⟩ _ _ _
 refine Bk 0 16 Ba fun B => ?_
 refine Cf 16 80 B ?_
 refine A5 ?_
 obtain ⟨y, hy, G⟩ := Ab G
 rcases y with ⟨_ | o, y_r⟩
 replace G := Nw G
 refine Dv (rd := []) (ps := []) (gs := []) false rfl (Dc _ _ _ hy) rfl rfl (.cons .val (.cons .sl .nil)) rfl rfl (by intro h; cases h) rfl (by intro h; first | (cases h; done) | exact ⟨_, _, ⟨rfl, rfl⟩, by simp, by simp⟩) ?_
 rintro _ _ ⟨rfl, rfl⟩
 refine Bl fun B => ?_
 refine Af <| Bk 80 96 B fun B => ?_
 refine Cn rfl G (fun h5 G => ?_) fun h5 G => ?_
 refine Cf 96 120 B ?_
 exact E7
 cases G
 replace G := N7 G
 refine Dv (rd := []) (ps := []) (gs := []) false rfl (Dc _ _ _ hy) rfl rfl (.cons .val (.cons .sl .nil)) rfl rfl (by intro h; cases h) rfl (by intro h; first | (cases h; done) | exact ⟨_, _, ⟨rfl, rfl⟩, by simp, by simp⟩) ?_
 rintro _ _ ⟨rfl, rfl⟩
 refine Bl fun B => ?_
 refine Af <| Bk 80 96 B fun B => ?_
 refine Cn rfl G (fun h8 G => ?_) fun h8 G => ?_
 refine Cf 96 120 B ?_
 exact E7
 refine Cp ?_
 refine Cf 96 112 B ?_
 refine Pt O2 lN Zr ([([] : (List Int))] : List (List Int)) (eL 1 eI) ?_
 refine Bl fun B => ?_
 refine Af <| Cf 112 128 B ?_
 refine Pt cI pX G1 ([0] : List Int) (eK .u32) ?_
 refine Bl fun B => ?_
 refine Aj <| Fq (fun ((o_1, out_1, row_1) : Ap × List (List Int) × List Int) => mk [(6, .ptr 0 0), (8, .row 1), (9, .row 2)] [(0, .box (Ap.dv o_1) 71), (1, .row 38 1 (An (eL 1 eI) out_1)), (2, .row 68 1 (An (eK .u32) row_1))] 3) G (Ax [(0, 32), (1, 96), (2, 112)]) ?_
 rintro ⟨o_1, out_1, row_1⟩ m1 o1 G hn1
 replace G : Be.l1 o_1 out_1 row_1 = some o1 := G
 show Ca _ _ _ _ (mk _ _ _)
 unfold Be.l1 at G
 refine Af <| Bk 3 27 Ba fun B => ?_
 refine Cn rfl G (fun h13 G => ?_) fun h13 G => ?_
 refine Cp ?_
 refine Aj <| Cf 27 51 B ?_
 refine Yp (rd := []) rfl rfl .makeMap rfl rfl (fun _ => ⟨_, rfl⟩) ?_
 rintro _ rfl
 refine Bl fun B => ?_
 refine Bk 51 59 B fun B => ?_
 refine Af <| Bk 59 83 B fun B => ?_
 refine Aj <| Fq (fun ((x35_2, o_2, m_2, l_2) : Int × Ap × (List (Int × Bool)) × List Int) => mk [(6, .ptr 0 0), (8, .row 1), (10, .ptr 2 0), (11, .ptr 3 0), (33, .row 4), (34, .val (.int .i64 (row_1.length : Int))), (35, vk x35_2)] [(0, .box (Ap.dv o_2) 71), (1, .row 38 1 (An (eL 1 eI) out_1)), (2, .box [.row 5] 77), (3, .box [.row 6] 69), (4, .row 68 1 (An (eK .u32) row_1)), (5, .map (Pv (vI .u32) vB m_2)), (6, .row 68 1 (An (eK .u32) l_2))] 7) G ((by exact Qu.lists [(0, 0), (1, 1), (2, 35), (3, 51), (4, 2), (5, 27)] rfl rfl ⟨⟨_, rfl, .ptr rfl⟩, ⟨_, rfl, .row rfl⟩, ⟨_, rfl, .ptr rfl⟩, ⟨_, rfl, .ptr rfl⟩, ⟨_, rfl, .row rfl⟩, ⟨_, rfl, .val _⟩, ⟨_, rfl, .val _⟩, trivial⟩ ⟨.inl ⟨0, _, rfl, rfl, ⟨rfl, .cons (.val _) (.cons (.sl _ _) (.cons (.sl _ _) .nil))⟩⟩, .inl ⟨1, _, rfl, rfl, ⟨rfl, rfl, rfl⟩⟩, .inl ⟨35, _, rfl, rfl, ⟨rfl, .cons (.row rfl) .nil⟩⟩, .inl ⟨51, _, rfl, rfl, ⟨rfl, .cons (.nil rfl) .nil⟩⟩, .inl ⟨2, _, rfl, rfl, ⟨rfl, rfl, rfl⟩⟩, .inl ⟨27, _, rfl, rfl, rfl⟩, .inr ⟨rfl, _, _, rfl⟩, trivial⟩)) ?_
 rintro ⟨x35_2, o_2, m_2, l_2⟩ m2 o2 G hn2
 replace G : Be.l2 out_1 row_1 x35_2 o_2 m_2 l_2 = some o2 := G
 show Ca _ _ _ _ (mk _ _ _)
 unfold Be.l2 at G
 refine Bk 7 15 Ba fun B => ?_
 refine Af <| Cn rfl G (fun h18 G => ?_) fun h18 G => ?_
 refine Cp ?_
 refine Af <| Aj <| Cf 15 47 B ?_
 obtain ⟨e, he, G⟩ := Ab G
 refine A5 ?_
 refine Ch (rd := [4]) rfl rfl (.loadR1 Cu (A9 (Bd _) (Ar he) (o := 0) (c := .int .u32 e) rfl rfl)) rfl rfl ?_
 refine Bl fun B => ?_
 refine Af <| Cf 47 79 B ?_
 refine A5 ?_
 obtain ⟨y_2, hy_2, G⟩ := Ab G
 refine Kg [0] [0] [] false (Hr _ _ _ hy_2) ?_
 obtain ⟨y_3, hy_3, G⟩ := Ab G
 refine Dv (rd := []) (ps := []) (gs := []) false rfl (Fy _ _ hy_3) rfl rfl (.cons .val .nil) rfl rfl (by intro h; cases h) rfl (by intro h; first | (cases h; done) | exact ⟨_, _, ⟨rfl, rfl⟩, by simp, by simp⟩) ?_
 rintro _ _ ⟨rfl, rfl⟩
 refine Fc fun B => ?_
 refine Aj ?_
 obtain ⟨y_4, hy_4, G⟩ := Ab G
 refine It (σ' := mk [(6, .ptr 0 0), (8, .row 1), (10, .ptr 2 0), (11, .ptr 3 0), (13, .ptr 4 0), (33, .row 5), (34, .val (.int .i64 (row_1.length : Int))), (35, vk x35_2), (42, .clo 63 0 [.ptr 6 0])] [(0, .box (Ap.dv y_2.2) 71), (1, .row 38 1 (An (eL 1 eI) out_1)), (2, .box [.row 7] 77), (3, .box [.row 8] 69), (4, .box [.val (.int .u32 e)] 68), (5, .row 68 1 (An (eK .u32) row_1)), (6, .box [.val (.int .u32 y_3)] 68), (7, .map (Pv (vI .u32) vB m_2)), (8, .row 68 1 (An (eK .u32) l_2))] 9) ((by exact Qu.lists [(0, 0), (1, 1), (2, 2), (3, 3), (4, 31), (5, 4), (6, 71), (7, 5), (8, 6)] rfl rfl ⟨⟨_, rfl, .ptr rfl⟩, ⟨_, rfl, .row rfl⟩, ⟨_, rfl, .ptr rfl⟩, ⟨_, rfl, .ptr rfl⟩, ⟨_, rfl, .ptr rfl⟩, ⟨_, rfl, .row rfl⟩, ⟨_, rfl, .val _⟩, ⟨_, rfl, .val _⟩, ⟨_, rfl, .clo _ _ (.cons (.ptr rfl) .nil)⟩, trivial⟩ ⟨.inl ⟨0, _, rfl, rfl, ⟨rfl, .cons (.val _) (.cons (.sl _ _) (.cons (.sl _ _) .nil))⟩⟩, .inl ⟨1, _, rfl, rfl, ⟨rfl, rfl, rfl⟩⟩, .inl ⟨2, _, rfl, rfl, ⟨rfl, .cons (.row rfl) .nil⟩⟩, .inl ⟨3, _, rfl, rfl, ⟨rfl, .cons (.row rfl) .nil⟩⟩, .inl ⟨31, _, rfl, rfl, ⟨rfl, .cons (.val _) .nil⟩⟩, .inl ⟨4, _, rfl, rfl, ⟨rfl, rfl, rfl⟩⟩, .inl ⟨71, _, rfl, rfl, ⟨rfl, .cons (.val _) .nil⟩⟩, .inl ⟨5, _, rfl, rfl, rfl⟩, .inl ⟨6, _, rfl, rfl, ⟨rfl, rfl, rfl⟩⟩, trivial⟩)) ?_
 refine cC (c := y_4.2.1) (ts := [10, 11, 13]) (ds := [.ptr 2 0, .ptr 3 0, .ptr 4 0]) 9 [2, 3, 4, 9, 6] [7, 8] [2, 3, 4, 9, 6, 7, 8] false Ba (Lq e (fun a0' q' => Y5 (fun s' => Be.r3 e a0' s'.1 s'.2) q') y_3 (0, (m_2, l_2)) _ hy_4) (by repeat' first | exact trivial | refine And.intro rfl ?_) (fun _ _ => .cons (.ptr rfl) .nil) (fun _ _ => ⟨_, _, _, rfl, .head _, ⟨_, rfl, (by repeat' (first | exact Dw.nil | apply Dw.cons | exact Ag.val | exact Ag.sl | exact Ag.nils | exact Ag.ptr rfl | exact Ag.rowK rfl | exact Ag.elt))⟩, ⟨_, _, _, rfl, .tail _ (.head _), ⟨_, rfl, (by repeat' (first | exact Dw.nil | apply Dw.cons | exact Ag.val | exact Ag.sl | exact Ag.nils | exact Ag.ptr rfl | exact Ag.rowK rfl | exact Ag.elt))⟩, ⟨_, _, _, rfl, .tail _ (.tail _ (.head _)), ⟨_, rfl, (by repeat' (first | exact Dw.nil | apply Dw.cons | exact Ag.val | exact Ag.sl | exact Ag.nils | exact Ag.ptr rfl | exact Ag.rowK rfl | exact Ag.elt))⟩, ⟨_, _, _, rfl, .tail _ (.tail _ (.tail _ (.head _))), ⟨_, rfl, (by repeat' (first | exact Dw.nil | apply Dw.cons | exact Ag.val | exact Ag.sl | exact Ag.nils | exact Ag.ptr rfl | exact Ag.rowK rfl | exact Ag.elt))⟩, ⟨_, _, _, rfl, .tail _ (.tail _ (.tail _ (.tail _ (.head _)))), ⟨_, rfl, (by repeat' (first | exact Dw.nil | apply Dw.cons | exact Ag.val | exact Ag.sl | exact Ag.nils | exact Ag.ptr rfl | exact Ag.rowK rfl | exact Ag.elt))⟩, ⟨_, _, _, rfl, .tail _ (.tail _ (.tail _ (.tail _ (.tail _ (.head _))))), rfl, ⟨_, _, _, rfl, .tail _ (.tail _ (.tail _ (.tail _ (.tail _ (.tail _ (.head _)))))), rfl, rfl⟩⟩⟩⟩⟩⟩⟩) ?_ ?_
 intro _ _ a _ _ hq
 obtain ⟨⟨m_3, l_3⟩, o3, rfl, rfl, G⟩ := Mf hq
 replace G : Be.r3 e a m_3 l_3 = some o3 := G
 unfold Be.r3 at G
 refine Y6.of rfl rfl (by kernel_rfl) fun w0 I ρ0 l hl => ?_
 show Ca _ ⟨w0, I, ρ0, 4, 6, 81, some l⟩ _ _ _
 refine Ak (Ce _ _ []) 6 14 Ba rfl rfl ?_
 refine Bl fun B => ?_
 refine pB B rfl rfl fun rb3 hrb3 B => ?_
 refine Aj <| Af <| Br (Ce _ _ []) (by kernel_rfl) [0, 0, 2, 7, 15] 14 54 B rfl rfl (by kernel_rfl) ?_
 refine A5 ?_
 obtain ⟨q, hq, G⟩ := Ab G
 refine Ei rfl rfl (Hu hq) rfl rfl ?_
 refine Ei rfl rfl R5 rfl rfl ?_
 refine Bl fun B => ?_
 refine Cf 54 86 B ?_
 refine A5 ?_
 refine Yp (rd := [4]) rfl rfl (gY (f := (vI .u32)) (g := vB) (l := m_3) (key := Ry .u32 e q) (z := false) fK (qX lY) tD rfl rfl (.head _)) rfl rfl (fun _ => ⟨_, rfl⟩) ?_
 rintro _ rfl
 refine Bl fun B => ?_
 refine Cn rfl G (fun h25 G => ?_) fun h25 G => ?_
 refine Br (Ce _ _ []) (by kernel_rfl) [0, 0, 0, 0, 8, 28, 63, 127] 86 150 B rfl rfl (by kernel_rfl) ?_
 refine A5 ?_
 refine Pt cI pX G1 ([Ry .u32 e q] : List Int) (eK .u32) ?_
 obtain ⟨l_4, hl_4, G⟩ := Ab G
 refine Ch (rd := [5, 118]) rfl rfl (Dr cI (Bd _) .row rfl .row rfl hl_4 rfl) rfl rfl ?_
 refine Yp (rd := [4]) rfl rfl (fR (f := (vI .u32)) (g := vB) (l := m_3) (key := Ry .u32 e q) (v := true) fK (qX lY) rfl rfl (.head _)) rfl rfl (fun _ => ⟨_, rfl⟩) ?_
 rintro _ rfl
 refine Bl fun B => ?_
 obtain rfl := oi_ G
 exact lR (kQ 0 hrb3 [(0, 0), (1, 1), (2, 2), (3, 3), (4, 4), (5, 126)] rfl ⟨rfl, rfl⟩)
 refine Cp ?_
 obtain rfl := oi_ G
 exact lR (kQ 0 hrb3 [(0, 0), (1, 1), (2, 2), (3, 3), (4, 4), (5, 5)] rfl ⟨rfl, rfl⟩)
 intro _ _ B
 rcases oE G with ⟨hj, G⟩ | G
 refine oY hj ?_
 refine U0 ?_
 refine Bk 25 73 B fun B => ?_
 refine Cn rfl G (fun h29 G => ?_) fun h29 G => ?_
 refine Bk 73 89 B fun B => ?_
 refine Et ?_
 replace G := Bn G hn2
 replace G := Bn G hn1
 exact Q2
 refine Cp ?_
 refine Ak (Ce _ _ []) 73 89 B rfl rfl ?_
 refine Bl fun B => ?_
 obtain rfl := oi_ G
 exact ⟨((W (x35_2 + 1), y_2.2, y_4.2.2.1, y_4.2.2.2), m2), Nat.lt_succ_self _, hn2, (by exact Qu.lists [(0, 0), (1, 1), (2, 2), (3, 3), (4, 5), (5, 17), (6, 18)] rfl rfl ⟨⟨_, rfl, .ptr rfl⟩, ⟨_, rfl, .row rfl⟩, ⟨_, rfl, .ptr rfl⟩, ⟨_, rfl, .ptr rfl⟩, ⟨_, rfl, .row rfl⟩, ⟨_, rfl, .val _⟩, ⟨_, rfl, .val _⟩, trivial⟩ ⟨.inl ⟨0, _, rfl, rfl, ⟨rfl, .cons (.val _) (.cons (.sl _ _) (.cons (.sl _ _) .nil))⟩⟩, .inl ⟨1, _, rfl, rfl, ⟨rfl, rfl, rfl⟩⟩, .inl ⟨2, _, rfl, rfl, ⟨rfl, .cons (.row rfl) .nil⟩⟩, .inl ⟨3, _, rfl, rfl, ⟨rfl, .cons (.row rfl) .nil⟩⟩, .inl ⟨5, _, rfl, rfl, ⟨rfl, rfl, rfl⟩⟩, .inl ⟨17, _, rfl, rfl, rfl⟩, .inl ⟨18, _, rfl, rfl, ⟨rfl, rfl, rfl⟩⟩, trivial⟩)⟩
 cases G
 refine Fl ?_
 replace G := Bn G hn2
 refine Cf 15 31 B ?_
 refine A5 ?_
 obtain ⟨y_5, hy_5, G⟩ := Ab G
 refine Kg [6] [6] [] false (Hl l_2 (fun x0 x1 => Eu x0 x1) (fun x0 x1 y h => Sr x0 x1 y h) _ hy_5) ?_
 refine Fc fun B => ?_
 refine Af <| Bk 31 55 B fun B => ?_
 refine Aj <| Fq (fun ((x69_4, out_4) : Int × List (List Int)) => mk [(6, .ptr 0 0), (8, .row 1), (11, .ptr 2 0), (67, .row 3), (68, .val (.int .i64 (y_5.length : Int))), (69, vk x69_4)] [(0, .box (Ap.dv o_2) 71), (1, .row 38 1 (An (eL 1 eI) out_4)), (2, .box [.row 3] 69), (3, .row 68 1 (An (eK .u32) y_5))] 4) G ((by exact Qu.lists [(0, 0), (1, 1), (2, 3), (3, 6)] rfl rfl ⟨⟨_, rfl, .ptr rfl⟩, ⟨_, rfl, .row rfl⟩, ⟨_, rfl, .ptr rfl⟩, ⟨_, rfl, .row rfl⟩, ⟨_, rfl, .val _⟩, ⟨_, rfl, .val _⟩, trivial⟩ ⟨.inl ⟨0, _, rfl, rfl, ⟨rfl, .cons (.val _) (.cons (.sl _ _) (.cons (.sl _ _) .nil))⟩⟩, .inl ⟨1, _, rfl, rfl, ⟨rfl, rfl, rfl⟩⟩, .inl ⟨3, _, rfl, rfl, ⟨rfl, .cons (.row rfl) .nil⟩⟩, .inl ⟨6, _, rfl, rfl, ⟨rfl, rfl, rfl⟩⟩, trivial⟩)) ?_
 rintro ⟨x69_4, out_4⟩ m4 o4 G hn4
 replace G : Be.l4 o_2 y_5 x69_4 out_4 = some o4 := G
 show Ca _ _ _ _ (mk _ _ _)
 unfold Be.l4 at G
 refine Bk 4 12 Ba fun B => ?_
 refine Af <| Cn rfl G (fun h35 G => ?_) fun h35 G => ?_
 refine Cp ?_
 refine Af <| Aj <| Cf 12 36 B ?_
 obtain ⟨e_2, he_2, G⟩ := Ab G
 refine A5 ?_
 refine Ch (rd := [3]) rfl rfl (.loadR1 Cu (A9 (Bd _) (Ar he_2) (o := 0) (c := .int .u32 e_2) rfl rfl)) rfl rfl ?_
 refine Bl fun B => ?_
 refine Ak (Ce _ _ []) 36 84 B rfl rfl ?_
 refine A5 ?_
 obtain ⟨y_6, hy_6, G⟩ := Ab G
 refine Dz (I5 _ _ hy_6) ?_
 refine Pt O2 lN Zr ([y_6] : List (List Int)) (eL 1 eI) ?_
 obtain ⟨l_5, hl_5, G⟩ := Ab G
 refine Ch (rd := [1, 60]) rfl rfl (Dr O2 (Dj _ _) .row rfl .row rfl hl_5 rfl) rfl rfl ?_
 refine Bl fun B => ?_
 refine Ak (Ce _ _ []) 84 100 B rfl rfl ?_
 refine Bl fun B => ?_
 obtain rfl := oi_ G
 exact ⟨((W (x69_4 + 1), l_5), m4), Nat.lt_succ_self _, hn4, Ax [(0, 0), (1, 68), (2, 2), (3, 3)]⟩
 refine Fl ?_
 replace G := Bn G hn4
 refine Ak (Ce _ _ []) 12 28 B rfl rfl ?_
 refine Bl fun B => ?_
 obtain rfl := oi_ G
 exact ⟨((o_2, out_4, y_5), m1), Nat.lt_succ_self _, hn1, Ax [(0, 0), (1, 1), (2, 3)]⟩
 refine Fl ?_
 replace G := Bn G hn1
 refine Bk 27 51 B fun B => ?_
 exact Ng
theorem Gq (o : Ap) (l : (List Int)) (r : Int × Bool × Ap) (G : Bc o l = some r) : Fn Tryd.prog 42 1 [.ptr 0 0, .sl 1 (An eI l)] [.box (Ap.dv o) 71] (fun d' b' => d' = .tup [.val (.int .u32 r.1), .val (.bool r.2.1)] /\ b' = [.box (Ap.dv r.2.2) 71]) := by
 unfold Bc at G
 refine Fn.of Tryd.func42 rfl rfl rfl fun w0 I ρ0 => ?_
 show Ca _ ⟨w0, I, ρ0, 1, 1, 34, none⟩ _ _ _
 refine Bk 1 17 Ba fun B => ?_
 refine Bk 17 25 B fun B => ?_
 refine Bk 25 33 B fun B => ?_
 refine Af <| Bk 33 57 B fun B => ?_
 refine Aj <| Fq (fun ((s_1, last_1, x12_1) : Int × Int × Int) => mk [(0, .ptr 0 0), (6, .val (.int .u32 s_1)), (7, vk last_1), (10, .sl 1 (An eI l)), (11, .val (.int .i64 (l.length : Int))), (12, vk x12_1)] [(0, .box (Ap.dv o) 71)] 1) G (Ax [(0, 0)]) ?_
 rintro ⟨s_1, last_1, x12_1⟩ m1 o1 G hn1
 replace G : Bc.l1 o l s_1 last_1 x12_1 = some o1 := G
 show Ca _ _ _ _ (mk _ _ _)
 unfold Bc.l1 at G
 refine Bk 1 9 Ba fun B => ?_
 refine Af <| Cn rfl G (fun h6 G => ?_) fun h6 G => ?_
 refine Cp ?_
 refine Af <| Aj <| Cf 9 33 B ?_
 obtain ⟨e, he, G⟩ := Ab G
 refine A5 ?_
 refine Ps he ?_
 refine Bl fun B => ?_
 refine Af <| B0 (ι := Bool) (fun (x26_2 : Bool) => mk [(0, .ptr 0 0), (6, .val (.int .u32 s_1)), (9, vk e), (10, .sl 1 (An eI l)), (11, .val (.int .i64 (l.length : Int))), (12, vk x12_1), (26, .val (.bool x26_2))] [(0, .box (Ap.dv o) 71)] 1) (fun (x26_2 : Bool) => Bc.j2 o s_1 x12_1 e x26_2 = some o1) ?_ ?_
 refine Ak (Ce _ _ []) 33 121 B rfl rfl ?_
 refine A5 ?_
 rcases Gh G with ⟨h8, G⟩ | ⟨h8, G⟩
 refine Bl fun B => ?_
 exact ⟨true, G, Ax [(0, 0)]⟩
 refine Bl fun B => ?_
 exact ⟨decide (o.n <= e), G, Ax [(0, 0)]⟩
 rintro x26_2 G
 replace G : Bc.j2 o s_1 x12_1 e x26_2 = some o1 := G
 show Ca _ _ _ _ (mk _ _ _)
 unfold Bc.j2 at G
 refine Cn rfl G (fun h11 G => ?_) fun h11 G => ?_
 refine Bk 1 17 Ba fun B => ?_
 refine Et ?_
 replace G := Bn G hn1
 obtain rfl := oi_ G
 exact Fe [(0, 0)] ⟨rfl, rfl⟩
 refine Cp ?_
 refine Cf 1 41 Ba ?_
 refine A5 ?_
 obtain ⟨q, hq, G⟩ := Ab G
 refine Ei rfl rfl (Hu hq) rfl rfl ?_
 refine Ei rfl rfl R5 rfl rfl ?_
 refine Bl fun B => ?_
 refine Ak (Ce _ _ []) 41 57 B rfl rfl ?_
 refine Bl fun B => ?_
 refine Ak (Ce _ _ []) 57 73 B rfl rfl ?_
 refine Bl fun B => ?_
 obtain rfl := oi_ G
 exact ⟨((Ry .u32 s_1 q, e, W (x12_1 + 1)), m1), Nat.lt_succ_self _, hn1, Ax [(0, 0)]⟩
 refine Fl ?_
 replace G := Bn G hn1
 refine Bk 9 33 B fun B => ?_
 refine Et ?_
 obtain rfl := oi_ G
 exact Fe [(0, 0)] ⟨rfl, rfl⟩
end Go.Proofs.YtopkgllcjbpdeaaDoor
