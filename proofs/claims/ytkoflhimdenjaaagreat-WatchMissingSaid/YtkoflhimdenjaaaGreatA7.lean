import Derived.Test.YtkoflhimdenjaaaGreatT1
import Derived.Test.YtkoflhimdenjaaaGreatA6
set_option linter.unusedVariables false
set_option linter.unusedSimpArgs false
set_option maxRecDepth 100000
set_option maxHeartbeats 1600000
namespace Go.Proofs.YtkoflhimdenjaaaGreat
open Go.RowKit
theorem G3 (data : List Aa) (a : Int) (b : Int) (cmp : Aa -> Aa -> Option (Int)) (hf_cmp : ∀ (x0 : Aa) (x1 : Aa) (y : Int), cmp x0 x1 = some y -> Fn Tryz.prog 112 0 [.agg (Aa.dv x0), .agg (Aa.dv x1)] [] (fun d' b' => d' = vk y /\ b' = [])) (r : (List Aa)) (G : Al data a b cmp = some r) : Fn Tryz.prog 181 1 [.row 0, vk a, vk b, .clo 112 0 []] [.row 48 11 (Aq Aa.enc data)] (fun d' b' => d' = .tup [] /\ b' = [.row 48 11 (Aq Aa.enc r)]) := by
 unfold Al at G
 refine Fn.of Tryz.func181 rfl rfl rfl fun w0 I ρ0 => ?_
 show B4 _ ⟨w0, I, ρ0, 1, 1, 53⟩ _ _ _
 refine Bk 1 25 A8 fun B => ?_
 refine Ar <| J3 (fun ((i_1, data_1) : Int × List Aa) => mk [(0, .row 0), (1, vk a), (2, vk b), (3, .clo 112 0 []), (8, vk i_1)] [(0, .row 48 11 (Aq Aa.enc data_1))] 1) G (Bc [(0, 0)]) ?_
 rintro ⟨i_1, data_1⟩ m1 o1 G hn1
 replace G : Al.l1 a b cmp i_1 data_1 = some o1 := G
 show B4 _ _ _ _ (mk _ _ _)
 unfold Al.l1 at G
 refine Ak <| Bk 1 25 A8 fun B => ?_
 refine C5 rfl G (fun h3 G => ?_) fun h3 G => ?_
 refine Dd ?_
 refine Ak <| Ar <| Bk 25 41 B fun B => ?_
 refine Ar <| J3 (fun ((j_2, data_2) : Int × List Aa) => mk [(0, .row 0), (1, vk a), (2, vk b), (3, .clo 112 0 []), (8, vk i_1), (9, vk j_2)] [(0, .row 48 11 (Aq Aa.enc data_2))] 1) G (Bc [(0, 0)]) ?_
 rintro ⟨j_2, data_2⟩ m2 o2 G hn2
 replace G : Al.l2 a cmp i_1 j_2 data_2 = some o2 := G
 show B4 _ _ _ _ (mk _ _ _)
 unfold Al.l2 at G
 refine Ak <| Bw (ι := Bool) (fun (x34_3 : Bool) => mk [(0, .row 0), (1, vk a), (2, vk b), (3, .clo 112 0 []), (8, vk i_1), (9, vk j_2), (34, .val (.bool x34_3))] [(0, .row 48 11 (Aq Aa.enc data_2))] 1) (fun (x34_3 : Bool) => Al.j3 i_1 j_2 data_2 x34_3 = some o2) ?_ ?_
 refine Bv (Cj _ _ []) (by kernel_rfl) [0, 0, 3, 7, 15, 15, 15, 111, 239, 15, 15, 1039, 3599, 7695, 16383, 32767, 65535] 1 137 A8 rfl rfl (by kernel_rfl) ?_
 refine A6 ?_
 rcases Ef G with ⟨h5, G⟩ | ⟨h5, G⟩
 refine A6 ?_
 obtain ⟨e, he, G⟩ := Ac G
 refine A6 ?_
 refine J7 he ?_
 refine A6 ?_
 obtain ⟨e_2, he_2, G⟩ := Ac G
 refine A6 ?_
 refine J7 he_2 ?_
 obtain ⟨y, hy, G⟩ := Ac G
 refine B9 (rd := []) (ps := []) (gs := []) false (Fm rfl rfl h5) rfl (hf_cmp e e_2 _ hy) rfl rfl (.cons (.agg (.cons .val (.cons .val (.cons .val (.cons .val (.cons .val (.cons .val (.cons .val (.cons .val (.cons .val (.cons .val (.cons .val .nil)))))))))))) (.cons (.agg (.cons .val (.cons .val (.cons .val (.cons .val (.cons .val (.cons .val (.cons .val (.cons .val (.cons .val (.cons .val (.cons .val .nil)))))))))))) .nil)) rfl rfl (by intro h; cases h) rfl rfl rfl rfl ?_
 refine Bq fun B => ?_
 exact ⟨decide (y < 0), G, Bc [(0, 0)]⟩
 refine Bq fun B => ?_
 exact ⟨false, G, Bc [(0, 0)]⟩
 rintro x34_3 G
 replace G : Al.j3 i_1 j_2 data_2 x34_3 = some o2 := G
 show B4 _ _ _ _ (mk _ _ _)
 unfold Al.j3 at G
 refine C5 rfl G (fun h8 G => ?_) fun h8 G => ?_
 refine Dd ?_
 refine Ak <| Ar <| Bv (Cj _ _ []) (by kernel_rfl) [0, 0, 0, 0, 8, 0, 0, 64, 224, 480, 0, 0, 3072, 7168, 16355, 32739, 65535, 131071] 1 145 A8 rfl rfl (by kernel_rfl) ?_
 refine A6 ?_
 obtain ⟨e_3, he_3, G⟩ := Ac G
 refine A6 ?_
 refine J7 he_3 ?_
 refine A6 ?_
 obtain ⟨e_4, he_4, G⟩ := Ac G
 refine A6 ?_
 refine J7 he_4 ?_
 refine A6 ?_
 refine Sl Jh he_4 (x' := e_3) ?_
 obtain ⟨e_5, he_5, G⟩ := Ac G
 refine A6 ?_
 refine Sl Jh he_5 (x' := e_4) ?_
 refine F7 fun B => ?_
 refine An (Cj _ _ []) 145 169 B rfl rfl ?_
 refine Bq fun B => ?_
 obtain rfl := oi_ G
 exact ⟨((W (j_2 - 1), Cd (Cd data_2 ((j_2).toNat) e_3) ((W (j_2 - 1)).toNat) e_4), m2), Nat.lt_succ_self _, hn2, Bc [(0, 0)]⟩
 refine Ju ?_
 replace G := Cm G hn2
 refine An (Cj _ _ []) 1 25 A8 rfl rfl ?_
 refine Bq fun B => ?_
 obtain rfl := oi_ G
 exact ⟨((W (i_1 + 1), data_2), m1), Nat.lt_succ_self _, hn1, Bc [(0, 0)]⟩
 refine Ju ?_
 replace G := Cm G hn1
 obtain rfl := oi_ G
 exact Ht [(0, 0)] ⟨rfl, rfl⟩
theorem Eo (data : List Aa) (lo : Int) (hi : Int) (first : Int) (cmp : Aa -> Aa -> Option (Int)) (hf_cmp : ∀ (x0 : Aa) (x1 : Aa) (y : Int), cmp x0 x1 = some y -> Fn Tryz.prog 112 0 [.agg (Aa.dv x0), .agg (Aa.dv x1)] [] (fun d' b' => d' = vk y /\ b' = [])) (r : (List Aa)) (G : Am data lo hi first cmp = some r) : Fn Tryz.prog 206 1 [.row 0, vk lo, vk hi, vk first, .clo 112 0 []] [.row 48 11 (Aq Aa.enc data)] (fun d' b' => d' = .tup [] /\ b' = [.row 48 11 (Aq Aa.enc r)]) := by
 unfold Am at G
 refine Fn.of Tryz.func206 rfl rfl rfl fun w0 I ρ0 => ?_
 show B4 _ ⟨w0, I, ρ0, 1, 1, 82⟩ _ _ _
 refine Bk 1 17 A8 fun B => ?_
 refine Ar <| J3 (fun ((root_1, data_1) : Int × List Aa) => mk [(0, .row 0), (2, vk hi), (3, vk first), (4, .clo 112 0 []), (10, vk root_1)] [(0, .row 48 11 (Aq Aa.enc data_1))] 1) G (Bc [(0, 0)]) ?_
 rintro ⟨root_1, data_1⟩ m1 o1 G hn1
 replace G : Am.l1 hi first cmp root_1 data_1 = some o1 := G
 show B4 _ _ _ _ (mk _ _ _)
 unfold Am.l1 at G
 refine Ar <| Bk 1 33 A8 fun B => ?_
 refine Ak <| Bk 33 57 B fun B => ?_
 refine C5 rfl G (fun h4 G => ?_) fun h4 G => ?_
 refine Ju ?_
 replace G := Cm G hn1
 obtain rfl := oi_ G
 exact Ht [(0, 0)] ⟨rfl, rfl⟩
 refine Dd ?_
 refine Bw (ι := Int) (fun (child_3 : Int) => mk [(0, .row 0), (2, vk hi), (3, vk first), (4, .clo 112 0 []), (10, vk root_1), (11, vk child_3)] [(0, .row 48 11 (Aq Aa.enc data_1))] 1) (fun (child_3 : Int) => Am.j3 first cmp root_1 data_1 child_3 = some o1) ?_ ?_
 refine Bw (ι := Bool) (fun (x40_2 : Bool) => mk [(0, .row 0), (2, vk hi), (3, vk first), (4, .clo 112 0 []), (10, vk root_1), (11, .val (.int .i64 (W ((W (2 * root_1)) + 1)))), (40, .val (.bool x40_2))] [(0, .row 48 11 (Aq Aa.enc data_1))] 1) (fun (x40_2 : Bool) => Am.j2 first cmp root_1 data_1 x40_2 = some o1) ?_ ?_
 refine Bv (Cj _ _ []) (by kernel_rfl) [0, 1, 0, 7, 15, 31, 31, 31, 31, 415, 991, 2015, 31, 31, 31, 24607, 57375, 127007, 258079, 524287, 1048575, 2097151] 57 233 B rfl rfl (by kernel_rfl) ?_
 refine A6 ?_
 rcases Ef G with ⟨h5, G⟩ | ⟨h5, G⟩
 refine A6 ?_
 obtain ⟨e, he, G⟩ := Ac G
 refine A6 ?_
 refine J7 he ?_
 refine A6 ?_
 obtain ⟨e_2, he_2, G⟩ := Ac G
 refine A6 ?_
 refine J7 he_2 ?_
 obtain ⟨y, hy, G⟩ := Ac G
 refine B9 (rd := []) (ps := []) (gs := []) false (Fm rfl rfl h5) rfl (hf_cmp e e_2 _ hy) rfl rfl (.cons (.agg (.cons .val (.cons .val (.cons .val (.cons .val (.cons .val (.cons .val (.cons .val (.cons .val (.cons .val (.cons .val (.cons .val .nil)))))))))))) (.cons (.agg (.cons .val (.cons .val (.cons .val (.cons .val (.cons .val (.cons .val (.cons .val (.cons .val (.cons .val (.cons .val (.cons .val .nil)))))))))))) .nil)) rfl rfl (by intro h; cases h) rfl rfl rfl rfl ?_
 refine Bq fun B => ?_
 exact ⟨decide (y < 0), G, Bc [(0, 0)]⟩
 refine Bq fun B => ?_
 exact ⟨false, G, Bc [(0, 0)]⟩
 rintro x40_2 G
 replace G : Am.j2 first cmp root_1 data_1 x40_2 = some o1 := G
 show B4 _ _ _ _ (mk _ _ _)
 unfold Am.j2 at G
 refine C5 rfl G (fun h8 G => ?_) fun h8 G => ?_
 refine An (Cj _ _ []) 1 25 A8 rfl rfl ?_
 refine Bq fun B => ?_
 exact ⟨W ((W ((W (2 * root_1)) + 1)) + 1), G, Bc [(0, 0)]⟩
 refine Dd ?_
 exact ⟨W ((W (2 * root_1)) + 1), G, Bc [(0, 0)]⟩
 rintro child_3 G
 replace G : Am.j3 first cmp root_1 data_1 child_3 = some o1 := G
 show B4 _ _ _ _ (mk _ _ _)
 unfold Am.j3 at G
 refine Ak <| Ak <| Bv (Cj _ _ []) (by kernel_rfl) [0, 0, 0, 0, 12, 30, 62, 0, 0, 0, 768, 1920, 3968, 8191, 16383, 32767] 1 129 A8 rfl rfl (by kernel_rfl) ?_
 refine A6 ?_
 obtain ⟨e_3, he_3, G⟩ := Ac G
 refine A6 ?_
 refine J7 he_3 ?_
 refine A6 ?_
 obtain ⟨e_4, he_4, G⟩ := Ac G
 refine A6 ?_
 refine J7 he_4 ?_
 obtain ⟨y_2, hy_2, G⟩ := Ac G
 refine B9 (rd := []) (ps := []) (gs := []) false rfl rfl (hf_cmp e_3 e_4 _ hy_2) rfl rfl (.cons (.agg (.cons .val (.cons .val (.cons .val (.cons .val (.cons .val (.cons .val (.cons .val (.cons .val (.cons .val (.cons .val (.cons .val .nil)))))))))))) (.cons (.agg (.cons .val (.cons .val (.cons .val (.cons .val (.cons .val (.cons .val (.cons .val (.cons .val (.cons .val (.cons .val (.cons .val .nil)))))))))))) .nil)) rfl rfl (by intro h; cases h) rfl rfl rfl rfl ?_
 refine Bq fun B => ?_
 refine C5 rfl G (fun h11 G => ?_) fun h11 G => ?_
 refine aW ?_
 refine rp_ ?_
 replace G := Cm G hn1
 obtain rfl := oi_ G
 exact Ht [(0, 0)] ⟨rfl, rfl⟩
 refine Dd ?_
 refine Ak <| Bv (Cj _ _ []) (by kernel_rfl) [0, 0, 0, 6, 0, 0, 0, 96, 0, 0, 0, 1536, 3840, 7936, 0, 0, 0, 98304, 245760, 507904, 1048335, 2096911, 4194303, 8388607] 129 321 B rfl rfl (by kernel_rfl) ?_
 refine A6 ?_
 refine J7 he_4 ?_
 refine A6 ?_
 refine J7 he_3 ?_
 refine A6 ?_
 refine Sl Jh he_3 (x' := e_4) ?_
 obtain ⟨e_5, he_5, G⟩ := Ac G
 refine A6 ?_
 refine Sl Jh he_5 (x' := e_3) ?_
 refine F7 fun B => ?_
 refine An (Cj _ _ []) 321 337 B rfl rfl ?_
 refine Bq fun B => ?_
 obtain rfl := oi_ G
 exact ⟨((child_3, Cd (Cd data_1 ((W (first + root_1)).toNat) e_4) ((W (first + child_3)).toNat) e_3), m1), Nat.lt_succ_self _, hn1, Bc [(0, 0)]⟩
theorem H1 (data : List Aa) (a : Int) (b : Int) (cmp : Aa -> Aa -> Option (Int)) (hf_cmp : ∀ (x0 : Aa) (x1 : Aa) (y : Int), cmp x0 x1 = some y -> Fn Tryz.prog 112 0 [.agg (Aa.dv x0), .agg (Aa.dv x1)] [] (fun d' b' => d' = vk y /\ b' = [])) (r : (List Aa)) (G : Av data a b cmp = some r) : Fn Tryz.prog 182 1 [.row 0, vk a, vk b, .clo 112 0 []] [.row 48 11 (Aq Aa.enc data)] (fun d' b' => d' = .tup [] /\ b' = [.row 48 11 (Aq Aa.enc r)]) := by
 unfold Av at G
 refine Fn.of Tryz.func182 rfl rfl rfl fun w0 I ρ0 => ?_
 show B4 _ ⟨w0, I, ρ0, 1, 1, 60⟩ _ _ _
 refine Bk 1 17 A8 fun B => ?_
 refine Bk 17 25 B fun B => ?_
 refine Bk 25 57 B fun B => ?_
 refine Ak <| B8 57 89 B ?_
 refine A6 ?_
 obtain ⟨q, hq, G⟩ := Ac G
 refine Cr rfl rfl (Q3 hq) rfl rfl ?_
 refine Bq fun B => ?_
 refine Ar <| J3 (fun ((i_1, data_1) : Int × List Aa) => mk [(0, .row 0), (3, .clo 112 0 []), (8, vk a), (9, .val (.int .i64 0)), (10, .val (.int .i64 (W (b - a)))), (11, vk i_1)] [(0, .row 48 11 (Aq Aa.enc data_1))] 1) G (Bc [(0, 0)]) ?_
 rintro ⟨i_1, data_1⟩ m1 o1 G hn1
 replace G : Av.l1 a b cmp i_1 data_1 = some o1 := G
 show B4 _ _ _ _ (mk _ _ _)
 unfold Av.l1 at G
 refine Ak <| Bk 1 17 A8 fun B => ?_
 refine C5 rfl G (fun h6 G => ?_) fun h6 G => ?_
 refine Dd ?_
 refine Ak <| Ar <| An (Cj _ _ []) 17 65 B rfl rfl ?_
 refine A6 ?_
 obtain ⟨y, hy, G⟩ := Ac G
 refine K9 [0] [0] [] false (Eo data_1 i_1 (W (b - a)) a cmp hf_cmp _ hy) ?_
 refine F7 fun B => ?_
 refine An (Cj _ _ []) 65 89 B rfl rfl ?_
 refine Bq fun B => ?_
 obtain rfl := oi_ G
 exact ⟨((W (i_1 - 1), y), m1), Nat.lt_succ_self _, hn1, Bc [(0, 0)]⟩
 refine Ju ?_
 replace G := Cm G hn1
 refine Bk 17 41 B fun B => ?_
 refine Ar <| J3 (fun ((i_2, data_2) : Int × List Aa) => mk [(0, .row 0), (3, .clo 112 0 []), (8, vk a), (9, .val (.int .i64 0)), (12, vk i_2)] [(0, .row 48 11 (Aq Aa.enc data_2))] 1) G (Bc [(0, 0)]) ?_
 rintro ⟨i_2, data_2⟩ m2 o2 G hn2
 replace G : Av.l2 a cmp i_2 data_2 = some o2 := G
 show B4 _ _ _ _ (mk _ _ _)
 unfold Av.l2 at G
 refine Ak <| Bk 1 17 A8 fun B => ?_
 refine C5 rfl G (fun h11 G => ?_) fun h11 G => ?_
 refine Dd ?_
 refine Ak <| Ar <| Ak <| Bv (Cj _ _ []) (by kernel_rfl) [0, 0, 0, 0, 0, 24, 0, 0, 0, 384, 960, 1984, 0, 0, 12288, 28672, 65475, 131011, 262143, 524287] 17 177 B rfl rfl (by kernel_rfl) ?_
 refine A6 ?_
 obtain ⟨e, he, G⟩ := Ac G
 refine A6 ?_
 refine J7 he ?_
 refine A6 ?_
 obtain ⟨e_2, he_2, G⟩ := Ac G
 refine A6 ?_
 refine J7 he_2 ?_
 refine A6 ?_
 refine Sl Jh he_2 (x' := e) ?_
 obtain ⟨e_3, he_3, G⟩ := Ac G
 refine A6 ?_
 refine Sl Jh he_3 (x' := e_2) ?_
 refine F7 fun B => ?_
 refine An (Cj _ _ []) 177 225 B rfl rfl ?_
 refine A6 ?_
 obtain ⟨y_2, hy_2, G⟩ := Ac G
 refine K9 [0] [0] [] false (Eo (Cd (Cd data_2 ((a).toNat) e) ((W (a + i_2)).toNat) e_2) 0 i_2 a cmp hf_cmp _ hy_2) ?_
 refine F7 fun B => ?_
 refine An (Cj _ _ []) 225 249 B rfl rfl ?_
 refine Bq fun B => ?_
 obtain rfl := oi_ G
 exact ⟨((W (i_2 - 1), y_2), m2), Nat.lt_succ_self _, hn2, Bc [(0, 0)]⟩
 refine Ju ?_
 replace G := Cm G hn2
 obtain rfl := oi_ G
 exact Ht [(0, 0)] ⟨rfl, rfl⟩
theorem O0 (length : Int) (r : Int) (G : Ez length = some r) : Fn Tryz.prog 207 0 [vk length] [] (fun d' b' => d' = .val (.int .u64 r) /\ b' = []) := by
 unfold Ez at G
 refine Fn.of Tryz.func207 rfl rfl rfl fun w0 I ρ0 => ?_
 show B4 _ ⟨w0, I, ρ0, 0, 0, 7⟩ _ _ _
 refine Bk 0 8 A8 fun B => ?_
 refine B8 8 48 B ?_
 refine A6 ?_
 refine Cr rfl rfl (Wi V0 eQ) rfl rfl ?_
 obtain ⟨y, hy, G⟩ := Ac G
 refine Dz (P2 _ _ hy) ?_
 obtain ⟨q, hq, G⟩ := Ac G
 refine Cr rfl rfl (fE hq) rfl rfl ?_
 exact C6
theorem Pd (r' : Int) (r : Int × Int) (G : Fe r' = some r) : Fn Tryz.prog 208 1 [.ptr 0 0] [.box [.val (.int .u64 r')] 237] (fun d' b' => d' = .val (.int .u64 r.1) /\ b' = [.box [.val (.int .u64 r.2)] 237]) := by
 unfold Fe at G
 refine Fn.of Tryz.func208 rfl rfl rfl fun w0 I ρ0 => ?_
 show B4 _ ⟨w0, I, ρ0, 1, 1, 33⟩ _ _ _
 refine Bk 1 9 A8 fun B => ?_
 refine Ak <| Bv (Cj _ _ []) (by kernel_rfl) [0, 1, 3, 0, 8, 24, 56, 127, 255, 511] 9 89 B rfl rfl (by kernel_rfl) ?_
 refine A6 ?_
 obtain ⟨q, hq, G⟩ := Ac G
 refine Cr rfl rfl (fE hq) rfl rfl ?_
 refine Cr rfl rfl aB rfl rfl ?_
 refine Bq fun B => ?_
 refine Ak <| Bv (Cj _ _ []) (by kernel_rfl) [0, 1, 3, 0, 8, 24, 56, 127, 255, 511] 89 169 B rfl rfl (by kernel_rfl) ?_
 refine A6 ?_
 obtain ⟨q_2, hq_2, G⟩ := Ac G
 refine Cr rfl rfl (Sn hq_2) rfl rfl ?_
 refine Cr rfl rfl aB rfl rfl ?_
 refine Bq fun B => ?_
 refine Ak <| Bv (Cj _ _ []) (by kernel_rfl) [0, 1, 3, 0, 8, 24, 56, 127, 255, 511] 169 249 B rfl rfl (by kernel_rfl) ?_
 refine A6 ?_
 obtain ⟨q_3, hq_3, G⟩ := Ac G
 refine Cr rfl rfl (fE hq_3) rfl rfl ?_
 refine Cr rfl rfl aB rfl rfl ?_
 refine Bq fun B => ?_
 refine Bk 249 281 B fun B => ?_
 refine F3 ?_
 obtain rfl := oi_ G
 exact Ht [(0, 0)] ⟨rfl, rfl⟩
theorem G0 (data : List Aa) (a : Int) (b : Int) (cmp : Aa -> Aa -> Option (Int)) (hf_cmp : ∀ (x0 : Aa) (x1 : Aa) (y : Int), cmp x0 x1 = some y -> Fn Tryz.prog 112 0 [.agg (Aa.dv x0), .agg (Aa.dv x1)] [] (fun d' b' => d' = vk y /\ b' = [])) (r : (List Aa)) (G : Au data a b cmp = some r) : Fn Tryz.prog 183 1 [.row 0, vk a, vk b, .clo 112 0 []] [.row 48 11 (Aq Aa.enc data)] (fun d' b' => d' = .tup [] /\ b' = [.row 48 11 (Aq Aa.enc r)]) := by
 unfold Au at G
 refine Fn.of Tryz.func183 rfl rfl rfl fun w0 I ρ0 => ?_
 show B4 _ ⟨w0, I, ρ0, 1, 1, 67⟩ _ _ _
 refine Bk 1 33 A8 fun B => ?_
 refine Bk 33 49 B fun B => ?_
 refine C5 rfl G (fun h3 G => ?_) fun h3 G => ?_
 refine B8 49 81 B ?_
 refine A6 ?_
 refine Cr rfl rfl (Wi V0 vQ) rfl rfl ?_
 refine Bq fun B => ?_
 refine B8 81 105 B ?_
 refine A6 ?_
 obtain ⟨y, hy, G⟩ := Ac G
 refine Dz (O0 _ _ hy) ?_
 refine Bq fun B => ?_
 refine B8 105 161 B ?_
 refine A6 ?_
 obtain ⟨q, hq, G⟩ := Ac G
 refine Cr rfl rfl (Q3 hq) rfl rfl ?_
 refine Bq fun B => ?_
 refine Ar <| J3 (fun ((idx_1, data_1, random_1) : Int × List Aa × Int) => mk [(0, .row 0), (1, vk a), (8, .val (.int .i64 (W (b - a)))), (9, .ptr 1 0), (10, .val (.int .u64 y)), (11, vk idx_1)] [(0, .row 48 11 (Aq Aa.enc data_1)), (1, .box [.val (.int .u64 random_1)] 237)] 2) G (Bc [(0, 0), (1, 65)]) ?_
 rintro ⟨idx_1, data_1, random_1⟩ m1 o1 G hn1
 replace G : Au.l1 a b y idx_1 data_1 random_1 = some o1 := G
 show B4 _ _ _ _ (mk _ _ _)
 unfold Au.l1 at G
 refine Ak <| B8 2 66 A8 ?_
 refine A6 ?_
 obtain ⟨q_2, hq_2, G⟩ := Ac G
 refine Cr rfl rfl (Q3 hq_2) rfl rfl ?_
 refine Bq fun B => ?_
 refine C5 rfl G (fun h8 G => ?_) fun h8 G => ?_
 refine Dd ?_
 refine Ak <| Ar <| B8 66 114 B ?_
 obtain ⟨y_2, hy_2, G⟩ := Ac G
 refine K9 [1] [1] [] false (Pd _ _ hy_2) ?_
 refine A6 ?_
 refine Cr rfl rfl wV rfl rfl ?_
 refine Cr rfl rfl mR rfl rfl ?_
 refine Cr rfl rfl (Xp eQ V0) rfl rfl ?_
 refine Bq fun B => ?_
 refine Bw (ι := Int) (fun (other_2 : Int) => mk [(0, .row 0), (1, vk a), (8, .val (.int .i64 (W (b - a)))), (9, .ptr 1 0), (10, .val (.int .u64 y)), (11, vk idx_1), (12, vk other_2)] [(0, .row 48 11 (Aq Aa.enc data_1)), (1, .box [.val (.int .u64 y_2.2)] 237)] 2) (fun (other_2 : Int) => Au.j2 a idx_1 data_1 y_2 other_2 = some o1) ?_ ?_
 refine Bk 114 138 B fun B => ?_
 refine C5 rfl G (fun h11 G => ?_) fun h11 G => ?_
 refine An (Cj _ _ []) 138 170 B rfl rfl ?_
 refine Bq fun B => ?_
 exact ⟨W ((W (Vx .u64 y_2.1 (IntKind.wrap .u64 (y - 1)))) - (W (b - a))), G, Bc [(0, 0), (1, 1)]⟩
 refine Dd ?_
 exact ⟨W (Vx .u64 y_2.1 (IntKind.wrap .u64 (y - 1))), G, Bc [(0, 0), (1, 1)]⟩
 rintro other_2 G
 replace G : Au.j2 a idx_1 data_1 y_2 other_2 = some o1 := G
 show B4 _ _ _ _ (mk _ _ _)
 unfold Au.j2 at G
 refine Bv (Cj _ _ []) (by kernel_rfl) [0, 0, 0, 0, 0, 24, 0, 0, 0, 384, 960, 1984, 0, 0, 12288, 28672, 65475, 131011, 262143, 524287] 2 162 A8 rfl rfl (by kernel_rfl) ?_
 refine A6 ?_
 obtain ⟨e, he, G⟩ := Ac G
 refine A6 ?_
 refine J7 he ?_
 refine A6 ?_
 obtain ⟨e_2, he_2, G⟩ := Ac G
 refine A6 ?_
 refine J7 he_2 ?_
 refine A6 ?_
 refine Sl Jh he_2 (x' := e) ?_
 obtain ⟨e_3, he_3, G⟩ := Ac G
 refine A6 ?_
 refine Sl Jh he_3 (x' := e_2) ?_
 refine F7 fun B => ?_
 refine An (Cj _ _ []) 162 186 B rfl rfl ?_
 refine Bq fun B => ?_
 obtain rfl := oi_ G
 exact ⟨((W (idx_1 + 1), Cd (Cd data_1 ((idx_1).toNat) e) ((W (a + other_2)).toNat) e_2, y_2.2), m1), Nat.lt_succ_self _, hn1, Bc [(0, 0), (1, 1)]⟩
 refine Ju ?_
 replace G := Cm G hn1
 obtain rfl := oi_ G
 exact Ht [(0, 0)] ⟨rfl, rfl⟩
 refine Dd ?_
 obtain rfl := oi_ G
 exact Ht [(0, 0)] ⟨rfl, rfl⟩
theorem Dt (data : (List Aa)) (a : Int) (b : Int) (swaps : Int) (cmp : Aa -> Aa -> Option (Int)) (hf_cmp : ∀ (x0 : Aa) (x1 : Aa) (y : Int), cmp x0 x1 = some y -> Fn Tryz.prog 112 0 [.agg (Aa.dv x0), .agg (Aa.dv x1)] [] (fun d' b' => d' = vk y /\ b' = [])) (r : Int × Int × Int) (G : Co data a b swaps cmp = some r) : Fn Tryz.prog 213 1 [.sl 11 (Aq Aa.enc data), vk a, vk b, .ptr 0 0, .clo 112 0 []] [.box [vk swaps] 3] (fun d' b' => d' = .tup [vk r.1, vk r.2.1] /\ b' = [.box [vk r.2.2] 3]) := by
 unfold Co at G
 refine Fn.of Tryz.func213 rfl rfl rfl fun w0 I ρ0 => ?_
 show B4 _ ⟨w0, I, ρ0, 1, 1, 32⟩ _ _ _
 refine Bk 1 17 A8 fun B => ?_
 refine Ak <| Ak <| Bv (Cj _ _ []) (by kernel_rfl) [0, 0, 0, 6, 14, 0, 0, 96, 224, 511, 1023] 17 105 B rfl rfl (by kernel_rfl) ?_
 refine A6 ?_
 obtain ⟨e, he, G⟩ := Ac G
 refine A6 ?_
 refine lH he ?_
 refine A6 ?_
 obtain ⟨e_2, he_2, G⟩ := Ac G
 refine A6 ?_
 refine lH he_2 ?_
 obtain ⟨y, hy, G⟩ := Ac G
 refine B9 (rd := []) (ps := []) (gs := []) false rfl rfl (hf_cmp e e_2 _ hy) rfl rfl (.cons (.agg (.cons .val (.cons .val (.cons .val (.cons .val (.cons .val (.cons .val (.cons .val (.cons .val (.cons .val (.cons .val (.cons .val .nil)))))))))))) (.cons (.agg (.cons .val (.cons .val (.cons .val (.cons .val (.cons .val (.cons .val (.cons .val (.cons .val (.cons .val (.cons .val (.cons .val .nil)))))))))))) .nil)) rfl rfl (by intro h; cases h) rfl rfl rfl rfl ?_
 refine Bq fun B => ?_
 refine C5 rfl G (fun h3 G => ?_) fun h3 G => ?_
 refine Bk 105 153 B fun B => ?_
 refine Bk 153 185 B fun B => ?_
 refine F3 ?_
 obtain rfl := oi_ G
 exact Ht [(0, 0)] ⟨rfl, rfl⟩
 refine Dd ?_
 refine Bk 105 137 B fun B => ?_
 refine F3 ?_
 obtain rfl := oi_ G
 exact Ht [(0, 0)] ⟨rfl, rfl⟩
theorem Eu (data : (List Aa)) (a : Int) (b : Int) (c : Int) (swaps : Int) (cmp : Aa -> Aa -> Option (Int)) (hf_cmp : ∀ (x0 : Aa) (x1 : Aa) (y : Int), cmp x0 x1 = some y -> Fn Tryz.prog 112 0 [.agg (Aa.dv x0), .agg (Aa.dv x1)] [] (fun d' b' => d' = vk y /\ b' = [])) (r : Int × Int) (G : C0 data a b c swaps cmp = some r) : Fn Tryz.prog 210 1 [.sl 11 (Aq Aa.enc data), vk a, vk b, vk c, .ptr 0 0, .clo 112 0 []] [.box [vk swaps] 3] (fun d' b' => d' = vk r.1 /\ b' = [.box [vk r.2] 3]) := by
 unfold C0 at G
 refine Fn.of Tryz.func210 rfl rfl rfl fun w0 I ρ0 => ?_
 show B4 _ ⟨w0, I, ρ0, 1, 1, 41⟩ _ _ _
 refine Bk 1 9 A8 fun B => ?_
 refine B8 9 97 B ?_
 refine A6 ?_
 obtain ⟨y, hy, G⟩ := Ac G
 refine K9 [0] [0] [] false (Dt data a b swaps cmp hf_cmp _ hy) ?_
 refine Bq fun B => ?_
 refine B8 97 185 B ?_
 refine A6 ?_
 obtain ⟨y_2, hy_2, G⟩ := Ac G
 refine K9 [0] [0] [] false (Dt data y.2.1 c y.2.2 cmp hf_cmp _ hy_2) ?_
 refine Bq fun B => ?_
 refine B8 185 273 B ?_
 refine A6 ?_
 obtain ⟨y_3, hy_3, G⟩ := Ac G
 refine K9 [0] [0] [] false (Dt data y.1 y_2.1 y_2.2.2 cmp hf_cmp _ hy_3) ?_
 refine Bq fun B => ?_
 refine Bk 273 289 B fun B => ?_
 refine F3 ?_
 obtain rfl := oi_ G
 exact Ht [(0, 0)] ⟨rfl, rfl⟩
theorem Db (data : (List Aa)) (a : Int) (swaps : Int) (cmp : Aa -> Aa -> Option (Int)) (hf_cmp : ∀ (x0 : Aa) (x1 : Aa) (y : Int), cmp x0 x1 = some y -> Fn Tryz.prog 112 0 [.agg (Aa.dv x0), .agg (Aa.dv x1)] [] (fun d' b' => d' = vk y /\ b' = [])) (r : Int × Int) (G : B7 data a swaps cmp = some r) : Fn Tryz.prog 209 1 [.sl 11 (Aq Aa.enc data), vk a, .ptr 0 0, .clo 112 0 []] [.box [vk swaps] 3] (fun d' b' => d' = vk r.1 /\ b' = [.box [vk r.2] 3]) := by
 unfold B7 at G
 refine Fn.of Tryz.func209 rfl rfl rfl fun w0 I ρ0 => ?_
 show B4 _ ⟨w0, I, ρ0, 1, 1, 18⟩ _ _ _
 refine Bk 1 9 A8 fun B => ?_
 refine B8 9 89 B ?_
 refine A6 ?_
 obtain ⟨y, hy, G⟩ := Ac G
 refine K9 [0] [0] [] false (Eu data (W (a - 1)) a (W (a + 1)) swaps cmp hf_cmp _ hy) ?_
 refine Bq fun B => ?_
 refine F3 ?_
 obtain rfl := oi_ G
 exact Ht [(0, 0)] ⟨rfl, rfl⟩
theorem Hc (data : (List Aa)) (a : Int) (b : Int) (cmp : Aa -> Aa -> Option (Int)) (hf_cmp : ∀ (x0 : Aa) (x1 : Aa) (y : Int), cmp x0 x1 = some y -> Fn Tryz.prog 112 0 [.agg (Aa.dv x0), .agg (Aa.dv x1)] [] (fun d' b' => d' = vk y /\ b' = [])) (r : Int × Int) (G : Ax data a b cmp = some r) : Fn Tryz.prog 184 0 [.sl 11 (Aq Aa.enc data), vk a, vk b, .clo 112 0 []] [] (fun d' b' => d' = .tup [vk r.1, vk r.2] /\ b' = []) := by
 unfold Ax at G
 refine Fn.of Tryz.func184 rfl rfl rfl fun w0 I ρ0 => ?_
 show B4 _ ⟨w0, I, ρ0, 0, 0, 63⟩ _ _ _
 refine Bk 0 16 A8 fun B => ?_
 refine Bk 16 48 B fun B => ?_
 refine Bk 48 56 B fun B => ?_
 refine B8 56 104 B ?_
 refine A6 ?_
 obtain ⟨q, hq, G⟩ := Ac G
 refine Cr rfl rfl (Q3 hq) rfl rfl ?_
 refine Bq fun B => ?_
 refine B8 104 152 B ?_
 refine A6 ?_
 obtain ⟨q_2, hq_2, G⟩ := Ac G
 refine Cr rfl rfl (Q3 hq_2) rfl rfl ?_
 refine Bq fun B => ?_
 refine B8 152 200 B ?_
 refine A6 ?_
 obtain ⟨q_3, hq_3, G⟩ := Ac G
 refine Cr rfl rfl (Q3 hq_3) rfl rfl ?_
 refine Bq fun B => ?_
 refine Bw (ι := Int × Int) (fun ((j_2, swaps_2) : Int × Int) => mk [(11, .ptr 0 0), (13, vk j_2)] [(0, .box [vk swaps_2] 3)] 1) (fun ((j_2, swaps_2) : Int × Int) => Ax.j2 j_2 swaps_2 = some r) ?_ ?_
 refine Bk 200 216 B fun B => ?_
 refine C5 rfl G (fun h8 G => ?_) fun h8 G => ?_
 refine Bw (ι := Int × Int × Int × Int) (fun ((i_1, j_1, k_1, swaps_1) : Int × Int × Int × Int) => mk [(0, .sl 11 (Aq Aa.enc data)), (3, .clo 112 0 []), (11, .ptr 0 0), (12, vk i_1), (13, vk j_1), (14, vk k_1)] [(0, .box [vk swaps_1] 3)] 1) (fun ((i_1, j_1, k_1, swaps_1) : Int × Int × Int × Int) => Ax.j1 data cmp i_1 j_1 k_1 swaps_1 = some r) ?_ ?_
 refine Bk 216 232 B fun B => ?_
 refine C5 rfl G (fun h10 G => ?_) fun h10 G => ?_
 refine B8 232 272 B ?_
 refine A6 ?_
 obtain ⟨y, hy, G⟩ := Ac G
 refine K9 [48] [48] [] false (Db data (W (a + (W (q * 1)))) 0 cmp hf_cmp _ hy) ?_
 refine Bq fun B => ?_
 refine B8 272 312 B ?_
 refine A6 ?_
 obtain ⟨y_2, hy_2, G⟩ := Ac G
 refine K9 [48] [48] [] false (Db data (W (a + (W (q_2 * 2)))) y.2 cmp hf_cmp _ hy_2) ?_
 refine Bq fun B => ?_
 refine An (Cj _ _ []) 312 352 B rfl rfl ?_
 refine A6 ?_
 obtain ⟨y_3, hy_3, G⟩ := Ac G
 refine K9 [48] [48] [] false (Db data (W (a + (W (q_3 * 3)))) y_2.2 cmp hf_cmp _ hy_3) ?_
 refine Bq fun B => ?_
 exact ⟨(y.1, y_2.1, y_3.1, y_3.2), G, Bc [(0, 48)]⟩
 refine Dd ?_
 exact ⟨(W (a + (W (q * 1))), W (a + (W (q_2 * 2))), W (a + (W (q_3 * 3))), 0), G, Bc [(0, 48)]⟩
 rintro ⟨i_1, j_1, k_1, swaps_1⟩ G
 replace G : Ax.j1 data cmp i_1 j_1 k_1 swaps_1 = some r := G
 show B4 _ _ _ _ (mk _ _ _)
 unfold Ax.j1 at G
 refine An (Cj _ _ []) 1 57 A8 rfl rfl ?_
 refine A6 ?_
 obtain ⟨y_4, hy_4, G⟩ := Ac G
 refine K9 [0] [0] [] false (Eu data i_1 j_1 k_1 swaps_1 cmp hf_cmp _ hy_4) ?_
 refine Bq fun B => ?_
 exact ⟨(y_4.1, y_4.2), G, Bc [(0, 0)]⟩
 refine Dd ?_
 exact ⟨(W (a + (W (q_2 * 2))), 0), G, Bc [(0, 48)]⟩
 rintro ⟨j_2, swaps_2⟩ G
 replace G : Ax.j2 j_2 swaps_2 = some r := G
 show B4 _ _ _ _ (mk _ _ _)
 unfold Ax.j2 at G
 refine Bk 1 9 A8 fun B => ?_
 refine Ar <| Bk 9 25 B fun B => ?_
 refine C5 rfl G (fun h17 G => ?_) fun h17 G => ?_
 refine B8 25 49 B ?_
 exact C6
 refine Bk 25 41 B fun B => ?_
 refine C5 rfl G (fun h20 G => ?_) fun h20 G => ?_
 refine B8 41 65 B ?_
 exact C6
 refine B8 41 65 B ?_
 exact C6
theorem G7 (data : List Aa) (a : Int) (b : Int) (cmp : Aa -> Aa -> Option (Int)) (hf_cmp : ∀ (x0 : Aa) (x1 : Aa) (y : Int), cmp x0 x1 = some y -> Fn Tryz.prog 112 0 [.agg (Aa.dv x0), .agg (Aa.dv x1)] [] (fun d' b' => d' = vk y /\ b' = [])) (r : (List Aa)) (G : Be data a b cmp = some r) : Fn Tryz.prog 185 1 [.row 0, vk a, vk b, .clo 112 0 []] [.row 48 11 (Aq Aa.enc data)] (fun d' b' => d' = .tup [] /\ b' = [.row 48 11 (Aq Aa.enc r)]) := by
 unfold Be at G
 refine Fn.of Tryz.func185 rfl rfl rfl fun w0 I ρ0 => ?_
 show B4 _ ⟨w0, I, ρ0, 1, 1, 34⟩ _ _ _
 refine Bk 1 17 A8 fun B => ?_
 refine Bk 17 41 B fun B => ?_
 refine Ar <| J3 (fun ((i_1, j_1, data_1) : Int × Int × List Aa) => mk [(0, .row 0), (8, vk i_1), (9, vk j_1)] [(0, .row 48 11 (Aq Aa.enc data_1))] 1) G (Bc [(0, 0)]) ?_
 rintro ⟨i_1, j_1, data_1⟩ m1 o1 G hn1
 replace G : Be.l1 i_1 j_1 data_1 = some o1 := G
 show B4 _ _ _ _ (mk _ _ _)
 unfold Be.l1 at G
 refine Ak <| Bk 1 25 A8 fun B => ?_
 refine C5 rfl G (fun h4 G => ?_) fun h4 G => ?_
 refine Dd ?_
 refine Ar <| Ak <| Bv (Cj _ _ []) (by kernel_rfl) [0, 0, 0, 0, 0, 0, 48, 112, 0, 0, 768, 1792, 4083, 8179, 16383, 32767] 25 153 B rfl rfl (by kernel_rfl) ?_
 refine A6 ?_
 obtain ⟨e, he, G⟩ := Ac G
 refine A6 ?_
 refine J7 he ?_
 refine A6 ?_
 obtain ⟨e_2, he_2, G⟩ := Ac G
 refine A6 ?_
 refine J7 he_2 ?_
 refine A6 ?_
 refine Sl Jh he_2 (x' := e) ?_
 obtain ⟨e_3, he_3, G⟩ := Ac G
 refine A6 ?_
 refine Sl Jh he_3 (x' := e_2) ?_
 refine F7 fun B => ?_
 refine Bk 153 177 B fun B => ?_
 refine An (Cj _ _ []) 177 201 B rfl rfl ?_
 refine Bq fun B => ?_
 obtain rfl := oi_ G
 exact ⟨((W (i_1 + 1), W (j_1 - 1), Cd (Cd data_1 ((i_1).toNat) e) ((j_1).toNat) e_2), m1), Nat.lt_succ_self _, hn1, Bc [(0, 0)]⟩
 refine Ju ?_
 replace G := Cm G hn1
 obtain rfl := oi_ G
 exact Ht [(0, 0)] ⟨rfl, rfl⟩
theorem Fs (data : List Aa) (a : Int) (b : Int) (cmp : Aa -> Aa -> Option (Int)) (hf_cmp : ∀ (x0 : Aa) (x1 : Aa) (y : Int), cmp x0 x1 = some y -> Fn Tryz.prog 112 0 [.agg (Aa.dv x0), .agg (Aa.dv x1)] [] (fun d' b' => d' = vk y /\ b' = [])) (r : Bool × (List Aa)) (G : Ab data a b cmp = some r) : Fn Tryz.prog 186 1 [.row 0, vk a, vk b, .clo 112 0 []] [.row 48 11 (Aq Aa.enc data)] (fun d' b' => d' = .val (.bool r.1) /\ b' = [.row 48 11 (Aq Aa.enc r.2)]) := by
 unfold Ab at G
 refine Fn.of Tryz.func186 rfl rfl rfl fun w0 I ρ0 => ?_
 show B4 _ ⟨w0, I, ρ0, 1, 1, 141⟩ _ _ _
 refine Bk 1 9 A8 fun B => ?_
 refine Bk 9 33 B fun B => ?_
 refine Ak <| Bk 33 41 B fun B => ?_
 refine Ar <| J3 (fun ((i_1, j_1, data_1) : Int × Int × List Aa) => mk [(0, .row 0), (1, vk a), (2, vk b), (3, .clo 112 0 []), (9, vk i_1), (10, vk j_1)] [(0, .row 48 11 (Aq Aa.enc data_1))] 1) G (Bc [(0, 0)]) ?_
 rintro ⟨i_1, j_1, data_1⟩ m1 o1 G hn1
 replace G : Ab.l1 a b cmp i_1 j_1 data_1 = some o1 := G
 show B4 _ _ _ _ (mk _ _ _)
 unfold Ab.l1 at G
 refine Ak <| Bk 1 17 A8 fun B => ?_
 refine C5 rfl G (fun h5 G => ?_) fun h5 G => ?_
 refine Dd ?_
 refine Bw (ι := Int × List Aa) (fun ((i_7, data_7) : Int × List Aa) => mk [(0, .row 0), (1, vk a), (2, vk b), (3, .clo 112 0 []), (9, vk i_7), (10, vk j_1)] [(0, .row 48 11 (Aq Aa.enc data_7))] 1) (fun ((i_7, data_7) : Int × List Aa) => Ab.j7 j_1 i_7 data_7 = some o1) ?_ ?_
 refine Ar <| Ak <| Ar <| J3 (fun (i_2 : Int) => mk [(0, .row 0), (1, vk a), (2, vk b), (3, .clo 112 0 []), (9, vk i_2), (10, vk j_1)] [(0, .row 48 11 (Aq Aa.enc data_1))] 1) G (Bc [(0, 0)]) ?_
 rintro i_2 m2 o2 G hn2
 replace G : Ab.l2 a b cmp j_1 data_1 i_2 = some o2 := G
 show B4 _ _ _ _ (mk _ _ _)
 unfold Ab.l2 at G
 refine Ak <| Bw (ι := Bool) (fun (x36_3 : Bool) => mk [(0, .row 0), (1, vk a), (2, vk b), (3, .clo 112 0 []), (9, vk i_2), (10, vk j_1), (36, .val (.bool x36_3))] [(0, .row 48 11 (Aq Aa.enc data_1))] 1) (fun (x36_3 : Bool) => Ab.j3 a b cmp j_1 data_1 i_2 x36_3 = some o2) ?_ ?_
 refine Bv (Cj _ _ []) (by kernel_rfl) [0, 0, 3, 7, 15, 15, 15, 111, 239, 15, 15, 1039, 3599, 7695, 16383, 32767, 65535, 131071] 1 145 A8 rfl rfl (by kernel_rfl) ?_
 refine A6 ?_
 rcases Ef G with ⟨h6, G⟩ | ⟨h6, G⟩
 refine A6 ?_
 obtain ⟨e, he, G⟩ := Ac G
 refine A6 ?_
 refine J7 he ?_
 refine A6 ?_
 obtain ⟨e_2, he_2, G⟩ := Ac G
 refine A6 ?_
 refine J7 he_2 ?_
 obtain ⟨y, hy, G⟩ := Ac G
 refine B9 (rd := []) (ps := []) (gs := []) false (Fm rfl rfl h6) rfl (hf_cmp e e_2 _ hy) rfl rfl (.cons (.agg (.cons .val (.cons .val (.cons .val (.cons .val (.cons .val (.cons .val (.cons .val (.cons .val (.cons .val (.cons .val (.cons .val .nil)))))))))))) (.cons (.agg (.cons .val (.cons .val (.cons .val (.cons .val (.cons .val (.cons .val (.cons .val (.cons .val (.cons .val (.cons .val (.cons .val .nil)))))))))))) .nil)) rfl rfl (by intro h; cases h) rfl rfl rfl rfl ?_
 refine Bq fun B => ?_
 exact ⟨!(decide (y < 0)), G, Bc [(0, 0)]⟩
 refine Bq fun B => ?_
 exact ⟨false, G, Bc [(0, 0)]⟩
 rintro x36_3 G
 replace G : Ab.j3 a b cmp j_1 data_1 i_2 x36_3 = some o2 := G
 show B4 _ _ _ _ (mk _ _ _)
 unfold Ab.j3 at G
 refine C5 rfl G (fun h9 G => ?_) fun h9 G => ?_
 refine Dd ?_
 refine Ar <| An (Cj _ _ []) 1 25 A8 rfl rfl ?_
 refine Bq fun B => ?_
 obtain rfl := oi_ G
 exact ⟨(W (i_2 + 1), m2), Nat.lt_succ_self _, hn2, Bc [(0, 0)]⟩
 refine Ju ?_
 replace G := Cm G hn2
 refine Ak <| Bk 1 25 A8 fun B => ?_
 refine C5 rfl G (fun h12 G => ?_) fun h12 G => ?_
 refine Bk 25 33 B fun B => ?_
 refine F3 ?_
 replace G := Cm G hn1
 obtain rfl := oi_ G
 exact Ht [(0, 0)] ⟨rfl, rfl⟩
 refine Dd ?_
 refine Ak <| Bk 25 57 B fun B => ?_
 refine C5 rfl G (fun h15 G => ?_) fun h15 G => ?_
 refine Bk 57 65 B fun B => ?_
 refine F3 ?_
 replace G := Cm G hn1
 obtain rfl := oi_ G
 exact Ht [(0, 0)] ⟨rfl, rfl⟩
 refine Dd ?_
 refine Ak <| Bv (Cj _ _ []) (by kernel_rfl) [0, 0, 0, 0, 8, 0, 0, 64, 224, 480, 0, 0, 3072, 7168, 16355, 32739, 65535, 131071] 57 201 B rfl rfl (by kernel_rfl) ?_
 refine A6 ?_
 obtain ⟨e_3, he_3, G⟩ := Ac G
 refine A6 ?_
 refine J7 he_3 ?_
 refine A6 ?_
 obtain ⟨e_4, he_4, G⟩ := Ac G
 refine A6 ?_
 refine J7 he_4 ?_
 refine A6 ?_
 refine Sl Jh he_4 (x' := e_3) ?_
 obtain ⟨e_5, he_5, G⟩ := Ac G
 refine A6 ?_
 refine Sl Jh he_5 (x' := e_4) ?_
 refine F7 fun B => ?_
 refine Bw (ι := List Aa) (fun (data_5 : List Aa) => mk [(0, .row 0), (1, vk a), (2, vk b), (3, .clo 112 0 []), (9, vk i_2), (10, vk j_1)] [(0, .row 48 11 (Aq Aa.enc data_5))] 1) (fun (data_5 : List Aa) => Ab.j5 b cmp j_1 i_2 data_5 = some o1) ?_ ?_
 refine Bk 201 233 B fun B => ?_
 refine C5 rfl G (fun h19 G => ?_) fun h19 G => ?_
 refine Bk 233 257 B fun B => ?_
 refine Ar <| J3 (fun ((j_4, data_4) : Int × List Aa) => mk [(0, .row 0), (1, vk a), (2, vk b), (3, .clo 112 0 []), (9, vk i_2), (10, vk j_1), (11, vk j_4)] [(0, .row 48 11 (Aq Aa.enc data_4))] 1) G (Bc [(0, 0)]) ?_
 rintro ⟨j_4, data_4⟩ m4 o4 G hn4
 replace G : Ab.l4 b cmp j_1 i_2 j_4 data_4 = some o4 := G
 show B4 _ _ _ _ (mk _ _ _)
 unfold Ab.l4 at G
 refine Ak <| Bk 1 17 A8 fun B => ?_
 refine C5 rfl G (fun h22 G => ?_) fun h22 G => ?_
 refine Dd ?_
 refine Ak <| Ar <| Ak <| Ak <| Bv (Cj _ _ []) (by kernel_rfl) [0, 0, 0, 6, 14, 0, 0, 64, 224, 480, 1023, 2047, 4095] 17 121 B rfl rfl (by kernel_rfl) ?_
 refine A6 ?_
 obtain ⟨e_6, he_6, G⟩ := Ac G
 refine A6 ?_
 refine J7 he_6 ?_
 refine A6 ?_
 obtain ⟨e_7, he_7, G⟩ := Ac G
 refine A6 ?_
 refine J7 he_7 ?_
 obtain ⟨y_2, hy_2, G⟩ := Ac G
 refine B9 (rd := []) (ps := []) (gs := []) false rfl rfl (hf_cmp e_6 e_7 _ hy_2) rfl rfl (.cons (.agg (.cons .val (.cons .val (.cons .val (.cons .val (.cons .val (.cons .val (.cons .val (.cons .val (.cons .val (.cons .val (.cons .val .nil)))))))))))) (.cons (.agg (.cons .val (.cons .val (.cons .val (.cons .val (.cons .val (.cons .val (.cons .val (.cons .val (.cons .val (.cons .val (.cons .val .nil)))))))))))) .nil)) rfl rfl (by intro h; cases h) rfl rfl rfl rfl ?_
 refine Bq fun B => ?_
 refine C5 rfl G (fun h24 G => ?_) fun h24 G => ?_
 refine Ju ?_
 replace G := Cm G hn4
 exact ⟨data_4, G, Bc [(0, 0)]⟩
 refine Dd ?_
 refine Bv (Cj _ _ []) (by kernel_rfl) [0, 0, 0, 0, 8, 0, 0, 64, 224, 480, 0, 0, 3072, 7168, 16355, 32739, 65535, 131071] 121 265 B rfl rfl (by kernel_rfl) ?_
 refine A6 ?_
 refine J7 he_7 ?_
 refine A6 ?_
 refine J7 he_6 ?_
 refine A6 ?_
 refine Sl Jh he_6 (x' := e_7) ?_
 obtain ⟨e_8, he_8, G⟩ := Ac G
 refine A6 ?_
 refine Sl Jh he_8 (x' := e_6) ?_
 refine F7 fun B => ?_
 refine An (Cj _ _ []) 265 289 B rfl rfl ?_
 refine Bq fun B => ?_
 obtain rfl := oi_ G
 exact ⟨((W (j_4 - 1), Cd (Cd data_4 ((j_4).toNat) e_7) ((W (j_4 - 1)).toNat) e_6), m4), Nat.lt_succ_self _, hn4, Bc [(0, 0)]⟩
 refine Ju ?_
 replace G := Cm G hn4
 exact ⟨data_4, G, Bc [(0, 0)]⟩
 refine Dd ?_
 exact ⟨Cd (Cd data_1 ((i_2).toNat) e_3) ((W (i_2 - 1)).toNat) e_4, G, Bc [(0, 0)]⟩
 rintro data_5 G
 replace G : Ab.j5 b cmp j_1 i_2 data_5 = some o1 := G
 show B4 _ _ _ _ (mk _ _ _)
 unfold Ab.j5 at G
 refine Bk 1 33 A8 fun B => ?_
 refine C5 rfl G (fun h28 G => ?_) fun h28 G => ?_
 refine Bk 33 57 B fun B => ?_
 refine Ar <| J3 (fun ((j_6, data_6) : Int × List Aa) => mk [(0, .row 0), (1, vk a), (2, vk b), (3, .clo 112 0 []), (9, vk i_2), (10, vk j_1), (12, vk j_6)] [(0, .row 48 11 (Aq Aa.enc data_6))] 1) G (Bc [(0, 0)]) ?_
 rintro ⟨j_6, data_6⟩ m6 o6 G hn6
 replace G : Ab.l6 b cmp j_1 i_2 j_6 data_6 = some o6 := G
 show B4 _ _ _ _ (mk _ _ _)
 unfold Ab.l6 at G
 refine Ak <| Bk 1 25 A8 fun B => ?_
 refine C5 rfl G (fun h31 G => ?_) fun h31 G => ?_
 refine Dd ?_
 refine Ak <| Ar <| Ak <| Ak <| Bv (Cj _ _ []) (by kernel_rfl) [0, 0, 0, 6, 14, 0, 0, 64, 224, 480, 1023, 2047, 4095] 25 129 B rfl rfl (by kernel_rfl) ?_
 refine A6 ?_
 obtain ⟨e_9, he_9, G⟩ := Ac G
 refine A6 ?_
 refine J7 he_9 ?_
 refine A6 ?_
 obtain ⟨e_10, he_10, G⟩ := Ac G
 refine A6 ?_
 refine J7 he_10 ?_
 obtain ⟨y_3, hy_3, G⟩ := Ac G
 refine B9 (rd := []) (ps := []) (gs := []) false rfl rfl (hf_cmp e_9 e_10 _ hy_3) rfl rfl (.cons (.agg (.cons .val (.cons .val (.cons .val (.cons .val (.cons .val (.cons .val (.cons .val (.cons .val (.cons .val (.cons .val (.cons .val .nil)))))))))))) (.cons (.agg (.cons .val (.cons .val (.cons .val (.cons .val (.cons .val (.cons .val (.cons .val (.cons .val (.cons .val (.cons .val (.cons .val .nil)))))))))))) .nil)) rfl rfl (by intro h; cases h) rfl rfl rfl rfl ?_
 refine Bq fun B => ?_
 refine C5 rfl G (fun h33 G => ?_) fun h33 G => ?_
 refine Ju ?_
 replace G := Cm G hn6
 exact ⟨(i_2, data_6), G, Bc [(0, 0)]⟩
 refine Dd ?_
 refine Bv (Cj _ _ []) (by kernel_rfl) [0, 0, 0, 0, 8, 0, 0, 64, 224, 480, 0, 0, 3072, 7168, 16355, 32739, 65535, 131071] 129 273 B rfl rfl (by kernel_rfl) ?_
 refine A6 ?_
 refine J7 he_10 ?_
 refine A6 ?_
 refine J7 he_9 ?_
 refine A6 ?_
 refine Sl Jh he_9 (x' := e_10) ?_
 obtain ⟨e_11, he_11, G⟩ := Ac G
 refine A6 ?_
 refine Sl Jh he_11 (x' := e_9) ?_
 refine F7 fun B => ?_
 refine An (Cj _ _ []) 273 297 B rfl rfl ?_
 refine Bq fun B => ?_
 obtain rfl := oi_ G
 exact ⟨((W (j_6 + 1), Cd (Cd data_6 ((j_6).toNat) e_10) ((W (j_6 - 1)).toNat) e_9), m6), Nat.lt_succ_self _, hn6, Bc [(0, 0)]⟩
 refine Ju ?_
 replace G := Cm G hn6
 exact ⟨(i_2, data_6), G, Bc [(0, 0)]⟩
 refine Dd ?_
 exact ⟨(i_2, data_5), G, Bc [(0, 0)]⟩
 rintro ⟨i_7, data_7⟩ G
 replace G : Ab.j7 j_1 i_7 data_7 = some o1 := G
 show B4 _ _ _ _ (mk _ _ _)
 unfold Ab.j7 at G
 refine An (Cj _ _ []) 1 25 A8 rfl rfl ?_
 refine Bq fun B => ?_
 obtain rfl := oi_ G
 exact ⟨((i_7, W (j_1 + 1), data_7), m1), Nat.lt_succ_self _, hn1, Bc [(0, 0)]⟩
 refine Ju ?_
 replace G := Cm G hn1
 refine Bk 17 25 B fun B => ?_
 refine F3 ?_
 obtain rfl := oi_ G
 exact Ht [(0, 0)] ⟨rfl, rfl⟩
end Go.Proofs.YtkoflhimdenjaaaGreat
