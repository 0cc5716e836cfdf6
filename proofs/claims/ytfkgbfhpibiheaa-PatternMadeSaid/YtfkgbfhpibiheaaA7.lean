import Derived.Test.YtfkgbfhpibiheaaT1
import Derived.Test.YtfkgbfhpibiheaaA1
import Derived.Test.YtfkgbfhpibiheaaA2
import Derived.Test.YtfkgbfhpibiheaaA5
import Derived.Test.YtfkgbfhpibiheaaA6
set_option linter.unusedVariables false
set_option linter.unusedSimpArgs false
set_option maxRecDepth 100000
set_option maxHeartbeats 1600000
namespace Go.Proofs.Ytfkgbfhpibiheaa
open Go.RowKit
theorem G4 (data : List Aa) (a : Int) (b : Int) (pivot : Int) (cmp : Aa -> Aa -> Option (Int)) (hf_cmp : ∀ (x0 : Aa) (x1 : Aa) (y : Int), cmp x0 x1 = some y -> Fn Try.prog 45 0 [.agg [vk x0.Alg, vk x0.Bits], .agg [vk x1.Alg, vk x1.Bits]] [] (fun d' b' => d' = vk y /\ b' = [])) (r : Int × Bool × (List Aa)) (G : Af data a b pivot cmp = some r) : Fn Try.prog 91 1 [.row 0, vk a, vk b, vk pivot, .clo 45 0 []] [.row 43 2 (As Aa.enc data)] (fun d' b' => d' = .tup [vk r.1, .val (.bool r.2.1)] /\ b' = [.row 43 2 (As Aa.enc r.2.2)]) := by
 unfold Af at G
 refine Fn.of Try.func91 rfl rfl rfl fun w0 I ρ0 => ?_
 show Cp _ ⟨w0, I, ρ0, 1, 1, 178⟩ _ _ _
 refine Bt 1 17 Bg fun B => ?_
 refine An <| Br (Cm _ _ []) (by kernel_rfl) [0, 0, 0, 0, 0, 0, 48, 112, 0, 0, 768, 1792, 4083, 8179, 16383, 32767] 17 145 B rfl rfl (by kernel_rfl) ?_
 refine A8 ?_
 obtain ⟨e, he, G⟩ := Ac G
 refine A8 ?_
 refine Fj he ?_
 refine A8 ?_
 obtain ⟨e_2, he_2, G⟩ := Ac G
 refine A8 ?_
 refine Fj he_2 ?_
 refine A8 ?_
 refine Il Hu he_2 (x' := e) ?_
 obtain ⟨e_3, he_3, G⟩ := Ac G
 refine A8 ?_
 refine Il Hu he_3 (x' := e_2) ?_
 refine D2 fun B => ?_
 refine Bt 145 193 B fun B => ?_
 refine An <| Ar <| Gg (fun (i_1 : Int) => mk [(0, .row 0), (1, vk a), (4, .clo 45 0 []), (12, vk i_1), (13, .val (.int .i64 (W (b - 1))))] [(0, .row 43 2 (As Aa.enc (Bi (Bi data ((a).toNat) e) ((pivot).toNat) e_2)))] 1) G (A3 [(0, 0)]) ?_
 rintro i_1 m1 o1 G hn1
 replace G : Af.l1 data a b pivot cmp e e_2 i_1 = some o1 := G
 show Cp _ _ _ _ (mk _ _ _)
 unfold Af.l1 at G
 refine An <| By (ι := Bool) (fun (x47_2 : Bool) => mk [(0, .row 0), (1, vk a), (4, .clo 45 0 []), (12, vk i_1), (13, .val (.int .i64 (W (b - 1)))), (47, .val (.bool x47_2))] [(0, .row 43 2 (As Aa.enc (Bi (Bi data ((a).toNat) e) ((pivot).toNat) e_2)))] 1) (fun (x47_2 : Bool) => Af.j2 data a b pivot cmp e e_2 i_1 x47_2 = some o1) ?_ ?_
 refine Br (Cm _ _ []) (by kernel_rfl) [0, 0, 3, 7, 15, 15, 15, 111, 239, 15, 15, 1551, 3599, 8191, 16383, 32767] 1 129 Bg rfl rfl (by kernel_rfl) ?_
 refine A8 ?_
 rcases If G with ⟨h4, G⟩ | ⟨h4, G⟩
 refine A8 ?_
 obtain ⟨e_4, he_4, G⟩ := Ac G
 refine A8 ?_
 refine Fj he_4 ?_
 refine A8 ?_
 obtain ⟨e_5, he_5, G⟩ := Ac G
 refine A8 ?_
 refine Fj he_5 ?_
 obtain ⟨y, hy, G⟩ := Ac G
 refine Dm (rd := []) (ps := []) (gs := []) false (Et rfl rfl h4) rfl (hf_cmp e_4 e_5 _ hy) rfl rfl (.cons (.agg (.cons .val (.cons .val .nil))) (.cons (.agg (.cons .val (.cons .val .nil))) .nil)) rfl rfl (by intro h; cases h) rfl rfl rfl rfl ?_
 refine B4 fun B => ?_
 exact ⟨decide (y < 0), G, A3 [(0, 0)]⟩
 refine B4 fun B => ?_
 exact ⟨false, G, A3 [(0, 0)]⟩
 rintro x47_2 G
 replace G : Af.j2 data a b pivot cmp e e_2 i_1 x47_2 = some o1 := G
 show Cp _ _ _ _ (mk _ _ _)
 unfold Af.j2 at G
 refine C1 rfl G (fun h7 G => ?_) fun h7 G => ?_
 refine C9 ?_
 refine Ar <| Aq (Cm _ _ []) 1 25 Bg rfl rfl ?_
 refine B4 fun B => ?_
 obtain rfl := oi_ G
 exact ⟨(W (i_1 + 1), m1), xO _, hn1, A3 [(0, 0)]⟩
 refine F8 ?_
 replace G := B1 G hn1
 refine An <| Ar <| Gg (fun (j_3 : Int) => mk [(0, .row 0), (1, vk a), (4, .clo 45 0 []), (12, vk i_1), (13, vk j_3)] [(0, .row 43 2 (As Aa.enc (Bi (Bi data ((a).toNat) e) ((pivot).toNat) e_2)))] 1) G (A3 [(0, 0)]) ?_
 rintro j_3 m3 o3 G hn3
 replace G : Af.l3 data a pivot cmp e e_2 i_1 j_3 = some o3 := G
 show Cp _ _ _ _ (mk _ _ _)
 unfold Af.l3 at G
 refine An <| By (ι := Bool) (fun (x66_4 : Bool) => mk [(0, .row 0), (1, vk a), (4, .clo 45 0 []), (12, vk i_1), (13, vk j_3), (66, .val (.bool x66_4))] [(0, .row 43 2 (As Aa.enc (Bi (Bi data ((a).toNat) e) ((pivot).toNat) e_2)))] 1) (fun (x66_4 : Bool) => Af.j4 data a pivot cmp e e_2 i_1 j_3 x66_4 = some o3) ?_ ?_
 refine Br (Cm _ _ []) (by kernel_rfl) [0, 0, 3, 7, 15, 15, 15, 111, 239, 15, 15, 1551, 3599, 8191, 16383, 32767, 65535] 1 137 Bg rfl rfl (by kernel_rfl) ?_
 refine A8 ?_
 rcases If G with ⟨h9, G⟩ | ⟨h9, G⟩
 refine A8 ?_
 obtain ⟨e_6, he_6, G⟩ := Ac G
 refine A8 ?_
 refine Fj he_6 ?_
 refine A8 ?_
 obtain ⟨e_7, he_7, G⟩ := Ac G
 refine A8 ?_
 refine Fj he_7 ?_
 obtain ⟨y_2, hy_2, G⟩ := Ac G
 refine Dm (rd := []) (ps := []) (gs := []) false (Et rfl rfl h9) rfl (hf_cmp e_6 e_7 _ hy_2) rfl rfl (.cons (.agg (.cons .val (.cons .val .nil))) (.cons (.agg (.cons .val (.cons .val .nil))) .nil)) rfl rfl (by intro h; cases h) rfl rfl rfl rfl ?_
 refine B4 fun B => ?_
 exact ⟨!(decide (y_2 < 0)), G, A3 [(0, 0)]⟩
 refine B4 fun B => ?_
 exact ⟨false, G, A3 [(0, 0)]⟩
 rintro x66_4 G
 replace G : Af.j4 data a pivot cmp e e_2 i_1 j_3 x66_4 = some o3 := G
 show Cp _ _ _ _ (mk _ _ _)
 unfold Af.j4 at G
 refine C1 rfl G (fun h12 G => ?_) fun h12 G => ?_
 refine C9 ?_
 refine Ar <| Aq (Cm _ _ []) 1 25 Bg rfl rfl ?_
 refine B4 fun B => ?_
 obtain rfl := oi_ G
 exact ⟨(W (j_3 - 1), m3), xO _, hn3, A3 [(0, 0)]⟩
 refine F8 ?_
 replace G := B1 G hn3
 refine An <| Bt 1 25 Bg fun B => ?_
 refine C1 rfl G (fun h15 G => ?_) fun h15 G => ?_
 refine An <| Br (Cm _ _ []) (by kernel_rfl) [0, 0, 0, 0, 0, 0, 48, 112, 0, 0, 768, 1792, 4083, 8179, 16383, 32767] 25 153 B rfl rfl (by kernel_rfl) ?_
 refine A8 ?_
 obtain ⟨e_8, he_8, G⟩ := Ac G
 refine A8 ?_
 refine Fj he_8 ?_
 refine A8 ?_
 obtain ⟨e_9, he_9, G⟩ := Ac G
 refine A8 ?_
 refine Fj he_9 ?_
 refine A8 ?_
 refine Il Hu he_9 (x' := e_8) ?_
 obtain ⟨e_10, he_10, G⟩ := Ac G
 refine A8 ?_
 refine Il Hu he_10 (x' := e_9) ?_
 refine D2 fun B => ?_
 refine Bt 153 177 B fun B => ?_
 refine El ?_
 obtain rfl := oi_ G
 exact Ee [(0, 0)] ⟨rfl, rfl⟩
 refine C9 ?_
 refine An <| Br (Cm _ _ []) (by kernel_rfl) [0, 0, 0, 0, 0, 0, 48, 112, 0, 0, 768, 1792, 4083, 8179, 16383, 32767] 25 153 B rfl rfl (by kernel_rfl) ?_
 refine A8 ?_
 obtain ⟨e_11, he_11, G⟩ := Ac G
 refine A8 ?_
 refine Fj he_11 ?_
 refine A8 ?_
 obtain ⟨e_12, he_12, G⟩ := Ac G
 refine A8 ?_
 refine Fj he_12 ?_
 refine A8 ?_
 refine Il Hu he_12 (x' := e_11) ?_
 obtain ⟨e_13, he_13, G⟩ := Ac G
 refine A8 ?_
 refine Il Hu he_13 (x' := e_12) ?_
 refine D2 fun B => ?_
 refine Bt 153 177 B fun B => ?_
 refine Bt 177 201 B fun B => ?_
 refine An <| Ar <| Gg (fun ((i_5, j_5, data_5) : Int × Int × List Aa) => mk [(0, .row 0), (1, vk a), (4, .clo 45 0 []), (12, vk i_5), (13, vk j_5)] [(0, .row 43 2 (As Aa.enc data_5))] 1) G (A3 [(0, 0)]) ?_
 rintro ⟨i_5, j_5, data_5⟩ m5 o5 G hn5
 replace G : Af.l5 a cmp i_5 j_5 data_5 = some o5 := G
 show Cp _ _ _ _ (mk _ _ _)
 unfold Af.l5 at G
 refine Ar <| An <| Ar <| Gg (fun (i_6 : Int) => mk [(0, .row 0), (1, vk a), (4, .clo 45 0 []), (12, vk i_6), (13, vk j_5)] [(0, .row 43 2 (As Aa.enc data_5))] 1) G (A3 [(0, 0)]) ?_
 rintro i_6 m6 o6 G hn6
 replace G : Af.l6 a cmp j_5 data_5 i_6 = some o6 := G
 show Cp _ _ _ _ (mk _ _ _)
 unfold Af.l6 at G
 refine An <| By (ι := Bool) (fun (x120_7 : Bool) => mk [(0, .row 0), (1, vk a), (4, .clo 45 0 []), (12, vk i_6), (13, vk j_5), (120, .val (.bool x120_7))] [(0, .row 43 2 (As Aa.enc data_5))] 1) (fun (x120_7 : Bool) => Af.j7 a cmp j_5 data_5 i_6 x120_7 = some o6) ?_ ?_
 refine Br (Cm _ _ []) (by kernel_rfl) [0, 0, 3, 7, 15, 15, 15, 111, 239, 15, 15, 1551, 3599, 8191, 16383, 32767] 1 129 Bg rfl rfl (by kernel_rfl) ?_
 refine A8 ?_
 rcases If G with ⟨h21, G⟩ | ⟨h21, G⟩
 refine A8 ?_
 obtain ⟨e_14, he_14, G⟩ := Ac G
 refine A8 ?_
 refine Fj he_14 ?_
 refine A8 ?_
 obtain ⟨e_15, he_15, G⟩ := Ac G
 refine A8 ?_
 refine Fj he_15 ?_
 obtain ⟨y_3, hy_3, G⟩ := Ac G
 refine Dm (rd := []) (ps := []) (gs := []) false (Et rfl rfl h21) rfl (hf_cmp e_14 e_15 _ hy_3) rfl rfl (.cons (.agg (.cons .val (.cons .val .nil))) (.cons (.agg (.cons .val (.cons .val .nil))) .nil)) rfl rfl (by intro h; cases h) rfl rfl rfl rfl ?_
 refine B4 fun B => ?_
 exact ⟨decide (y_3 < 0), G, A3 [(0, 0)]⟩
 refine B4 fun B => ?_
 exact ⟨false, G, A3 [(0, 0)]⟩
 rintro x120_7 G
 replace G : Af.j7 a cmp j_5 data_5 i_6 x120_7 = some o6 := G
 show Cp _ _ _ _ (mk _ _ _)
 unfold Af.j7 at G
 refine C1 rfl G (fun h24 G => ?_) fun h24 G => ?_
 refine C9 ?_
 refine Ar <| Aq (Cm _ _ []) 1 25 Bg rfl rfl ?_
 refine B4 fun B => ?_
 obtain rfl := oi_ G
 exact ⟨(W (i_6 + 1), m6), xO _, hn6, A3 [(0, 0)]⟩
 refine F8 ?_
 replace G := B1 G hn6
 refine An <| Ar <| Gg (fun (j_8 : Int) => mk [(0, .row 0), (1, vk a), (4, .clo 45 0 []), (12, vk i_6), (13, vk j_8)] [(0, .row 43 2 (As Aa.enc data_5))] 1) G (A3 [(0, 0)]) ?_
 rintro j_8 m8 o8 G hn8
 replace G : Af.l8 a cmp data_5 i_6 j_8 = some o8 := G
 show Cp _ _ _ _ (mk _ _ _)
 unfold Af.l8 at G
 refine An <| By (ι := Bool) (fun (x139_9 : Bool) => mk [(0, .row 0), (1, vk a), (4, .clo 45 0 []), (12, vk i_6), (13, vk j_8), (139, .val (.bool x139_9))] [(0, .row 43 2 (As Aa.enc data_5))] 1) (fun (x139_9 : Bool) => Af.j9 a data_5 i_6 j_8 x139_9 = some o8) ?_ ?_
 refine Br (Cm _ _ []) (by kernel_rfl) [0, 0, 3, 7, 15, 15, 15, 111, 239, 15, 15, 1551, 3599, 8191, 16383, 32767, 65535] 1 137 Bg rfl rfl (by kernel_rfl) ?_
 refine A8 ?_
 rcases If G with ⟨h26, G⟩ | ⟨h26, G⟩
 refine A8 ?_
 obtain ⟨e_16, he_16, G⟩ := Ac G
 refine A8 ?_
 refine Fj he_16 ?_
 refine A8 ?_
 obtain ⟨e_17, he_17, G⟩ := Ac G
 refine A8 ?_
 refine Fj he_17 ?_
 obtain ⟨y_4, hy_4, G⟩ := Ac G
 refine Dm (rd := []) (ps := []) (gs := []) false (Et rfl rfl h26) rfl (hf_cmp e_16 e_17 _ hy_4) rfl rfl (.cons (.agg (.cons .val (.cons .val .nil))) (.cons (.agg (.cons .val (.cons .val .nil))) .nil)) rfl rfl (by intro h; cases h) rfl rfl rfl rfl ?_
 refine B4 fun B => ?_
 exact ⟨!(decide (y_4 < 0)), G, A3 [(0, 0)]⟩
 refine B4 fun B => ?_
 exact ⟨false, G, A3 [(0, 0)]⟩
 rintro x139_9 G
 replace G : Af.j9 a data_5 i_6 j_8 x139_9 = some o8 := G
 show Cp _ _ _ _ (mk _ _ _)
 unfold Af.j9 at G
 refine C1 rfl G (fun h29 G => ?_) fun h29 G => ?_
 refine C9 ?_
 refine Ar <| Aq (Cm _ _ []) 1 25 Bg rfl rfl ?_
 refine B4 fun B => ?_
 obtain rfl := oi_ G
 exact ⟨(W (j_8 - 1), m8), xO _, hn8, A3 [(0, 0)]⟩
 refine F8 ?_
 replace G := B1 G hn8
 refine An <| Bt 1 25 Bg fun B => ?_
 refine C1 rfl G (fun h32 G => ?_) fun h32 G => ?_
 refine F8 ?_
 replace G := B1 G hn5
 refine An <| Br (Cm _ _ []) (by kernel_rfl) [0, 0, 0, 0, 0, 0, 48, 112, 0, 0, 768, 1792, 4083, 8179, 16383, 32767] 25 153 B rfl rfl (by kernel_rfl) ?_
 refine A8 ?_
 obtain ⟨e_21, he_21, G⟩ := Ac G
 refine A8 ?_
 refine Fj he_21 ?_
 refine A8 ?_
 obtain ⟨e_22, he_22, G⟩ := Ac G
 refine A8 ?_
 refine Fj he_22 ?_
 refine A8 ?_
 refine Il Hu he_22 (x' := e_21) ?_
 obtain ⟨e_23, he_23, G⟩ := Ac G
 refine A8 ?_
 refine Il Hu he_23 (x' := e_22) ?_
 refine D2 fun B => ?_
 refine Bt 153 177 B fun B => ?_
 refine El ?_
 obtain rfl := oi_ G
 exact Ee [(0, 0)] ⟨rfl, rfl⟩
 refine C9 ?_
 refine An <| Br (Cm _ _ []) (by kernel_rfl) [0, 0, 0, 0, 0, 0, 48, 112, 0, 0, 768, 1792, 4083, 8179, 16383, 32767] 25 153 B rfl rfl (by kernel_rfl) ?_
 refine A8 ?_
 obtain ⟨e_18, he_18, G⟩ := Ac G
 refine A8 ?_
 refine Fj he_18 ?_
 refine A8 ?_
 obtain ⟨e_19, he_19, G⟩ := Ac G
 refine A8 ?_
 refine Fj he_19 ?_
 refine A8 ?_
 refine Il Hu he_19 (x' := e_18) ?_
 obtain ⟨e_20, he_20, G⟩ := Ac G
 refine A8 ?_
 refine Il Hu he_20 (x' := e_19) ?_
 refine D2 fun B => ?_
 refine Bt 153 177 B fun B => ?_
 refine Aq (Cm _ _ []) 177 201 B rfl rfl ?_
 refine B4 fun B => ?_
 obtain rfl := oi_ G
 exact ⟨((W (i_6 + 1), W (j_8 - 1), Bi (Bi data_5 ((i_6).toNat) e_18) ((j_8).toNat) e_19), m5), xO _, hn5, A3 [(0, 0)]⟩
theorem Eh.F (cmp : Aa -> Aa -> Option (Int)) (hf_cmp : ∀ (x0 : Aa) (x1 : Aa) (y : Int), cmp x0 x1 = some y -> Fn Try.prog 45 0 [.agg [vk x0.Alg, vk x0.Bits], .agg [vk x1.Alg, vk x1.Bits]] [] (fun d' b' => d' = vk y /\ b' = [])) (rec : (List Aa) -> Int -> Int -> Int -> Option ((List Aa))) (hrec : ∀ (data : List Aa) (a : Int) (b : Int) (limit : Int) (r : (List Aa)), rec data a b limit = some r -> Fn Try.prog 60 1 [.row 0, vk a, vk b, vk limit, .clo 45 0 []] [.row 43 2 (As Aa.enc data)] (fun d' b' => d' = .tup [] /\ b' = [.row 43 2 (As Aa.enc r)])) (data : List Aa) (a : Int) (b : Int) (limit : Int) (r : (List Aa)) (G : Ak.F rec data a b limit cmp = some r) : Fn Try.prog 60 1 [.row 0, vk a, vk b, vk limit, .clo 45 0 []] [.row 43 2 (As Aa.enc data)] (fun d' b' => d' = .tup [] /\ b' = [.row 43 2 (As Aa.enc r)]) := by
 unfold Ak.F at G
 refine Fn.of Try.func60 rfl rfl rfl fun w0 I ρ0 => ?_
 show Cp _ ⟨w0, I, ρ0, 1, 1, 148⟩ _ _ _
 refine Bt 1 9 Bg fun B => ?_
 refine Bt 9 17 B fun B => ?_
 refine Ar <| Gg (fun ((a_1, b_1, limit_1, wasBalanced_1, wasPartitioned_1, data_1) : Int × Int × Int × Bool × Bool × List Aa) => mk [(0, .row 0), (1, vk a_1), (2, vk b_1), (3, vk limit_1), (4, .clo 45 0 []), (10, .val (.bool wasBalanced_1)), (11, .val (.bool wasPartitioned_1))] [(0, .row 43 2 (As Aa.enc data_1))] 1) G (A3 [(0, 0)]) ?_
 rintro ⟨a_1, b_1, limit_1, wasBalanced_1, wasPartitioned_1, data_1⟩ m1 o1 G hn1
 replace G : Ak.l1 rec cmp a_1 b_1 limit_1 wasBalanced_1 wasPartitioned_1 data_1 = some o1 := G
 show Cp _ _ _ _ (mk _ _ _)
 unfold Ak.l1 at G
 refine Ar <| Bt 1 33 Bg fun B => ?_
 refine An <| Bt 33 49 B fun B => ?_
 refine C1 rfl G (fun h5 G => ?_) fun h5 G => ?_
 refine C4 49 89 B ?_
 refine A8 ?_
 obtain ⟨y, hy, G⟩ := Ac G
 refine G7 [0] [0] [] false (Gs data_1 a_1 b_1 cmp hf_cmp _ hy) ?_
 refine D2 fun B => ?_
 refine El ?_
 replace G := B1 G hn1
 obtain rfl := oi_ G
 exact Ee [(0, 0)] ⟨rfl, rfl⟩
 refine C9 ?_
 refine An <| Bt 49 65 B fun B => ?_
 refine C1 rfl G (fun h8 G => ?_) fun h8 G => ?_
 refine C4 65 105 B ?_
 refine A8 ?_
 obtain ⟨y_2, hy_2, G⟩ := Ac G
 refine G7 [0] [0] [] false (G9 data_1 a_1 b_1 cmp hf_cmp _ hy_2) ?_
 refine D2 fun B => ?_
 refine El ?_
 replace G := B1 G hn1
 obtain rfl := oi_ G
 exact Ee [(0, 0)] ⟨rfl, rfl⟩
 refine C9 ?_
 refine By (ι := Int × List Aa) (fun ((limit_2, data_2) : Int × List Aa) => mk [(0, .row 0), (1, vk a_1), (2, vk b_1), (3, vk limit_2), (4, .clo 45 0 []), (10, .val (.bool wasBalanced_1)), (11, .val (.bool wasPartitioned_1)), (12, .val (.int .i64 (W (b_1 - a_1))))] [(0, .row 43 2 (As Aa.enc data_2))] 1) (fun ((limit_2, data_2) : Int × List Aa) => Ak.j2 rec cmp a_1 b_1 wasBalanced_1 wasPartitioned_1 limit_2 data_2 = some o1) ?_ ?_
 refine Bt 65 81 B fun B => ?_
 refine C1 rfl G (fun h11 G => ?_) fun h11 G => ?_
 refine C4 81 121 B ?_
 refine A8 ?_
 obtain ⟨y_3, hy_3, G⟩ := Ac G
 refine G7 [0] [0] [] false (Gn data_1 a_1 b_1 cmp hf_cmp _ hy_3) ?_
 refine D2 fun B => ?_
 refine Aq (Cm _ _ []) 121 145 B rfl rfl ?_
 refine B4 fun B => ?_
 exact ⟨(W (limit_1 - 1), y_3), G, A3 [(0, 0)]⟩
 refine C9 ?_
 exact ⟨(limit_1, data_1), G, A3 [(0, 0)]⟩
 rintro ⟨limit_2, data_2⟩ G
 replace G : Ak.j2 rec cmp a_1 b_1 wasBalanced_1 wasPartitioned_1 limit_2 data_2 = some o1 := G
 show Cp _ _ _ _ (mk _ _ _)
 unfold Ak.j2 at G
 refine C4 1 81 Bg ?_
 refine A8 ?_
 obtain ⟨y_4, hy_4, G⟩ := Ac G
 refine G7 [0] [] [] true (Gx data_2 a_1 b_1 cmp hf_cmp _ hy_4) ?_
 refine B4 fun B => ?_
 refine By (ι := Int × Int × List Aa) (fun ((pivot_3, hint_3, data_3) : Int × Int × List Aa) => mk [(0, .row 0), (1, vk a_1), (2, vk b_1), (3, vk limit_2), (4, .clo 45 0 []), (10, .val (.bool wasBalanced_1)), (11, .val (.bool wasPartitioned_1)), (12, .val (.int .i64 (W (b_1 - a_1)))), (13, vk pivot_3), (14, vk hint_3)] [(0, .row 43 2 (As Aa.enc data_3))] 1) (fun ((pivot_3, hint_3, data_3) : Int × Int × List Aa) => Ak.j3 rec cmp a_1 b_1 wasBalanced_1 wasPartitioned_1 limit_2 pivot_3 hint_3 data_3 = some o1) ?_ ?_
 refine Bt 81 97 B fun B => ?_
 refine C1 rfl G (fun h16 G => ?_) fun h16 G => ?_
 refine C4 97 137 B ?_
 refine A8 ?_
 obtain ⟨y_5, hy_5, G⟩ := Ac G
 refine G7 [0] [0] [] false (Gv data_2 a_1 b_1 cmp hf_cmp _ hy_5) ?_
 refine D2 fun B => ?_
 refine Bt 137 193 B fun B => ?_
 refine Aq (Cm _ _ []) 193 201 B rfl rfl ?_
 refine B4 fun B => ?_
 exact ⟨(W ((W (b_1 - 1)) - (W (y_4.1 - a_1))), 1, y_5), G, A3 [(0, 0)]⟩
 refine C9 ?_
 exact ⟨(y_4.1, y_4.2, data_2), G, A3 [(0, 0)]⟩
 rintro ⟨pivot_3, hint_3, data_3⟩ G
 replace G : Ak.j3 rec cmp a_1 b_1 wasBalanced_1 wasPartitioned_1 limit_2 pivot_3 hint_3 data_3 = some o1 := G
 show Cp _ _ _ _ (mk _ _ _)
 unfold Ak.j3 at G
 refine By (ι := List Aa) (fun (data_5 : List Aa) => mk [(0, .row 0), (1, vk a_1), (2, vk b_1), (3, vk limit_2), (4, .clo 45 0 []), (10, .val (.bool wasBalanced_1)), (11, .val (.bool wasPartitioned_1)), (12, .val (.int .i64 (W (b_1 - a_1)))), (13, vk pivot_3)] [(0, .row 43 2 (As Aa.enc data_5))] 1) (fun (data_5 : List Aa) => Ak.j5 rec cmp a_1 b_1 wasBalanced_1 wasPartitioned_1 limit_2 pivot_3 data_5 = some o1) ?_ ?_
 refine By (ι := Bool) (fun (x75_4 : Bool) => mk [(0, .row 0), (1, vk a_1), (2, vk b_1), (3, vk limit_2), (4, .clo 45 0 []), (10, .val (.bool wasBalanced_1)), (11, .val (.bool wasPartitioned_1)), (12, .val (.int .i64 (W (b_1 - a_1)))), (13, vk pivot_3), (75, .val (.bool x75_4))] [(0, .row 43 2 (As Aa.enc data_3))] 1) (fun (x75_4 : Bool) => Ak.j4 rec cmp a_1 b_1 wasBalanced_1 wasPartitioned_1 limit_2 pivot_3 data_3 x75_4 = some o1) ?_ ?_
 refine Aq (Cm _ _ []) 1 65 Bg rfl rfl ?_
 refine A8 ?_
 rcases If G with ⟨h20, G⟩ | ⟨h20, G⟩
 refine A8 ?_
 rcases If G with ⟨h21, G⟩ | ⟨h21, G⟩
 refine B4 fun B => ?_
 exact ⟨decide (hint_3 = 1), G, A3 [(0, 0)]⟩
 refine B4 fun B => ?_
 exact ⟨false, G, A3 [(0, 0)]⟩
 refine B4 fun B => ?_
 exact ⟨false, G, A3 [(0, 0)]⟩
 rintro x75_4 G
 replace G : Ak.j4 rec cmp a_1 b_1 wasBalanced_1 wasPartitioned_1 limit_2 pivot_3 data_3 x75_4 = some o1 := G
 show Cp _ _ _ _ (mk _ _ _)
 unfold Ak.j4 at G
 refine C1 rfl G (fun h25 G => ?_) fun h25 G => ?_
 refine C4 1 41 Bg ?_
 refine A8 ?_
 obtain ⟨y_6, hy_6, G⟩ := Ac G
 refine G7 [0] [0] [] false (F2 data_3 a_1 b_1 cmp hf_cmp _ hy_6) ?_
 refine D2 fun B => ?_
 refine C1 rfl G (fun h27 G => ?_) fun h27 G => ?_
 refine Mt ?_
 refine sW ?_
 replace G := B1 G hn1
 obtain rfl := oi_ G
 exact Ee [(0, 0)] ⟨rfl, rfl⟩
 refine C9 ?_
 exact ⟨y_6.2, G, A3 [(0, 0)]⟩
 refine C9 ?_
 exact ⟨data_3, G, A3 [(0, 0)]⟩
 rintro data_5 G
 replace G : Ak.j5 rec cmp a_1 b_1 wasBalanced_1 wasPartitioned_1 limit_2 pivot_3 data_5 = some o1 := G
 show Cp _ _ _ _ (mk _ _ _)
 unfold Ak.j5 at G
 refine An <| By (ι := Bool) (fun (x97_6 : Bool) => mk [(0, .row 0), (1, vk a_1), (2, vk b_1), (3, vk limit_2), (4, .clo 45 0 []), (10, .val (.bool wasBalanced_1)), (11, .val (.bool wasPartitioned_1)), (12, .val (.int .i64 (W (b_1 - a_1)))), (13, vk pivot_3), (97, .val (.bool x97_6))] [(0, .row 43 2 (As Aa.enc data_5))] 1) (fun (x97_6 : Bool) => Ak.j6 rec cmp a_1 b_1 wasBalanced_1 wasPartitioned_1 limit_2 pivot_3 data_5 x97_6 = some o1) ?_ ?_
 refine Br (Cm _ _ []) (by kernel_rfl) [0, 1, 3, 7, 7, 7, 39, 119, 247, 7, 7, 1543, 3591, 8191, 16383, 32767, 65535] 1 137 Bg rfl rfl (by kernel_rfl) ?_
 refine A8 ?_
 rcases If G with ⟨h28, G⟩ | ⟨h28, G⟩
 refine A8 ?_
 obtain ⟨e, he, G⟩ := Ac G
 refine A8 ?_
 refine Fj he ?_
 refine A8 ?_
 obtain ⟨e_2, he_2, G⟩ := Ac G
 refine A8 ?_
 refine Fj he_2 ?_
 obtain ⟨y_7, hy_7, G⟩ := Ac G
 refine Dm (rd := []) (ps := []) (gs := []) false (Et rfl rfl h28) rfl (hf_cmp e e_2 _ hy_7) rfl rfl (.cons (.agg (.cons .val (.cons .val .nil))) (.cons (.agg (.cons .val (.cons .val .nil))) .nil)) rfl rfl (by intro h; cases h) rfl rfl rfl rfl ?_
 refine B4 fun B => ?_
 exact ⟨!(decide (y_7 < 0)), G, A3 [(0, 0)]⟩
 refine B4 fun B => ?_
 exact ⟨false, G, A3 [(0, 0)]⟩
 rintro x97_6 G
 replace G : Ak.j6 rec cmp a_1 b_1 wasBalanced_1 wasPartitioned_1 limit_2 pivot_3 data_5 x97_6 = some o1 := G
 show Cp _ _ _ _ (mk _ _ _)
 unfold Ak.j6 at G
 refine C1 rfl G (fun h31 G => ?_) fun h31 G => ?_
 refine C4 1 57 Bg ?_
 refine A8 ?_
 obtain ⟨y_8, hy_8, G⟩ := Ac G
 refine G7 [0] [0] [] false (Gi data_5 a_1 b_1 pivot_3 cmp hf_cmp _ hy_8) ?_
 refine B4 fun B => ?_
 refine Bt 57 73 B fun B => ?_
 refine F8 ?_
 obtain rfl := oi_ G
 exact ⟨((y_8.1, b_1, limit_2, wasBalanced_1, wasPartitioned_1, y_8.2), m1), xO _, hn1, A3 [(0, 0)]⟩
 refine C9 ?_
 refine C4 1 89 Bg ?_
 refine A8 ?_
 obtain ⟨y_9, hy_9, G⟩ := Ac G
 refine G7 [0] [0] [] false (G4 data_5 a_1 b_1 pivot_3 cmp hf_cmp _ hy_9) ?_
 refine B4 fun B => ?_
 refine Bt 89 105 B fun B => ?_
 refine Bt 105 169 B fun B => ?_
 refine C4 169 193 B ?_
 refine A8 ?_
 obtain ⟨q, hq, G⟩ := Ac G
 refine D1 rfl rfl (Jv hq) rfl rfl ?_
 refine B4 fun B => ?_
 refine Bt 193 217 B fun B => ?_
 refine C1 rfl G (fun h39 G => ?_) fun h39 G => ?_
 refine Bt 217 249 B fun B => ?_
 refine C4 249 297 B ?_
 refine A8 ?_
 obtain ⟨y_10, hy_10, G⟩ := Ac G
 refine G7 [0] [0] [] false (hrec y_9.2.2 a_1 y_9.1 limit_2 _ hy_10) ?_
 refine D2 fun B => ?_
 refine Aq (Cm _ _ []) 297 321 B rfl rfl ?_
 refine B4 fun B => ?_
 obtain rfl := oi_ G
 exact ⟨((W (y_9.1 + 1), b_1, limit_2, decide (q <= (W (y_9.1 - a_1))), y_9.2.1, y_10), m1), xO _, hn1, A3 [(0, 0)]⟩
 refine Bt 217 249 B fun B => ?_
 refine C4 249 305 B ?_
 refine A8 ?_
 obtain ⟨y_11, hy_11, G⟩ := Ac G
 refine G7 [0] [0] [] false (hrec y_9.2.2 (W (y_9.1 + 1)) b_1 limit_2 _ hy_11) ?_
 refine D2 fun B => ?_
 refine Aq (Cm _ _ []) 305 321 B rfl rfl ?_
 refine B4 fun B => ?_
 obtain rfl := oi_ G
 exact ⟨((a_1, y_9.1, limit_2, decide (q <= (W (b_1 - y_9.1))), y_9.2.1, y_11), m1), xO _, hn1, A3 [(0, 0)]⟩
theorem Eh (data : List Aa) (a : Int) (b : Int) (limit : Int) (cmp : Aa -> Aa -> Option (Int)) (hf_cmp : ∀ (x0 : Aa) (x1 : Aa) (y : Int), cmp x0 x1 = some y -> Fn Try.prog 45 0 [.agg [vk x0.Alg, vk x0.Bits], .agg [vk x1.Alg, vk x1.Bits]] [] (fun d' b' => d' = vk y /\ b' = [])) (r : (List Aa)) (G : Ak data a b limit cmp = some r) : Fn Try.prog 60 1 [.row 0, vk a, vk b, vk limit, .clo 45 0 []] [.row 43 2 (As Aa.enc data)] (fun d' b' => d' = .tup [] /\ b' = [.row 43 2 (As Aa.enc r)]) :=
 Zc (motive := fun (x : List Aa × Int × Int × Int) (r : (List Aa)) => Fn Try.prog 60 1 [.row 0, vk x.2.1, vk x.2.2.1, vk x.2.2.2, .clo 45 0 []] [.row 43 2 (As Aa.enc x.1)] (fun d' b' => d' = .tup [] /\ b' = [.row 43 2 (As Aa.enc r)])) (fun rec hrec x r h => Eh.F cmp hf_cmp _ (fun data a b limit r h => hrec (data, a, b, limit) r h) x.1 x.2.1 x.2.2.1 x.2.2.2 r h) (data, a, b, limit) r G
theorem Ih (x' : List Aa) (cmp : Aa -> Aa -> Option (Int)) (hf_cmp : ∀ (x0 : Aa) (x1 : Aa) (y : Int), cmp x0 x1 = some y -> Fn Try.prog 45 0 [.agg [vk x0.Alg, vk x0.Bits], .agg [vk x1.Alg, vk x1.Bits]] [] (fun d' b' => d' = vk y /\ b' = [])) (r : (List Aa)) (G : D9 x' cmp = some r) : Fn Try.prog 44 1 [.row 0, .clo 45 0 []] [.row 43 2 (As Aa.enc x')] (fun d' b' => d' = .tup [] /\ b' = [.row 43 2 (As Aa.enc r)]) := by
 unfold D9 at G
 refine Fn.of Try.func44 rfl rfl rfl fun w0 I ρ0 => ?_
 show Cp _ ⟨w0, I, ρ0, 1, 1, 14⟩ _ _ _
 refine Bt 1 25 Bg fun B => ?_
 refine Aq (Cm _ _ []) 25 81 B rfl rfl ?_
 refine A8 ?_
 refine D1 rfl rfl (Oy Rq Zm) rfl rfl ?_
 obtain ⟨y, hy, G⟩ := Ac G
 refine Ix (Jz _ _ hy) ?_
 refine A8 ?_
 obtain ⟨y_2, hy_2, G⟩ := Ac G
 refine G7 [0] [0] [] false (Eh x' 0 (x'.length : Int) y cmp hf_cmp _ hy_2) ?_
 refine D2 fun B => ?_
 obtain rfl := oi_ G
 exact Ee [(0, 0)] ⟨rfl, rfl⟩
theorem Jy (s : List Aa) (r : (List Aa)) (G : Bl s = some r) : Fn Try.prog 46 0 [.row 0] [.row 43 2 (As Aa.enc s)] (fun d' b' => d' = .row 0 /\ b' = [.row 43 2 (As Aa.enc r)]) := by
 unfold Bl at G
 refine Fn.of Try.func46 rfl rfl rfl fun w0 I ρ0 => ?_
 show Cp _ ⟨w0, I, ρ0, 0, 1, 61⟩ _ _ _
 refine Bt 1 9 Bg fun B => ?_
 refine An <| Bt 9 33 B fun B => ?_
 refine C1 rfl G (fun h3 G => ?_) fun h3 G => ?_
 refine Bt 33 49 B fun B => ?_
 refine El ?_
 obtain rfl := oi_ G
 exact Ee [(0, 0)] ⟨rfl, rfl⟩
 refine C9 ?_
 refine An <| Bt 33 41 B fun B => ?_
 refine Ar <| Gg (fun (k_1 : Int) => mk [(0, .row 0), (3, vk k_1)] [(0, .row 43 2 (As Aa.enc s))] 1) G (A3 [(0, 0)]) ?_
 rintro k_1 m1 o1 G hn1
 replace G : Bl.l1 s k_1 = some o1 := G
 show Cp _ _ _ _ (mk _ _ _)
 unfold Bl.l1 at G
 refine An <| Bt 1 33 Bg fun B => ?_
 refine C1 rfl G (fun h7 G => ?_) fun h7 G => ?_
 refine C9 ?_
 refine An <| Ar <| An <| Br (Cm _ _ []) (by kernel_rfl) [0, 0, 3, 7, 0, 0, 32, 112, 240, 511] 33 113 B rfl rfl (by kernel_rfl) ?_
 refine A8 ?_
 obtain ⟨e, he, G⟩ := Ac G
 refine A8 ?_
 refine Fj he ?_
 refine A8 ?_
 obtain ⟨e_2, he_2, G⟩ := Ac G
 refine A8 ?_
 refine Fj he_2 ?_
 refine D1 rfl rfl (Ui e e_2) rfl rfl ?_
 refine D2 fun B => ?_
 refine C1 rfl G (fun h9 G => ?_) fun h9 G => ?_
 refine C4 113 145 B ?_
 refine A8 ?_
 obtain ⟨l, hl, G⟩ := Ac G
 refine Ei (rd := [0]) rfl rfl (Wo Na Aa.enc_len hl) rfl rfl ?_
 refine B4 fun B => ?_
 refine An <| Bt 145 153 B fun B => ?_
 refine Ar <| Gg (fun ((k_2, k2_2, s_2) : Int × Int × List Aa) => mk [(0, .row 0), (3, vk k_2), (4, .part 0 (((k_1 : Int).toNat) * 2) (((s.length : Int) : Int).toNat - (k_1 : Int).toNat)), (5, vk k2_2)] [(0, .row 43 2 (As Aa.enc s_2))] 1) G (A3 [(0, 0)]) ?_
 rintro ⟨k_2, k2_2, s_2⟩ m2 o2 G hn2
 replace G : Bl.l2 s k_1 k_2 k2_2 s_2 = some o2 := G
 show Cp _ _ _ _ (mk _ _ _)
 unfold Bl.l2 at G
 refine An <| C4 1 33 Bg ?_
 refine A8 ?_
 refine D1 rfl rfl (.len Na.elem .part) rfl rfl ?_
 refine B4 fun B => ?_
 refine C1 rfl G (fun h13 G => ?_) fun h13 G => ?_
 refine C9 ?_
 refine By (ι := Int × List Aa) (fun ((k_3, s_3) : Int × List Aa) => mk [(0, .row 0), (3, vk k_3), (4, .part 0 (((k_1 : Int).toNat) * 2) (((s.length : Int) : Int).toNat - (k_1 : Int).toNat)), (5, vk k2_2)] [(0, .row 43 2 (As Aa.enc s_3))] 1) (fun ((k_3, s_3) : Int × List Aa) => Bl.j3 k2_2 k_3 s_3 = some o2) ?_ ?_
 refine Ar <| An <| Br (Cm _ _ []) (by kernel_rfl) [0, 0, 3, 7, 0, 0, 32, 112, 240, 511] 33 113 B rfl rfl (by kernel_rfl) ?_
 refine A8 ?_
 obtain ⟨e_3, he_3, G⟩ := Ac G
 refine Ei (rd := [0]) rfl rfl (aE Na (Er he_3) (A4 he_3)) rfl rfl ?_
 refine Ei (rd := [0]) rfl rfl (Qt Ut (H4 Aa.enc_len (Ot (a := (k_1 : Int).toNat) (A4 he_3)) (o := 0) (m := 2) (cs := [.int .i64 e_3.Alg, .int .i64 e_3.Bits]) rfl (by decide) rfl) (Eb Aa.enc_len (Ot (a := (k_1 : Int).toNat) (A4 he_3)) (o := 0) (m := 2) (by decide) rfl)) rfl rfl ?_
 refine A8 ?_
 obtain ⟨e_4, he_4, G⟩ := Ac G
 refine Ei (rd := [0]) rfl rfl (aE Na (Er he_4) (A4 he_4)) rfl rfl ?_
 refine Ei (rd := [0]) rfl rfl (Qt Ut (H4 Aa.enc_len (Ot (a := (k_1 : Int).toNat) (A4 he_4)) (o := 0) (m := 2) (cs := [.int .i64 e_4.Alg, .int .i64 e_4.Bits]) rfl (by decide) rfl) (Eb Aa.enc_len (Ot (a := (k_1 : Int).toNat) (A4 he_4)) (o := 0) (m := 2) (by decide) rfl)) rfl rfl ?_
 refine D1 rfl rfl (T8 e_3 e_4) rfl rfl ?_
 refine D2 fun B => ?_
 refine C1 rfl G (fun h15 G => ?_) fun h15 G => ?_
 refine C4 113 177 B ?_
 refine A8 ?_
 refine Ei (rd := [0]) rfl rfl (aE Na (Er he_3) (A4 he_3)) rfl rfl ?_
 refine Ei (rd := [0]) rfl rfl (Qt Ut (H4 Aa.enc_len (Ot (a := (k_1 : Int).toNat) (A4 he_3)) (o := 0) (m := 2) (cs := [.int .i64 e_3.Alg, .int .i64 e_3.Bits]) rfl (by decide) rfl) (Eb Aa.enc_len (Ot (a := (k_1 : Int).toNat) (A4 he_3)) (o := 0) (m := 2) (by decide) rfl)) rfl rfl ?_
 obtain ⟨e_5, he_5, G⟩ := Ac G
 refine A8 ?_
 refine Il Hu he_5 (x' := e_3) ?_
 refine D2 fun B => ?_
 refine Aq (Cm _ _ []) 177 201 B rfl rfl ?_
 refine B4 fun B => ?_
 exact ⟨(W (k_2 + 1), Bi s_2 ((k_2).toNat) e_3), G, A3 [(0, 0)]⟩
 refine C9 ?_
 exact ⟨(k_2, s_2), G, A3 [(0, 0)]⟩
 rintro ⟨k_3, s_3⟩ G
 replace G : Bl.j3 k2_2 k_3 s_3 = some o2 := G
 show Cp _ _ _ _ (mk _ _ _)
 unfold Bl.j3 at G
 refine Aq (Cm _ _ []) 1 25 Bg rfl rfl ?_
 refine B4 fun B => ?_
 obtain rfl := oi_ G
 exact ⟨((k_3, W (k2_2 + 1), s_3), m2), xO _, hn2, A3 [(0, 0)]⟩
 refine F8 ?_
 replace G := B1 G hn2
 refine C4 33 65 B ?_
 refine A8 ?_
 obtain ⟨l_2, hl_2, G⟩ := Ac G
 refine Ei (rd := [0]) rfl rfl (Wo Na Aa.enc_len hl_2) rfl rfl ?_
 obtain ⟨l_3, hl_3, G⟩ := Ac G
 refine Jg (rd := [0]) rfl rfl (mD (f := Aa.enc) (a := (k_2 : Int).toNat) (m := (((s_2.length : Int) : Int).toNat - (k_2 : Int).toNat)) (z0 := (Aa.mk 0 0)) Na Aa.enc_len (tD (ck := [none, none]) oM (.cons .int (.cons .int .nil))) (.head _) hl_3) rfl rfl (fun _ => ⟨_, rfl⟩) ?_
 rintro _ rfl
 refine D2 fun B => ?_
 refine C4 65 97 B ?_
 refine A8 ?_
 obtain ⟨l_4, hl_4, G⟩ := Ac G
 refine Ei (rd := [0]) rfl rfl (fC Na Aa.enc_len hl_4) rfl rfl ?_
 refine B4 fun B => ?_
 refine J6 (σ' := mk [(2, .part 0 (((0 : Int).toNat) * 2) ((k_2 : Int).toNat - (0 : Int).toNat))] [(0, .row 43 2 (As Aa.enc l_3))] 1) (A3 [(0, 0)]) ?_
 refine J6 (σ' := mk [(2, .row 0)] [(0, .row 43 2 (As Aa.enc (l_3.take ((k_2 : Int).toNat - (0 : Int).toNat))))] 1) (wN 2 0 Aa.enc_len (yN (Nat.le_add_left _ _) (jE hl_4)) rfl rfl rfl rfl) ?_
 refine El ?_
 replace G := B1 G hn1
 obtain rfl := oi_ G
 exact Ee [(0, 0)] ⟨rfl, rfl⟩
 refine C9 ?_
 refine Aq (Cm _ _ []) 113 137 B rfl rfl ?_
 refine B4 fun B => ?_
 obtain rfl := oi_ G
 exact ⟨(W (k_1 + 1), m1), xO _, hn1, A3 [(0, 0)]⟩
 refine F8 ?_
 replace G := B1 G hn1
 refine Bt 33 49 B fun B => ?_
 refine El ?_
 obtain rfl := oi_ G
 exact Ee [(0, 0)] ⟨rfl, rfl⟩
theorem U5 (p : (List Ai)) (i : Bv) (r : (List Aa) × Int) (G : Cc p i = some r) : Fn Try.prog 27 0 [.sl 3 (As Ai.enc p), .agg [.sl 2 (As A5.enc i.Sections), .sl 2 (As Bc.enc i.Symbols)]] [] (fun d' b' => d' = .tup [.sl 2 (As Aa.enc r.1), vk r.2] /\ b' = []) := by
 unfold Cc at G
 refine Fn.of Try.func27 rfl rfl rfl fun w0 I ρ0 => ?_
 show Cp _ ⟨w0, I, ρ0, 0, 0, 56⟩ _ _ _
 refine Bt 0 24 Bg fun B => ?_
 refine An <| C4 24 48 B ?_
 refine A8 ?_
 obtain ⟨y, hy, G⟩ := Ac G
 refine Ix (Jx _ _ hy) ?_
 refine B4 fun B => ?_
 refine Bt 48 64 B fun B => ?_
 refine C1 rfl G (fun h4 G => ?_) fun h4 G => ?_
 refine C4 64 88 B ?_
 exact F9
 refine C9 ?_
 refine An <| C4 64 88 B ?_
 refine A8 ?_
 obtain ⟨y_2, hy_2, G⟩ := Ac G
 refine Ix (Pf _ _ hy_2) ?_
 refine B4 fun B => ?_
 refine Bt 88 104 B fun B => ?_
 refine C1 rfl G (fun h8 G => ?_) fun h8 G => ?_
 refine C4 104 128 B ?_
 exact F9
 refine C9 ?_
 refine Bt 104 112 B fun B => ?_
 refine An <| Bt 112 144 B fun B => ?_
 refine Ar <| Gg (fun ((x26_1, out_1) : Int × List Aa) => mk [(0, .sl 3 (As Ai.enc p)), (8, .row 0), (24, .sl 2 (As A5.enc i.Sections)), (25, .val (.int .i64 (i.Sections.length : Int))), (26, vk x26_1)] [(0, .row 43 2 (As Aa.enc out_1))] 1) G (A3 []) ?_
 rintro ⟨x26_1, out_1⟩ m1 o1 G hn1
 replace G : Cc.l1 p i x26_1 out_1 = some o1 := G
 show Cp _ _ _ _ (mk _ _ _)
 unfold Cc.l1 at G
 refine Bt 1 9 Bg fun B => ?_
 refine An <| C1 rfl G (fun h13 G => ?_) fun h13 G => ?_
 refine C9 ?_
 refine An <| Ar <| C4 9 41 B ?_
 obtain ⟨e, he, G⟩ := Ac G
 refine A8 ?_
 refine Xz he ?_
 refine B4 fun B => ?_
 refine C4 41 89 B ?_
 refine A8 ?_
 obtain ⟨y_3, hy_3, G⟩ := Ac G
 refine F6 (rd := []) (ps := []) (gs := []) false rfl (J5 _ _ _ hy_3) rfl rfl (.cons .sl (.cons .sl .nil)) rfl rfl (by intro h; cases h) rfl (by intro h; first | (cases h; done) | exact ⟨_, _, ⟨rfl, rfl⟩, by simp, by simp⟩) ?_
 rintro _ _ ⟨rfl, rfl⟩
 refine B4 fun B => ?_
 refine Ar <| Gg (fun ((x35_2, out_2) : Int × List Aa) => mk [(0, .sl 3 (As Ai.enc p)), (8, .row 0), (24, .sl 2 (As A5.enc i.Sections)), (25, .val (.int .i64 (i.Sections.length : Int))), (26, vk x26_1), (33, .row 1), (34, .val (.int .i64 (y_3.length : Int))), (35, vk x35_2)] [(0, .row 43 2 (As Aa.enc out_2)), (1, .row 3 1 (As eI y_3))] 2) G (A3 [(0, 0), (1, 65)]) ?_
 rintro ⟨x35_2, out_2⟩ m2 o2 G hn2
 replace G : Cc.l2 p x26_1 y_3 x35_2 out_2 = some o2 := G
 show Cp _ _ _ _ (mk _ _ _)
 unfold Cc.l2 at G
 refine Bt 2 10 Bg fun B => ?_
 refine An <| C1 rfl G (fun h17 G => ?_) fun h17 G => ?_
 refine C9 ?_
 refine By (ι := List Aa) (fun (out_3 : List Aa) => mk [(0, .sl 3 (As Ai.enc p)), (8, .row 0), (24, .sl 2 (As A5.enc i.Sections)), (25, .val (.int .i64 (i.Sections.length : Int))), (26, vk x26_1), (33, .row 1), (34, .val (.int .i64 (y_3.length : Int))), (35, vk x35_2)] [(0, .row 43 2 (As Aa.enc out_3)), (1, .row 3 1 (As eI y_3))] 2) (fun (out_3 : List Aa) => Cc.j3 x35_2 out_3 = some o2) ?_ ?_
 refine Ar <| C4 10 50 B ?_
 refine A8 ?_
 obtain ⟨e_2, he_2, G⟩ := Ac G
 refine A8 ?_
 refine Ei (rd := [1]) rfl rfl (.loadR1 Yr (C8 Lg (A4 he_2) (o := 0) (c := .int .i64 e_2) rfl rfl)) rfl rfl ?_
 refine B4 fun B => ?_
 refine Bt 50 66 B fun B => ?_
 refine C1 rfl G (fun h20 G => ?_) fun h20 G => ?_
 refine Aq (Cm _ _ []) 66 138 B rfl rfl ?_
 refine A8 ?_
 obtain ⟨e_3, he_3, G⟩ := Ac G
 refine A8 ?_
 refine D1 rfl rfl (Dz Xm Ut (by decide) (Eu Ai.enc_len (A4 he_3) (o := 0) (by decide) rfl)) rfl rfl ?_
 refine D1 rfl rfl (Qj Ut (H4 Ai.enc_len (A4 he_3) (o := 0) (m := 2) (cs := [.int .i64 e_3.Use.Alg, .int .i64 e_3.Use.Bits]) rfl (by decide) rfl) (Eb Ai.enc_len (A4 he_3) (o := 0) (m := 2) (by decide) rfl)) rfl rfl ?_
 refine Ik Na oM Hu ([e_3.Use] : List Aa) Aa.enc ?_
 obtain ⟨l, hl, G⟩ := Ac G
 refine Ei (rd := [0, 114]) rfl rfl (Fu Na Aa.enc_len .row rfl .row rfl hl rfl) rfl rfl ?_
 refine B4 fun B => ?_
 exact ⟨l, G, A3 [(0, 122), (1, 1)]⟩
 refine C9 ?_
 exact ⟨out_2, G, A3 [(0, 0), (1, 1)]⟩
 rintro out_3 G
 replace G : Cc.j3 x35_2 out_3 = some o2 := G
 show Cp _ _ _ _ (mk _ _ _)
 unfold Cc.j3 at G
 refine Aq (Cm _ _ []) 2 18 Bg rfl rfl ?_
 refine B4 fun B => ?_
 obtain rfl := oi_ G
 exact ⟨((W (x35_2 + 1), out_3), m2), xO _, hn2, A3 [(0, 0), (1, 1)]⟩
 refine F8 ?_
 replace G := B1 G hn2
 refine Aq (Cm _ _ []) 10 26 B rfl rfl ?_
 refine B4 fun B => ?_
 obtain rfl := oi_ G
 exact ⟨((W (x26_1 + 1), out_2), m1), xO _, hn1, A3 [(0, 0)]⟩
 refine F8 ?_
 replace G := B1 G hn1
 refine C4 9 25 B ?_
 refine A8 ?_
 obtain ⟨y_4, hy_4, G⟩ := Ac G
 refine G7 [0] [0] [] false (Ih out_1 (fun x0 x1 => Gb x0 x1) (fun x0 x1 y h => Uu x0 x1 y h) _ hy_4) ?_
 refine D2 fun B => ?_
 refine C4 25 57 B ?_
 refine A8 ?_
 obtain ⟨y_5, hy_5, G⟩ := Ac G
 refine F6 (rd := [0]) (ps := []) (gs := [0]) false rfl (Jy _ _ hy_5) rfl rfl (.cons (.rowK rfl) .nil) ⟨_, _, _, rfl, .head _, rfl, rfl⟩ rfl (by intro h; cases h) rfl (by intro h; first | (cases h; done) | exact ⟨_, _, ⟨rfl, rfl⟩, by simp, by simp⟩) ?_
 rintro _ _ ⟨rfl, rfl⟩
 exact F9
theorem Pv (s : ByteArray) (r : Bool) (G : Co s = some r) : Fn Try.prog 61 0 [wj s] [] (fun d' b' => d' = .val (.bool r) /\ b' = []) := by
 unfold Co at G
 refine Fn.of Try.func61 rfl rfl rfl fun w0 I ρ0 => ?_
 show Cp _ ⟨w0, I, ρ0, 0, 0, 28⟩ _ _ _
 refine Bt 0 8 Bg fun B => ?_
 refine An <| By (ι := Bool) (fun (x11_1 : Bool) => mk [(0, wj s), (11, .val (.bool x11_1))] [] 0) (fun (x11_1 : Bool) => Co.j1 s x11_1 = some r) ?_ ?_
 refine Aq (Cm _ _ []) 8 72 B rfl rfl ?_
 refine A8 ?_
 refine D1 rfl rfl (Nq Pd) rfl rfl ?_
 refine A8 ?_
 rcases If G with ⟨h2, G⟩ | ⟨h2, G⟩
 refine B4 fun B => ?_
 exact ⟨true, G, A3 []⟩
 refine A8 ?_
 refine D1 (Et rfl rfl h2) rfl (Nq Pd) rfl rfl ?_
 refine B4 fun B => ?_
 exact ⟨decide (32 < (s.size : Int)), G, A3 []⟩
 rintro x11_1 G
 replace G : Co.j1 s x11_1 = some r := G
 show Cp _ _ _ _ (mk _ _ _)
 unfold Co.j1 at G
 refine C1 rfl G (fun h5 G => ?_) fun h5 G => ?_
 refine C4 0 8 Bg ?_
 exact F9
 refine C9 ?_
 refine An <| Bt 0 8 Bg fun B => ?_
 refine Ar <| Gg (fun (i_2 : Int) => mk [(0, wj s), (3, vk i_2)] [] 0) G (A3 []) ?_
 rintro i_2 m2 o2 G hn2
 replace G : Co.l2 s i_2 = some o2 := G
 show Cp _ _ _ _ (mk _ _ _)
 unfold Co.l2 at G
 refine An <| C4 0 32 Bg ?_
 refine A8 ?_
 refine D1 rfl rfl (Nq Pd) rfl rfl ?_
 refine B4 fun B => ?_
 refine C1 rfl G (fun h9 G => ?_) fun h9 G => ?_
 refine C9 ?_
 refine An <| Ar <| By (ι := Bool) (fun (x27_3 : Bool) => mk [(0, wj s), (3, vk i_2), (27, .val (.bool x27_3))] [] 0) (fun (x27_3 : Bool) => Co.j3 i_2 x27_3 = some o2) ?_ ?_
 refine Aq (Cm _ _ []) 32 112 B rfl rfl ?_
 refine A8 ?_
 obtain ⟨c, hc, G⟩ := Ac G
 refine D1 rfl rfl (aN Pd hc) rfl rfl ?_
 refine A8 ?_
 rcases If G with ⟨h10, G⟩ | ⟨h10, G⟩
 refine B4 fun B => ?_
 exact ⟨true, G, A3 []⟩
 refine A8 ?_
 obtain ⟨c_2, hc_2, G⟩ := Ac G
 refine D1 (Et rfl rfl h10) rfl (aN Pd hc_2) rfl rfl ?_
 refine B4 fun B => ?_
 exact ⟨decide (126 < (c_2.toNat : Int)), G, A3 []⟩
 rintro x27_3 G
 replace G : Co.j3 i_2 x27_3 = some o2 := G
 show Cp _ _ _ _ (mk _ _ _)
 unfold Co.j3 at G
 refine C1 rfl G (fun h13 G => ?_) fun h13 G => ?_
 refine Bt 0 8 Bg fun B => ?_
 refine El ?_
 replace G := B1 G hn2
 exact Xl
 refine C9 ?_
 refine Aq (Cm _ _ []) 0 24 Bg rfl rfl ?_
 refine B4 fun B => ?_
 obtain rfl := oi_ G
 exact ⟨(W (i_2 + 1), m2), xO _, hn2, A3 []⟩
 refine F8 ?_
 replace G := B1 G hn2
 refine Bt 32 40 B fun B => ?_
 exact Nv
end Go.Proofs.Ytfkgbfhpibiheaa
