import Derived.Test.YtfkgbfhpibiheaaT1
import Derived.Test.YtfkgbfhpibiheaaA1
import Derived.Test.YtfkgbfhpibiheaaA2
set_option linter.unusedVariables false
set_option linter.unusedSimpArgs false
set_option maxRecDepth 100000
set_option maxHeartbeats 1600000
namespace Go.Proofs.Ytfkgbfhpibiheaa
open Go.RowKit
theorem Gj (data : List Ab) (a : Int) (b : Int) (pivot : Int) (cmp : Ab -> Ab -> Option (Int)) (hf_cmp : ∀ (x0 : Ab) (x1 : Ab) (y : Int), cmp x0 x1 = some y -> Fn Try.prog 34 0 [.agg [vk x0.Pattern, vk x0.At], .agg [vk x1.Pattern, vk x1.At]] [] (fun d' b' => d' = vk y /\ b' = [])) (r : Int × (List Ab)) (G : Ap data a b pivot cmp = some r) : Fn Try.prog 69 1 [.row 0, vk a, vk b, vk pivot, .clo 34 0 []] [.row 47 2 (As Ab.enc data)] (fun d' b' => d' = vk r.1 /\ b' = [.row 47 2 (As Ab.enc r.2)]) := by
 unfold Ap at G
 refine Fn.of Try.func69 rfl rfl rfl fun w0 I ρ0 => ?_
 show Cp _ ⟨w0, I, ρ0, 1, 1, 90⟩ _ _ _
 refine Bt 1 9 Bg fun B => ?_
 refine An <| Br (Cm _ _ []) (by kernel_rfl) [0, 0, 0, 0, 0, 0, 48, 112, 0, 0, 768, 1792, 4083, 8179, 16383, 32767] 9 137 B rfl rfl (by kernel_rfl) ?_
 refine A8 ?_
 obtain ⟨e, he, G⟩ := Ac G
 refine A8 ?_
 refine Fj he ?_
 refine A8 ?_
 obtain ⟨e_2, he_2, G⟩ := Ac G
 refine A8 ?_
 refine Fj he_2 ?_
 refine A8 ?_
 refine Il Ic he_2 (x' := e) ?_
 obtain ⟨e_3, he_3, G⟩ := Ac G
 refine A8 ?_
 refine Il Ic he_3 (x' := e_2) ?_
 refine D2 fun B => ?_
 refine Bt 137 185 B fun B => ?_
 refine An <| Ar <| Gg (fun ((i_1, j_1, data_1) : Int × Int × List Ab) => mk [(0, .row 0), (1, vk a), (4, .clo 34 0 []), (11, vk i_1), (12, vk j_1)] [(0, .row 47 2 (As Ab.enc data_1))] 1) G (A3 [(0, 0)]) ?_
 rintro ⟨i_1, j_1, data_1⟩ m1 o1 G hn1
 replace G : Ap.l1 a cmp i_1 j_1 data_1 = some o1 := G
 show Cp _ _ _ _ (mk _ _ _)
 unfold Ap.l1 at G
 refine Ar <| An <| Ar <| Gg (fun (i_2 : Int) => mk [(0, .row 0), (1, vk a), (4, .clo 34 0 []), (11, vk i_2), (12, vk j_1)] [(0, .row 47 2 (As Ab.enc data_1))] 1) G (A3 [(0, 0)]) ?_
 rintro i_2 m2 o2 G hn2
 replace G : Ap.l2 a cmp j_1 data_1 i_2 = some o2 := G
 show Cp _ _ _ _ (mk _ _ _)
 unfold Ap.l2 at G
 refine An <| By (ι := Bool) (fun (x47_3 : Bool) => mk [(0, .row 0), (1, vk a), (4, .clo 34 0 []), (11, vk i_2), (12, vk j_1), (47, .val (.bool x47_3))] [(0, .row 47 2 (As Ab.enc data_1))] 1) (fun (x47_3 : Bool) => Ap.j3 a cmp j_1 data_1 i_2 x47_3 = some o2) ?_ ?_
 refine Br (Cm _ _ []) (by kernel_rfl) [0, 0, 3, 7, 15, 15, 15, 111, 239, 15, 15, 1551, 3599, 8191, 16383, 32767, 65535] 1 137 Bg rfl rfl (by kernel_rfl) ?_
 refine A8 ?_
 rcases If G with ⟨h4, G⟩ | ⟨h4, G⟩
 refine A8 ?_
 obtain ⟨e_4, he_4, G⟩ := Ac G
 refine A8 ?_
 refine Fj he_4 ?_
 refine A8 ?_
 obtain ⟨e_5, he_5, G⟩ := Ac G
 refine A8 ?_
 refine Fj he_5 ?_
 obtain ⟨y, hy, G⟩ := Ac G
 refine Dm (rd := []) (ps := []) (gs := []) false (Et rfl rfl h4) rfl (hf_cmp e_4 e_5 _ hy) rfl rfl (.cons (.agg (.cons .val (.cons .val .nil))) (.cons (.agg (.cons .val (.cons .val .nil))) .nil)) rfl rfl (by intro h; cases h) rfl rfl rfl rfl ?_
 refine B4 fun B => ?_
 exact ⟨!(decide (y < 0)), G, A3 [(0, 0)]⟩
 refine B4 fun B => ?_
 exact ⟨false, G, A3 [(0, 0)]⟩
 rintro x47_3 G
 replace G : Ap.j3 a cmp j_1 data_1 i_2 x47_3 = some o2 := G
 show Cp _ _ _ _ (mk _ _ _)
 unfold Ap.j3 at G
 refine C1 rfl G (fun h7 G => ?_) fun h7 G => ?_
 refine C9 ?_
 refine Ar <| Aq (Cm _ _ []) 1 25 Bg rfl rfl ?_
 refine B4 fun B => ?_
 obtain rfl := oi_ G
 exact ⟨(W (i_2 + 1), m2), xO _, hn2, A3 [(0, 0)]⟩
 refine F8 ?_
 replace G := B1 G hn2
 refine An <| Ar <| Gg (fun (j_4 : Int) => mk [(0, .row 0), (1, vk a), (4, .clo 34 0 []), (11, vk i_2), (12, vk j_4)] [(0, .row 47 2 (As Ab.enc data_1))] 1) G (A3 [(0, 0)]) ?_
 rintro j_4 m4 o4 G hn4
 replace G : Ap.l4 a cmp data_1 i_2 j_4 = some o4 := G
 show Cp _ _ _ _ (mk _ _ _)
 unfold Ap.l4 at G
 refine An <| By (ι := Bool) (fun (x65_5 : Bool) => mk [(0, .row 0), (1, vk a), (4, .clo 34 0 []), (11, vk i_2), (12, vk j_4), (65, .val (.bool x65_5))] [(0, .row 47 2 (As Ab.enc data_1))] 1) (fun (x65_5 : Bool) => Ap.j5 data_1 i_2 j_4 x65_5 = some o4) ?_ ?_
 refine Br (Cm _ _ []) (by kernel_rfl) [0, 0, 3, 7, 15, 15, 15, 111, 239, 15, 15, 1551, 3599, 8191, 16383, 32767] 1 129 Bg rfl rfl (by kernel_rfl) ?_
 refine A8 ?_
 rcases If G with ⟨h9, G⟩ | ⟨h9, G⟩
 refine A8 ?_
 obtain ⟨e_6, he_6, G⟩ := Ac G
 refine A8 ?_
 refine Fj he_6 ?_
 refine A8 ?_
 obtain ⟨e_7, he_7, G⟩ := Ac G
 refine A8 ?_
 refine Fj he_7 ?_
 obtain ⟨y_2, hy_2, G⟩ := Ac G
 refine Dm (rd := []) (ps := []) (gs := []) false (Et rfl rfl h9) rfl (hf_cmp e_6 e_7 _ hy_2) rfl rfl (.cons (.agg (.cons .val (.cons .val .nil))) (.cons (.agg (.cons .val (.cons .val .nil))) .nil)) rfl rfl (by intro h; cases h) rfl rfl rfl rfl ?_
 refine B4 fun B => ?_
 exact ⟨decide (y_2 < 0), G, A3 [(0, 0)]⟩
 refine B4 fun B => ?_
 exact ⟨false, G, A3 [(0, 0)]⟩
 rintro x65_5 G
 replace G : Ap.j5 data_1 i_2 j_4 x65_5 = some o4 := G
 show Cp _ _ _ _ (mk _ _ _)
 unfold Ap.j5 at G
 refine C1 rfl G (fun h12 G => ?_) fun h12 G => ?_
 refine C9 ?_
 refine Ar <| Aq (Cm _ _ []) 1 25 Bg rfl rfl ?_
 refine B4 fun B => ?_
 obtain rfl := oi_ G
 exact ⟨(W (j_4 - 1), m4), xO _, hn4, A3 [(0, 0)]⟩
 refine F8 ?_
 replace G := B1 G hn4
 refine An <| Bt 1 25 Bg fun B => ?_
 refine C1 rfl G (fun h15 G => ?_) fun h15 G => ?_
 refine F8 ?_
 replace G := B1 G hn1
 refine Bt 25 41 B fun B => ?_
 refine El ?_
 obtain rfl := oi_ G
 exact Ee [(0, 0)] ⟨rfl, rfl⟩
 refine C9 ?_
 refine An <| Br (Cm _ _ []) (by kernel_rfl) [0, 0, 0, 0, 0, 0, 48, 112, 0, 0, 768, 1792, 4083, 8179, 16383, 32767] 25 153 B rfl rfl (by kernel_rfl) ?_
 refine A8 ?_
 obtain ⟨e_8, he_8, G⟩ := Ac G
 refine A8 ?_
 refine Fj he_8 ?_
 refine A8 ?_
 obtain ⟨e_9, he_9, G⟩ := Ac G
 refine A8 ?_
 refine Fj he_9 ?_
 refine A8 ?_
 refine Il Ic he_9 (x' := e_8) ?_
 obtain ⟨e_10, he_10, G⟩ := Ac G
 refine A8 ?_
 refine Il Ic he_10 (x' := e_9) ?_
 refine D2 fun B => ?_
 refine Bt 153 177 B fun B => ?_
 refine Aq (Cm _ _ []) 177 201 B rfl rfl ?_
 refine B4 fun B => ?_
 obtain rfl := oi_ G
 exact ⟨((W (i_2 + 1), W (j_4 - 1), Bi (Bi data_1 ((i_2).toNat) e_8) ((j_4).toNat) e_9), m1), xO _, hn1, A3 [(0, 0)]⟩
theorem G3 (data : List Ab) (a : Int) (b : Int) (pivot : Int) (cmp : Ab -> Ab -> Option (Int)) (hf_cmp : ∀ (x0 : Ab) (x1 : Ab) (y : Int), cmp x0 x1 = some y -> Fn Try.prog 34 0 [.agg [vk x0.Pattern, vk x0.At], .agg [vk x1.Pattern, vk x1.At]] [] (fun d' b' => d' = vk y /\ b' = [])) (r : Int × Bool × (List Ab)) (G : Ah data a b pivot cmp = some r) : Fn Try.prog 70 1 [.row 0, vk a, vk b, vk pivot, .clo 34 0 []] [.row 47 2 (As Ab.enc data)] (fun d' b' => d' = .tup [vk r.1, .val (.bool r.2.1)] /\ b' = [.row 47 2 (As Ab.enc r.2.2)]) := by
 unfold Ah at G
 refine Fn.of Try.func70 rfl rfl rfl fun w0 I ρ0 => ?_
 show Cp _ ⟨w0, I, ρ0, 1, 1, 178⟩ _ _ _
 refine Bt 1 17 Bg fun B => ?_
 refine An <| Br (Cm _ _ []) (by kernel_rfl) [0, 0, 0, 0, 0, 0, 48, 112, 0, 0, 768, 1792, 4083, 8179, 16383, 32767] 17 145 B rfl rfl (by kernel_rfl) ?_
 refine A8 ?_
 obtain ⟨e, he, G⟩ := Ac G
 refine A8 ?_
 refine Fj he ?_
 refine A8 ?_
 obtain ⟨e_2, he_2, G⟩ := Ac G
 refine A8 ?_
 refine Fj he_2 ?_
 refine A8 ?_
 refine Il Ic he_2 (x' := e) ?_
 obtain ⟨e_3, he_3, G⟩ := Ac G
 refine A8 ?_
 refine Il Ic he_3 (x' := e_2) ?_
 refine D2 fun B => ?_
 refine Bt 145 193 B fun B => ?_
 refine An <| Ar <| Gg (fun (i_1 : Int) => mk [(0, .row 0), (1, vk a), (4, .clo 34 0 []), (12, vk i_1), (13, .val (.int .i64 (W (b - 1))))] [(0, .row 47 2 (As Ab.enc (Bi (Bi data ((a).toNat) e) ((pivot).toNat) e_2)))] 1) G (A3 [(0, 0)]) ?_
 rintro i_1 m1 o1 G hn1
 replace G : Ah.l1 data a b pivot cmp e e_2 i_1 = some o1 := G
 show Cp _ _ _ _ (mk _ _ _)
 unfold Ah.l1 at G
 refine An <| By (ι := Bool) (fun (x47_2 : Bool) => mk [(0, .row 0), (1, vk a), (4, .clo 34 0 []), (12, vk i_1), (13, .val (.int .i64 (W (b - 1)))), (47, .val (.bool x47_2))] [(0, .row 47 2 (As Ab.enc (Bi (Bi data ((a).toNat) e) ((pivot).toNat) e_2)))] 1) (fun (x47_2 : Bool) => Ah.j2 data a b pivot cmp e e_2 i_1 x47_2 = some o1) ?_ ?_
 refine Br (Cm _ _ []) (by kernel_rfl) [0, 0, 3, 7, 15, 15, 15, 111, 239, 15, 15, 1551, 3599, 8191, 16383, 32767] 1 129 Bg rfl rfl (by kernel_rfl) ?_
 refine A8 ?_
 rcases If G with ⟨h4, G⟩ | ⟨h4, G⟩
 refine A8 ?_
 obtain ⟨e_4, he_4, G⟩ := Ac G
 refine A8 ?_
 refine Fj he_4 ?_
 refine A8 ?_
 obtain ⟨e_5, he_5, G⟩ := Ac G
 refine A8 ?_
 refine Fj he_5 ?_
 obtain ⟨y, hy, G⟩ := Ac G
 refine Dm (rd := []) (ps := []) (gs := []) false (Et rfl rfl h4) rfl (hf_cmp e_4 e_5 _ hy) rfl rfl (.cons (.agg (.cons .val (.cons .val .nil))) (.cons (.agg (.cons .val (.cons .val .nil))) .nil)) rfl rfl (by intro h; cases h) rfl rfl rfl rfl ?_
 refine B4 fun B => ?_
 exact ⟨decide (y < 0), G, A3 [(0, 0)]⟩
 refine B4 fun B => ?_
 exact ⟨false, G, A3 [(0, 0)]⟩
 rintro x47_2 G
 replace G : Ah.j2 data a b pivot cmp e e_2 i_1 x47_2 = some o1 := G
 show Cp _ _ _ _ (mk _ _ _)
 unfold Ah.j2 at G
 refine C1 rfl G (fun h7 G => ?_) fun h7 G => ?_
 refine C9 ?_
 refine Ar <| Aq (Cm _ _ []) 1 25 Bg rfl rfl ?_
 refine B4 fun B => ?_
 obtain rfl := oi_ G
 exact ⟨(W (i_1 + 1), m1), xO _, hn1, A3 [(0, 0)]⟩
 refine F8 ?_
 replace G := B1 G hn1
 refine An <| Ar <| Gg (fun (j_3 : Int) => mk [(0, .row 0), (1, vk a), (4, .clo 34 0 []), (12, vk i_1), (13, vk j_3)] [(0, .row 47 2 (As Ab.enc (Bi (Bi data ((a).toNat) e) ((pivot).toNat) e_2)))] 1) G (A3 [(0, 0)]) ?_
 rintro j_3 m3 o3 G hn3
 replace G : Ah.l3 data a pivot cmp e e_2 i_1 j_3 = some o3 := G
 show Cp _ _ _ _ (mk _ _ _)
 unfold Ah.l3 at G
 refine An <| By (ι := Bool) (fun (x66_4 : Bool) => mk [(0, .row 0), (1, vk a), (4, .clo 34 0 []), (12, vk i_1), (13, vk j_3), (66, .val (.bool x66_4))] [(0, .row 47 2 (As Ab.enc (Bi (Bi data ((a).toNat) e) ((pivot).toNat) e_2)))] 1) (fun (x66_4 : Bool) => Ah.j4 data a pivot cmp e e_2 i_1 j_3 x66_4 = some o3) ?_ ?_
 refine Br (Cm _ _ []) (by kernel_rfl) [0, 0, 3, 7, 15, 15, 15, 111, 239, 15, 15, 1551, 3599, 8191, 16383, 32767, 65535] 1 137 Bg rfl rfl (by kernel_rfl) ?_
 refine A8 ?_
 rcases If G with ⟨h9, G⟩ | ⟨h9, G⟩
 refine A8 ?_
 obtain ⟨e_6, he_6, G⟩ := Ac G
 refine A8 ?_
 refine Fj he_6 ?_
 refine A8 ?_
 obtain ⟨e_7, he_7, G⟩ := Ac G
 refine A8 ?_
 refine Fj he_7 ?_
 obtain ⟨y_2, hy_2, G⟩ := Ac G
 refine Dm (rd := []) (ps := []) (gs := []) false (Et rfl rfl h9) rfl (hf_cmp e_6 e_7 _ hy_2) rfl rfl (.cons (.agg (.cons .val (.cons .val .nil))) (.cons (.agg (.cons .val (.cons .val .nil))) .nil)) rfl rfl (by intro h; cases h) rfl rfl rfl rfl ?_
 refine B4 fun B => ?_
 exact ⟨!(decide (y_2 < 0)), G, A3 [(0, 0)]⟩
 refine B4 fun B => ?_
 exact ⟨false, G, A3 [(0, 0)]⟩
 rintro x66_4 G
 replace G : Ah.j4 data a pivot cmp e e_2 i_1 j_3 x66_4 = some o3 := G
 show Cp _ _ _ _ (mk _ _ _)
 unfold Ah.j4 at G
 refine C1 rfl G (fun h12 G => ?_) fun h12 G => ?_
 refine C9 ?_
 refine Ar <| Aq (Cm _ _ []) 1 25 Bg rfl rfl ?_
 refine B4 fun B => ?_
 obtain rfl := oi_ G
 exact ⟨(W (j_3 - 1), m3), xO _, hn3, A3 [(0, 0)]⟩
 refine F8 ?_
 replace G := B1 G hn3
 refine An <| Bt 1 25 Bg fun B => ?_
 refine C1 rfl G (fun h15 G => ?_) fun h15 G => ?_
 refine An <| Br (Cm _ _ []) (by kernel_rfl) [0, 0, 0, 0, 0, 0, 48, 112, 0, 0, 768, 1792, 4083, 8179, 16383, 32767] 25 153 B rfl rfl (by kernel_rfl) ?_
 refine A8 ?_
 obtain ⟨e_8, he_8, G⟩ := Ac G
 refine A8 ?_
 refine Fj he_8 ?_
 refine A8 ?_
 obtain ⟨e_9, he_9, G⟩ := Ac G
 refine A8 ?_
 refine Fj he_9 ?_
 refine A8 ?_
 refine Il Ic he_9 (x' := e_8) ?_
 obtain ⟨e_10, he_10, G⟩ := Ac G
 refine A8 ?_
 refine Il Ic he_10 (x' := e_9) ?_
 refine D2 fun B => ?_
 refine Bt 153 177 B fun B => ?_
 refine El ?_
 obtain rfl := oi_ G
 exact Ee [(0, 0)] ⟨rfl, rfl⟩
 refine C9 ?_
 refine An <| Br (Cm _ _ []) (by kernel_rfl) [0, 0, 0, 0, 0, 0, 48, 112, 0, 0, 768, 1792, 4083, 8179, 16383, 32767] 25 153 B rfl rfl (by kernel_rfl) ?_
 refine A8 ?_
 obtain ⟨e_11, he_11, G⟩ := Ac G
 refine A8 ?_
 refine Fj he_11 ?_
 refine A8 ?_
 obtain ⟨e_12, he_12, G⟩ := Ac G
 refine A8 ?_
 refine Fj he_12 ?_
 refine A8 ?_
 refine Il Ic he_12 (x' := e_11) ?_
 obtain ⟨e_13, he_13, G⟩ := Ac G
 refine A8 ?_
 refine Il Ic he_13 (x' := e_12) ?_
 refine D2 fun B => ?_
 refine Bt 153 177 B fun B => ?_
 refine Bt 177 201 B fun B => ?_
 refine An <| Ar <| Gg (fun ((i_5, j_5, data_5) : Int × Int × List Ab) => mk [(0, .row 0), (1, vk a), (4, .clo 34 0 []), (12, vk i_5), (13, vk j_5)] [(0, .row 47 2 (As Ab.enc data_5))] 1) G (A3 [(0, 0)]) ?_
 rintro ⟨i_5, j_5, data_5⟩ m5 o5 G hn5
 replace G : Ah.l5 a cmp i_5 j_5 data_5 = some o5 := G
 show Cp _ _ _ _ (mk _ _ _)
 unfold Ah.l5 at G
 refine Ar <| An <| Ar <| Gg (fun (i_6 : Int) => mk [(0, .row 0), (1, vk a), (4, .clo 34 0 []), (12, vk i_6), (13, vk j_5)] [(0, .row 47 2 (As Ab.enc data_5))] 1) G (A3 [(0, 0)]) ?_
 rintro i_6 m6 o6 G hn6
 replace G : Ah.l6 a cmp j_5 data_5 i_6 = some o6 := G
 show Cp _ _ _ _ (mk _ _ _)
 unfold Ah.l6 at G
 refine An <| By (ι := Bool) (fun (x120_7 : Bool) => mk [(0, .row 0), (1, vk a), (4, .clo 34 0 []), (12, vk i_6), (13, vk j_5), (120, .val (.bool x120_7))] [(0, .row 47 2 (As Ab.enc data_5))] 1) (fun (x120_7 : Bool) => Ah.j7 a cmp j_5 data_5 i_6 x120_7 = some o6) ?_ ?_
 refine Br (Cm _ _ []) (by kernel_rfl) [0, 0, 3, 7, 15, 15, 15, 111, 239, 15, 15, 1551, 3599, 8191, 16383, 32767] 1 129 Bg rfl rfl (by kernel_rfl) ?_
 refine A8 ?_
 rcases If G with ⟨h21, G⟩ | ⟨h21, G⟩
 refine A8 ?_
 obtain ⟨e_14, he_14, G⟩ := Ac G
 refine A8 ?_
 refine Fj he_14 ?_
 refine A8 ?_
 obtain ⟨e_15, he_15, G⟩ := Ac G
 refine A8 ?_
 refine Fj he_15 ?_
 obtain ⟨y_3, hy_3, G⟩ := Ac G
 refine Dm (rd := []) (ps := []) (gs := []) false (Et rfl rfl h21) rfl (hf_cmp e_14 e_15 _ hy_3) rfl rfl (.cons (.agg (.cons .val (.cons .val .nil))) (.cons (.agg (.cons .val (.cons .val .nil))) .nil)) rfl rfl (by intro h; cases h) rfl rfl rfl rfl ?_
 refine B4 fun B => ?_
 exact ⟨decide (y_3 < 0), G, A3 [(0, 0)]⟩
 refine B4 fun B => ?_
 exact ⟨false, G, A3 [(0, 0)]⟩
 rintro x120_7 G
 replace G : Ah.j7 a cmp j_5 data_5 i_6 x120_7 = some o6 := G
 show Cp _ _ _ _ (mk _ _ _)
 unfold Ah.j7 at G
 refine C1 rfl G (fun h24 G => ?_) fun h24 G => ?_
 refine C9 ?_
 refine Ar <| Aq (Cm _ _ []) 1 25 Bg rfl rfl ?_
 refine B4 fun B => ?_
 obtain rfl := oi_ G
 exact ⟨(W (i_6 + 1), m6), xO _, hn6, A3 [(0, 0)]⟩
 refine F8 ?_
 replace G := B1 G hn6
 refine An <| Ar <| Gg (fun (j_8 : Int) => mk [(0, .row 0), (1, vk a), (4, .clo 34 0 []), (12, vk i_6), (13, vk j_8)] [(0, .row 47 2 (As Ab.enc data_5))] 1) G (A3 [(0, 0)]) ?_
 rintro j_8 m8 o8 G hn8
 replace G : Ah.l8 a cmp data_5 i_6 j_8 = some o8 := G
 show Cp _ _ _ _ (mk _ _ _)
 unfold Ah.l8 at G
 refine An <| By (ι := Bool) (fun (x139_9 : Bool) => mk [(0, .row 0), (1, vk a), (4, .clo 34 0 []), (12, vk i_6), (13, vk j_8), (139, .val (.bool x139_9))] [(0, .row 47 2 (As Ab.enc data_5))] 1) (fun (x139_9 : Bool) => Ah.j9 a data_5 i_6 j_8 x139_9 = some o8) ?_ ?_
 refine Br (Cm _ _ []) (by kernel_rfl) [0, 0, 3, 7, 15, 15, 15, 111, 239, 15, 15, 1551, 3599, 8191, 16383, 32767, 65535] 1 137 Bg rfl rfl (by kernel_rfl) ?_
 refine A8 ?_
 rcases If G with ⟨h26, G⟩ | ⟨h26, G⟩
 refine A8 ?_
 obtain ⟨e_16, he_16, G⟩ := Ac G
 refine A8 ?_
 refine Fj he_16 ?_
 refine A8 ?_
 obtain ⟨e_17, he_17, G⟩ := Ac G
 refine A8 ?_
 refine Fj he_17 ?_
 obtain ⟨y_4, hy_4, G⟩ := Ac G
 refine Dm (rd := []) (ps := []) (gs := []) false (Et rfl rfl h26) rfl (hf_cmp e_16 e_17 _ hy_4) rfl rfl (.cons (.agg (.cons .val (.cons .val .nil))) (.cons (.agg (.cons .val (.cons .val .nil))) .nil)) rfl rfl (by intro h; cases h) rfl rfl rfl rfl ?_
 refine B4 fun B => ?_
 exact ⟨!(decide (y_4 < 0)), G, A3 [(0, 0)]⟩
 refine B4 fun B => ?_
 exact ⟨false, G, A3 [(0, 0)]⟩
 rintro x139_9 G
 replace G : Ah.j9 a data_5 i_6 j_8 x139_9 = some o8 := G
 show Cp _ _ _ _ (mk _ _ _)
 unfold Ah.j9 at G
 refine C1 rfl G (fun h29 G => ?_) fun h29 G => ?_
 refine C9 ?_
 refine Ar <| Aq (Cm _ _ []) 1 25 Bg rfl rfl ?_
 refine B4 fun B => ?_
 obtain rfl := oi_ G
 exact ⟨(W (j_8 - 1), m8), xO _, hn8, A3 [(0, 0)]⟩
 refine F8 ?_
 replace G := B1 G hn8
 refine An <| Bt 1 25 Bg fun B => ?_
 refine C1 rfl G (fun h32 G => ?_) fun h32 G => ?_
 refine F8 ?_
 replace G := B1 G hn5
 refine An <| Br (Cm _ _ []) (by kernel_rfl) [0, 0, 0, 0, 0, 0, 48, 112, 0, 0, 768, 1792, 4083, 8179, 16383, 32767] 25 153 B rfl rfl (by kernel_rfl) ?_
 refine A8 ?_
 obtain ⟨e_21, he_21, G⟩ := Ac G
 refine A8 ?_
 refine Fj he_21 ?_
 refine A8 ?_
 obtain ⟨e_22, he_22, G⟩ := Ac G
 refine A8 ?_
 refine Fj he_22 ?_
 refine A8 ?_
 refine Il Ic he_22 (x' := e_21) ?_
 obtain ⟨e_23, he_23, G⟩ := Ac G
 refine A8 ?_
 refine Il Ic he_23 (x' := e_22) ?_
 refine D2 fun B => ?_
 refine Bt 153 177 B fun B => ?_
 refine El ?_
 obtain rfl := oi_ G
 exact Ee [(0, 0)] ⟨rfl, rfl⟩
 refine C9 ?_
 refine An <| Br (Cm _ _ []) (by kernel_rfl) [0, 0, 0, 0, 0, 0, 48, 112, 0, 0, 768, 1792, 4083, 8179, 16383, 32767] 25 153 B rfl rfl (by kernel_rfl) ?_
 refine A8 ?_
 obtain ⟨e_18, he_18, G⟩ := Ac G
 refine A8 ?_
 refine Fj he_18 ?_
 refine A8 ?_
 obtain ⟨e_19, he_19, G⟩ := Ac G
 refine A8 ?_
 refine Fj he_19 ?_
 refine A8 ?_
 refine Il Ic he_19 (x' := e_18) ?_
 obtain ⟨e_20, he_20, G⟩ := Ac G
 refine A8 ?_
 refine Il Ic he_20 (x' := e_19) ?_
 refine D2 fun B => ?_
 refine Bt 153 177 B fun B => ?_
 refine Aq (Cm _ _ []) 177 201 B rfl rfl ?_
 refine B4 fun B => ?_
 obtain rfl := oi_ G
 exact ⟨((W (i_6 + 1), W (j_8 - 1), Bi (Bi data_5 ((i_6).toNat) e_18) ((j_8).toNat) e_19), m5), xO _, hn5, A3 [(0, 0)]⟩
theorem Ef.F (cmp : Ab -> Ab -> Option (Int)) (hf_cmp : ∀ (x0 : Ab) (x1 : Ab) (y : Int), cmp x0 x1 = some y -> Fn Try.prog 34 0 [.agg [vk x0.Pattern, vk x0.At], .agg [vk x1.Pattern, vk x1.At]] [] (fun d' b' => d' = vk y /\ b' = [])) (rec : (List Ab) -> Int -> Int -> Int -> Option ((List Ab))) (hrec : ∀ (data : List Ab) (a : Int) (b : Int) (limit : Int) (r : (List Ab)), rec data a b limit = some r -> Fn Try.prog 50 1 [.row 0, vk a, vk b, vk limit, .clo 34 0 []] [.row 47 2 (As Ab.enc data)] (fun d' b' => d' = .tup [] /\ b' = [.row 47 2 (As Ab.enc r)])) (data : List Ab) (a : Int) (b : Int) (limit : Int) (r : (List Ab)) (G : Aj.F rec data a b limit cmp = some r) : Fn Try.prog 50 1 [.row 0, vk a, vk b, vk limit, .clo 34 0 []] [.row 47 2 (As Ab.enc data)] (fun d' b' => d' = .tup [] /\ b' = [.row 47 2 (As Ab.enc r)]) := by
 unfold Aj.F at G
 refine Fn.of Try.func50 rfl rfl rfl fun w0 I ρ0 => ?_
 show Cp _ ⟨w0, I, ρ0, 1, 1, 148⟩ _ _ _
 refine Bt 1 9 Bg fun B => ?_
 refine Bt 9 17 B fun B => ?_
 refine Ar <| Gg (fun ((a_1, b_1, limit_1, wasBalanced_1, wasPartitioned_1, data_1) : Int × Int × Int × Bool × Bool × List Ab) => mk [(0, .row 0), (1, vk a_1), (2, vk b_1), (3, vk limit_1), (4, .clo 34 0 []), (10, .val (.bool wasBalanced_1)), (11, .val (.bool wasPartitioned_1))] [(0, .row 47 2 (As Ab.enc data_1))] 1) G (A3 [(0, 0)]) ?_
 rintro ⟨a_1, b_1, limit_1, wasBalanced_1, wasPartitioned_1, data_1⟩ m1 o1 G hn1
 replace G : Aj.l1 rec cmp a_1 b_1 limit_1 wasBalanced_1 wasPartitioned_1 data_1 = some o1 := G
 show Cp _ _ _ _ (mk _ _ _)
 unfold Aj.l1 at G
 refine Ar <| Bt 1 33 Bg fun B => ?_
 refine An <| Bt 33 49 B fun B => ?_
 refine C1 rfl G (fun h5 G => ?_) fun h5 G => ?_
 refine C4 49 89 B ?_
 refine A8 ?_
 obtain ⟨y, hy, G⟩ := Ac G
 refine G7 [0] [0] [] false (Gt data_1 a_1 b_1 cmp hf_cmp _ hy) ?_
 refine D2 fun B => ?_
 refine El ?_
 replace G := B1 G hn1
 obtain rfl := oi_ G
 exact Ee [(0, 0)] ⟨rfl, rfl⟩
 refine C9 ?_
 refine An <| Bt 49 65 B fun B => ?_
 refine C1 rfl G (fun h8 G => ?_) fun h8 G => ?_
 refine C4 65 105 B ?_
 refine A8 ?_
 obtain ⟨y_2, hy_2, G⟩ := Ac G
 refine G7 [0] [0] [] false (Ha data_1 a_1 b_1 cmp hf_cmp _ hy_2) ?_
 refine D2 fun B => ?_
 refine El ?_
 replace G := B1 G hn1
 obtain rfl := oi_ G
 exact Ee [(0, 0)] ⟨rfl, rfl⟩
 refine C9 ?_
 refine By (ι := Int × List Ab) (fun ((limit_2, data_2) : Int × List Ab) => mk [(0, .row 0), (1, vk a_1), (2, vk b_1), (3, vk limit_2), (4, .clo 34 0 []), (10, .val (.bool wasBalanced_1)), (11, .val (.bool wasPartitioned_1)), (12, .val (.int .i64 (W (b_1 - a_1))))] [(0, .row 47 2 (As Ab.enc data_2))] 1) (fun ((limit_2, data_2) : Int × List Ab) => Aj.j2 rec cmp a_1 b_1 wasBalanced_1 wasPartitioned_1 limit_2 data_2 = some o1) ?_ ?_
 refine Bt 65 81 B fun B => ?_
 refine C1 rfl G (fun h11 G => ?_) fun h11 G => ?_
 refine C4 81 121 B ?_
 refine A8 ?_
 obtain ⟨y_3, hy_3, G⟩ := Ac G
 refine G7 [0] [0] [] false (Gr data_1 a_1 b_1 cmp hf_cmp _ hy_3) ?_
 refine D2 fun B => ?_
 refine Aq (Cm _ _ []) 121 145 B rfl rfl ?_
 refine B4 fun B => ?_
 exact ⟨(W (limit_1 - 1), y_3), G, A3 [(0, 0)]⟩
 refine C9 ?_
 exact ⟨(limit_1, data_1), G, A3 [(0, 0)]⟩
 rintro ⟨limit_2, data_2⟩ G
 replace G : Aj.j2 rec cmp a_1 b_1 wasBalanced_1 wasPartitioned_1 limit_2 data_2 = some o1 := G
 show Cp _ _ _ _ (mk _ _ _)
 unfold Aj.j2 at G
 refine C4 1 81 Bg ?_
 refine A8 ?_
 obtain ⟨y_4, hy_4, G⟩ := Ac G
 refine G7 [0] [] [] true (Gw data_2 a_1 b_1 cmp hf_cmp _ hy_4) ?_
 refine B4 fun B => ?_
 refine By (ι := Int × Int × List Ab) (fun ((pivot_3, hint_3, data_3) : Int × Int × List Ab) => mk [(0, .row 0), (1, vk a_1), (2, vk b_1), (3, vk limit_2), (4, .clo 34 0 []), (10, .val (.bool wasBalanced_1)), (11, .val (.bool wasPartitioned_1)), (12, .val (.int .i64 (W (b_1 - a_1)))), (13, vk pivot_3), (14, vk hint_3)] [(0, .row 47 2 (As Ab.enc data_3))] 1) (fun ((pivot_3, hint_3, data_3) : Int × Int × List Ab) => Aj.j3 rec cmp a_1 b_1 wasBalanced_1 wasPartitioned_1 limit_2 pivot_3 hint_3 data_3 = some o1) ?_ ?_
 refine Bt 81 97 B fun B => ?_
 refine C1 rfl G (fun h16 G => ?_) fun h16 G => ?_
 refine C4 97 137 B ?_
 refine A8 ?_
 obtain ⟨y_5, hy_5, G⟩ := Ac G
 refine G7 [0] [0] [] false (Gu data_2 a_1 b_1 cmp hf_cmp _ hy_5) ?_
 refine D2 fun B => ?_
 refine Bt 137 193 B fun B => ?_
 refine Aq (Cm _ _ []) 193 201 B rfl rfl ?_
 refine B4 fun B => ?_
 exact ⟨(W ((W (b_1 - 1)) - (W (y_4.1 - a_1))), 1, y_5), G, A3 [(0, 0)]⟩
 refine C9 ?_
 exact ⟨(y_4.1, y_4.2, data_2), G, A3 [(0, 0)]⟩
 rintro ⟨pivot_3, hint_3, data_3⟩ G
 replace G : Aj.j3 rec cmp a_1 b_1 wasBalanced_1 wasPartitioned_1 limit_2 pivot_3 hint_3 data_3 = some o1 := G
 show Cp _ _ _ _ (mk _ _ _)
 unfold Aj.j3 at G
 refine By (ι := List Ab) (fun (data_5 : List Ab) => mk [(0, .row 0), (1, vk a_1), (2, vk b_1), (3, vk limit_2), (4, .clo 34 0 []), (10, .val (.bool wasBalanced_1)), (11, .val (.bool wasPartitioned_1)), (12, .val (.int .i64 (W (b_1 - a_1)))), (13, vk pivot_3)] [(0, .row 47 2 (As Ab.enc data_5))] 1) (fun (data_5 : List Ab) => Aj.j5 rec cmp a_1 b_1 wasBalanced_1 wasPartitioned_1 limit_2 pivot_3 data_5 = some o1) ?_ ?_
 refine By (ι := Bool) (fun (x75_4 : Bool) => mk [(0, .row 0), (1, vk a_1), (2, vk b_1), (3, vk limit_2), (4, .clo 34 0 []), (10, .val (.bool wasBalanced_1)), (11, .val (.bool wasPartitioned_1)), (12, .val (.int .i64 (W (b_1 - a_1)))), (13, vk pivot_3), (75, .val (.bool x75_4))] [(0, .row 47 2 (As Ab.enc data_3))] 1) (fun (x75_4 : Bool) => Aj.j4 rec cmp a_1 b_1 wasBalanced_1 wasPartitioned_1 limit_2 pivot_3 data_3 x75_4 = some o1) ?_ ?_
 refine Aq (Cm _ _ []) 1 65 Bg rfl rfl ?_
 refine A8 ?_
 rcases If G with ⟨h20, G⟩ | ⟨h20, G⟩
 refine A8 ?_
 rcases If G with ⟨h21, G⟩ | ⟨h21, G⟩
 refine B4 fun B => ?_
 exact ⟨decide (hint_3 = 1), G, A3 [(0, 0)]⟩
 refine B4 fun B => ?_
 exact ⟨false, G, A3 [(0, 0)]⟩
 refine B4 fun B => ?_
 exact ⟨false, G, A3 [(0, 0)]⟩
 rintro x75_4 G
 replace G : Aj.j4 rec cmp a_1 b_1 wasBalanced_1 wasPartitioned_1 limit_2 pivot_3 data_3 x75_4 = some o1 := G
 show Cp _ _ _ _ (mk _ _ _)
 unfold Aj.j4 at G
 refine C1 rfl G (fun h25 G => ?_) fun h25 G => ?_
 refine C4 1 41 Bg ?_
 refine A8 ?_
 obtain ⟨y_6, hy_6, G⟩ := Ac G
 refine G7 [0] [0] [] false (F0 data_3 a_1 b_1 cmp hf_cmp _ hy_6) ?_
 refine D2 fun B => ?_
 refine C1 rfl G (fun h27 G => ?_) fun h27 G => ?_
 refine Mt ?_
 refine sW ?_
 replace G := B1 G hn1
 obtain rfl := oi_ G
 exact Ee [(0, 0)] ⟨rfl, rfl⟩
 refine C9 ?_
 exact ⟨y_6.2, G, A3 [(0, 0)]⟩
 refine C9 ?_
 exact ⟨data_3, G, A3 [(0, 0)]⟩
 rintro data_5 G
 replace G : Aj.j5 rec cmp a_1 b_1 wasBalanced_1 wasPartitioned_1 limit_2 pivot_3 data_5 = some o1 := G
 show Cp _ _ _ _ (mk _ _ _)
 unfold Aj.j5 at G
 refine An <| By (ι := Bool) (fun (x97_6 : Bool) => mk [(0, .row 0), (1, vk a_1), (2, vk b_1), (3, vk limit_2), (4, .clo 34 0 []), (10, .val (.bool wasBalanced_1)), (11, .val (.bool wasPartitioned_1)), (12, .val (.int .i64 (W (b_1 - a_1)))), (13, vk pivot_3), (97, .val (.bool x97_6))] [(0, .row 47 2 (As Ab.enc data_5))] 1) (fun (x97_6 : Bool) => Aj.j6 rec cmp a_1 b_1 wasBalanced_1 wasPartitioned_1 limit_2 pivot_3 data_5 x97_6 = some o1) ?_ ?_
 refine Br (Cm _ _ []) (by kernel_rfl) [0, 1, 3, 7, 7, 7, 39, 119, 247, 7, 7, 1543, 3591, 8191, 16383, 32767, 65535] 1 137 Bg rfl rfl (by kernel_rfl) ?_
 refine A8 ?_
 rcases If G with ⟨h28, G⟩ | ⟨h28, G⟩
 refine A8 ?_
 obtain ⟨e, he, G⟩ := Ac G
 refine A8 ?_
 refine Fj he ?_
 refine A8 ?_
 obtain ⟨e_2, he_2, G⟩ := Ac G
 refine A8 ?_
 refine Fj he_2 ?_
 obtain ⟨y_7, hy_7, G⟩ := Ac G
 refine Dm (rd := []) (ps := []) (gs := []) false (Et rfl rfl h28) rfl (hf_cmp e e_2 _ hy_7) rfl rfl (.cons (.agg (.cons .val (.cons .val .nil))) (.cons (.agg (.cons .val (.cons .val .nil))) .nil)) rfl rfl (by intro h; cases h) rfl rfl rfl rfl ?_
 refine B4 fun B => ?_
 exact ⟨!(decide (y_7 < 0)), G, A3 [(0, 0)]⟩
 refine B4 fun B => ?_
 exact ⟨false, G, A3 [(0, 0)]⟩
 rintro x97_6 G
 replace G : Aj.j6 rec cmp a_1 b_1 wasBalanced_1 wasPartitioned_1 limit_2 pivot_3 data_5 x97_6 = some o1 := G
 show Cp _ _ _ _ (mk _ _ _)
 unfold Aj.j6 at G
 refine C1 rfl G (fun h31 G => ?_) fun h31 G => ?_
 refine C4 1 57 Bg ?_
 refine A8 ?_
 obtain ⟨y_8, hy_8, G⟩ := Ac G
 refine G7 [0] [0] [] false (Gj data_5 a_1 b_1 pivot_3 cmp hf_cmp _ hy_8) ?_
 refine B4 fun B => ?_
 refine Bt 57 73 B fun B => ?_
 refine F8 ?_
 obtain rfl := oi_ G
 exact ⟨((y_8.1, b_1, limit_2, wasBalanced_1, wasPartitioned_1, y_8.2), m1), xO _, hn1, A3 [(0, 0)]⟩
 refine C9 ?_
 refine C4 1 89 Bg ?_
 refine A8 ?_
 obtain ⟨y_9, hy_9, G⟩ := Ac G
 refine G7 [0] [0] [] false (G3 data_5 a_1 b_1 pivot_3 cmp hf_cmp _ hy_9) ?_
 refine B4 fun B => ?_
 refine Bt 89 105 B fun B => ?_
 refine Bt 105 169 B fun B => ?_
 refine C4 169 193 B ?_
 refine A8 ?_
 obtain ⟨q, hq, G⟩ := Ac G
 refine D1 rfl rfl (Jv hq) rfl rfl ?_
 refine B4 fun B => ?_
 refine Bt 193 217 B fun B => ?_
 refine C1 rfl G (fun h39 G => ?_) fun h39 G => ?_
 refine Bt 217 249 B fun B => ?_
 refine C4 249 297 B ?_
 refine A8 ?_
 obtain ⟨y_10, hy_10, G⟩ := Ac G
 refine G7 [0] [0] [] false (hrec y_9.2.2 a_1 y_9.1 limit_2 _ hy_10) ?_
 refine D2 fun B => ?_
 refine Aq (Cm _ _ []) 297 321 B rfl rfl ?_
 refine B4 fun B => ?_
 obtain rfl := oi_ G
 exact ⟨((W (y_9.1 + 1), b_1, limit_2, decide (q <= (W (y_9.1 - a_1))), y_9.2.1, y_10), m1), xO _, hn1, A3 [(0, 0)]⟩
 refine Bt 217 249 B fun B => ?_
 refine C4 249 305 B ?_
 refine A8 ?_
 obtain ⟨y_11, hy_11, G⟩ := Ac G
 refine G7 [0] [0] [] false (hrec y_9.2.2 (W (y_9.1 + 1)) b_1 limit_2 _ hy_11) ?_
 refine D2 fun B => ?_
 refine Aq (Cm _ _ []) 305 321 B rfl rfl ?_
 refine B4 fun B => ?_
 obtain rfl := oi_ G
 exact ⟨((a_1, y_9.1, limit_2, decide (q <= (W (b_1 - y_9.1))), y_9.2.1, y_11), m1), xO _, hn1, A3 [(0, 0)]⟩
theorem Ef (data : List Ab) (a : Int) (b : Int) (limit : Int) (cmp : Ab -> Ab -> Option (Int)) (hf_cmp : ∀ (x0 : Ab) (x1 : Ab) (y : Int), cmp x0 x1 = some y -> Fn Try.prog 34 0 [.agg [vk x0.Pattern, vk x0.At], .agg [vk x1.Pattern, vk x1.At]] [] (fun d' b' => d' = vk y /\ b' = [])) (r : (List Ab)) (G : Aj data a b limit cmp = some r) : Fn Try.prog 50 1 [.row 0, vk a, vk b, vk limit, .clo 34 0 []] [.row 47 2 (As Ab.enc data)] (fun d' b' => d' = .tup [] /\ b' = [.row 47 2 (As Ab.enc r)]) :=
 Zc (motive := fun (x : List Ab × Int × Int × Int) (r : (List Ab)) => Fn Try.prog 50 1 [.row 0, vk x.2.1, vk x.2.2.1, vk x.2.2.2, .clo 34 0 []] [.row 47 2 (As Ab.enc x.1)] (fun d' b' => d' = .tup [] /\ b' = [.row 47 2 (As Ab.enc r)])) (fun rec hrec x r h => Ef.F cmp hf_cmp _ (fun data a b limit r h => hrec (data, a, b, limit) r h) x.1 x.2.1 x.2.2.1 x.2.2.2 r h) (data, a, b, limit) r G
theorem H9 (x' : List Ab) (cmp : Ab -> Ab -> Option (Int)) (hf_cmp : ∀ (x0 : Ab) (x1 : Ab) (y : Int), cmp x0 x1 = some y -> Fn Try.prog 34 0 [.agg [vk x0.Pattern, vk x0.At], .agg [vk x1.Pattern, vk x1.At]] [] (fun d' b' => d' = vk y /\ b' = [])) (r : (List Ab)) (G : D8 x' cmp = some r) : Fn Try.prog 33 1 [.row 0, .clo 34 0 []] [.row 47 2 (As Ab.enc x')] (fun d' b' => d' = .tup [] /\ b' = [.row 47 2 (As Ab.enc r)]) := by
 unfold D8 at G
 refine Fn.of Try.func33 rfl rfl rfl fun w0 I ρ0 => ?_
 show Cp _ ⟨w0, I, ρ0, 1, 1, 14⟩ _ _ _
 refine Bt 1 25 Bg fun B => ?_
 refine Aq (Cm _ _ []) 25 81 B rfl rfl ?_
 refine A8 ?_
 refine D1 rfl rfl (Oy Rq Zm) rfl rfl ?_
 obtain ⟨y, hy, G⟩ := Ac G
 refine Ix (Jz _ _ hy) ?_
 refine A8 ?_
 obtain ⟨y_2, hy_2, G⟩ := Ac G
 refine G7 [0] [0] [] false (Ef x' 0 (x'.length : Int) y cmp hf_cmp _ hy_2) ?_
 refine D2 fun B => ?_
 obtain rfl := oi_ G
 exact Ee [(0, 0)] ⟨rfl, rfl⟩
theorem Nx (p : (List Ai)) (b : (List UInt8)) (r : (List Ab) × Int) (G : Ev p b = some r) : Fn Try.prog 13 0 [.sl 3 (As Ai.enc p), .sl 1 (As e8 b)] [] (fun d' b' => d' = .tup [.sl 2 (As Ab.enc r.1), vk r.2] /\ b' = []) := by
 unfold Ev at G
 refine Fn.of Try.func13 rfl rfl rfl fun w0 I ρ0 => ?_
 show Cp _ ⟨w0, I, ρ0, 0, 0, 24⟩ _ _ _
 refine Bt 0 16 Bg fun B => ?_
 refine An <| C4 16 48 B ?_
 refine A8 ?_
 obtain ⟨y, hy, G⟩ := Ac G
 refine Ix (Mz _ _ _ hy) ?_
 refine B4 fun B => ?_
 refine Bt 48 64 B fun B => ?_
 refine C1 rfl G (fun h4 G => ?_) fun h4 G => ?_
 refine C4 64 88 B ?_
 exact F9
 refine C9 ?_
 refine Bt 64 72 B fun B => ?_
 refine An <| J6 (σ' := mk [(0, .sl 3 (As Ai.enc p)), (1, .sl 1 (As e8 b)), (7, .ptr 0 0)] [(0, .box [.row 1] 31), (1, .row 47 2 (As Ab.enc ([] : List Ab)))] 2) (A3 [(0, 64)]) ?_
 refine Aq (Cm _ _ []) 2 34 Bg rfl rfl ?_
 refine A8 ?_
 obtain ⟨y_2, hy_2, G⟩ := Ac G
 refine F6 (rd := [0, 1]) (ps := [0]) (gs := [1]) false rfl (G1 p b (fun x0 b0 => Ff x0 b0) ([] : List Ab) (fun x0 b0 y h => Qp x0 b0 y h) _ hy_2) rfl rfl (.cons .sl (.cons .sl (.cons (.clo (.cons (.ptr rfl) .nil)) .nil))) ⟨_, _, _, rfl, .head _, ⟨_, rfl, (by repeat' (first | exact Kx.nil | apply Kx.cons | exact Ag.val | exact Ag.sl | exact Ag.nils | exact Ag.ptr rfl | exact Ag.rowK rfl))⟩, ⟨_, _, _, rfl, .tail _ (.head _), rfl, rfl⟩⟩ rfl (by intro h; cases h) rfl (by intro h; first | (cases h; done) | exact ⟨_, _, ⟨rfl, rfl⟩, by simp, by simp⟩) ?_
 rintro _ _ ⟨rfl, rfl⟩
 refine D2 fun B => ?_
 refine An <| Bt 34 58 B fun B => ?_
 refine C1 rfl G (fun h9 G => ?_) fun h9 G => ?_
 refine C4 58 74 B ?_
 exact F9
 refine C9 ?_
 refine C4 58 74 B ?_
 refine A8 ?_
 obtain ⟨y_3, hy_3, G⟩ := Ac G
 refine G7 [26] [26] [] false (H9 y_2 (fun x0 x1 => Fc x0 x1) (fun x0 x1 y h => P6 x0 x1 y h) _ hy_3) ?_
 refine D2 fun B => ?_
 refine Bt 74 98 B fun B => ?_
 exact Nv
theorem Q0 (b : (List UInt8)) (r : (List Int)) (G : Bu b = some r) : Fn Try.prog 12 0 [.sl 1 (As e8 b)] [] (fun d' b' => d' = .sl 1 (As eI r) /\ b' = []) := by
 unfold Bu at G
 refine Fn.of Try.func12 rfl rfl rfl fun w0 I ρ0 => ?_
 show Cp _ ⟨w0, I, ρ0, 0, 0, 54⟩ _ _ _
 refine Bt 0 8 Bg fun B => ?_
 refine C4 8 40 B ?_
 refine A8 ?_
 obtain ⟨m, hm, G⟩ := Ac G
 refine D1 rfl rfl (Qm (f := eI) Fo z3 Jj (.cons .int .nil) rfl hm rfl) rfl rfl ?_
 refine B4 fun B => ?_
 refine An <| Bt 40 48 B fun B => ?_
 refine Ar <| Gg (fun ((i_1, out_1) : Int × List Int) => mk [(0, .sl 1 (As e8 b)), (3, .row 0), (4, vk i_1)] [(0, .row 3 1 (As eI out_1))] 1) G (A3 [(0, 24)]) ?_
 rintro ⟨i_1, out_1⟩ m1 o1 G hn1
 replace G : Bu.l1 b i_1 out_1 = some o1 := G
 show Cp _ _ _ _ (mk _ _ _)
 unfold Bu.l1 at G
 refine An <| Bt 1 33 Bg fun B => ?_
 refine C1 rfl G (fun h5 G => ?_) fun h5 G => ?_
 refine C9 ?_
 refine An <| Ar <| C4 33 81 B ?_
 refine A8 ?_
 obtain ⟨e, he, G⟩ := Ac G
 refine A8 ?_
 refine Ei (rd := [0]) rfl rfl (.loadR1 Yr (C8 Lg (A4 he) (o := 0) (c := .int .i64 e) rfl rfl)) rfl rfl ?_
 refine B4 fun B => ?_
 refine An <| Ar <| Gg (fun (n_2 : Int) => mk [(0, .sl 1 (As e8 b)), (3, .row 0), (4, vk i_1), (5, vk n_2)] [(0, .row 3 1 (As eI out_1))] 1) G (A3 [(0, 0)]) ?_
 rintro n_2 m2 o2 G hn2
 replace G : Bu.l2 b i_1 out_1 n_2 = some o2 := G
 show Cp _ _ _ _ (mk _ _ _)
 unfold Bu.l2 at G
 refine An <| By (ι := Bool) (fun (x32_3 : Bool) => mk [(0, .sl 1 (As e8 b)), (3, .row 0), (4, vk i_1), (5, vk n_2), (32, .val (.bool x32_3))] [(0, .row 3 1 (As eI out_1))] 1) (fun (x32_3 : Bool) => Bu.j3 b i_1 out_1 n_2 x32_3 = some o2) ?_ ?_
 refine Br (Cm _ _ []) (by kernel_rfl) [0, 1, 3, 7, 7, 31, 63, 7, 7, 391, 903, 2047, 4095] 1 105 Bg rfl rfl (by kernel_rfl) ?_
 refine A8 ?_
 rcases If G with ⟨h7, G⟩ | ⟨h7, G⟩
 refine A8 ?_
 obtain ⟨e_2, he_2, G⟩ := Ac G
 refine A8 ?_
 refine Uw he_2 ?_
 refine A8 ?_
 obtain ⟨e_3, he_3, G⟩ := Ac G
 refine A8 ?_
 refine Uw he_3 ?_
 refine B4 fun B => ?_
 exact ⟨!decide ((e_2.toNat : Int) = (e_3.toNat : Int)), G, A3 [(0, 0)]⟩
 refine B4 fun B => ?_
 exact ⟨false, G, A3 [(0, 0)]⟩
 rintro x32_3 G
 replace G : Bu.j3 b i_1 out_1 n_2 x32_3 = some o2 := G
 show Cp _ _ _ _ (mk _ _ _)
 unfold Bu.j3 at G
 refine C1 rfl G (fun h10 G => ?_) fun h10 G => ?_
 refine C9 ?_
 refine Ar <| Aq (Cm _ _ []) 1 49 Bg rfl rfl ?_
 refine A8 ?_
 obtain ⟨e_4, he_4, G⟩ := Ac G
 refine A8 ?_
 refine Ei (rd := [0]) rfl rfl (.loadR1 Yr (C8 Lg (A4 he_4) (o := 0) (c := .int .i64 e_4) rfl rfl)) rfl rfl ?_
 refine B4 fun B => ?_
 obtain rfl := oi_ G
 exact ⟨(e_4, m2), xO _, hn2, A3 [(0, 0)]⟩
 refine F8 ?_
 replace G := B1 G hn2
 refine By (ι := Int) (fun (n_4 : Int) => mk [(0, .sl 1 (As e8 b)), (3, .row 0), (4, vk i_1), (5, vk n_4)] [(0, .row 3 1 (As eI out_1))] 1) (fun (n_4 : Int) => Bu.j4 i_1 out_1 n_4 = some o1) ?_ ?_
 refine An <| Br (Cm _ _ []) (by kernel_rfl) [0, 0, 3, 7, 0, 0, 48, 112, 255] 1 73 Bg rfl rfl (by kernel_rfl) ?_
 refine A8 ?_
 obtain ⟨e_5, he_5, G⟩ := Ac G
 refine A8 ?_
 refine Uw he_5 ?_
 refine A8 ?_
 obtain ⟨e_6, he_6, G⟩ := Ac G
 refine A8 ?_
 refine Uw he_6 ?_
 refine B4 fun B => ?_
 refine C1 rfl G (fun h13 G => ?_) fun h13 G => ?_
 refine Aq (Cm _ _ []) 73 97 B rfl rfl ?_
 refine B4 fun B => ?_
 exact ⟨W (n_2 + 1), G, A3 [(0, 0)]⟩
 refine C9 ?_
 exact ⟨n_2, G, A3 [(0, 0)]⟩
 rintro n_4 G
 replace G : Bu.j4 i_1 out_1 n_4 = some o1 := G
 show Cp _ _ _ _ (mk _ _ _)
 unfold Bu.j4 at G
 refine Aq (Cm _ _ []) 1 41 Bg rfl rfl ?_
 refine A8 ?_
 obtain ⟨e_7, he_7, G⟩ := Ac G
 refine A8 ?_
 refine Il Jj he_7 (x' := n_4) ?_
 refine D2 fun B => ?_
 refine Aq (Cm _ _ []) 41 65 B rfl rfl ?_
 refine B4 fun B => ?_
 obtain rfl := oi_ G
 exact ⟨((W (i_1 + 1), Bi out_1 ((i_1).toNat) n_4), m1), xO _, hn1, A3 [(0, 0)]⟩
 refine F8 ?_
 replace G := B1 G hn1
 refine Bt 33 49 B fun B => ?_
 exact Nv
end Go.Proofs.Ytfkgbfhpibiheaa
