import Derived.Test.YtopkgllcjbpdeaaDoorT1
import Derived.Test.YtopkgllcjbpdeaaDoorA1
import Derived.Test.YtopkgllcjbpdeaaDoorA3
import Derived.Test.YtopkgllcjbpdeaaDoorA4
import Derived.Test.YtopkgllcjbpdeaaDoorA5
import Derived.Test.YtopkgllcjbpdeaaDoorA6
set_option linter.unusedVariables false
set_option linter.unusedSimpArgs false
set_option maxRecDepth 100000
set_option maxHeartbeats 1600000
namespace Go.Proofs.YtopkgllcjbpdeaaDoor
open Go.RowKit
theorem P1 (t : (List Int)) (r : Bool) (G : Ao t = some r) : Fn Tryd.prog 6 0 [.sl 1 (An eI t)] [] (fun d' b' => d' = .val (.bool r) /\ b' = []) := by
 unfold Ao at G
 refine Fn.of Tryd.func6 rfl rfl rfl fun w0 I ρ0 => ?_
 show Ca _ ⟨w0, I, ρ0, 0, 0, 195, none⟩ _ _ _
 refine Bk 0 8 Ba fun B => ?_
 refine Af <| Cf 8 32 B ?_
 refine A5 ?_
 obtain ⟨y, hy, G⟩ := Ab G
 refine Dz (Io _ _ hy) ?_
 refine Bl fun B => ?_
 refine Cn rfl G (fun h3 G => ?_) fun h3 G => ?_
 refine Cf 32 48 B ?_
 obtain ⟨y_2, hy_2, G⟩ := Ab G
 refine Dz (D8 _ hy_2) ?_
 exact E7
 refine Cp ?_
 refine Cf 32 56 B ?_
 refine A5 ?_
 obtain ⟨y_3, hy_3, G⟩ := Ab G
 refine Dv (rd := []) (ps := []) (gs := []) false rfl (Jn _ _ hy_3) rfl rfl (.cons .sl .nil) rfl rfl (by intro h; cases h) rfl (by intro h; first | (cases h; done) | exact ⟨_, _, ⟨rfl, rfl⟩, by simp, by simp⟩) ?_
 rintro _ _ ⟨rfl, rfl⟩
 refine Bl fun B => ?_
 refine Cf 56 80 B ?_
 refine A5 ?_
 obtain ⟨y_4, hy_4, G⟩ := Ab G
 refine Kg [40] [40] [] false (Iq _ _ _ hy_4) ?_
 refine Bl fun B => ?_
 refine Cf 80 136 B ?_
 refine A5 ?_
 obtain ⟨y_5, hy_5, G⟩ := Ab G
 refine Dz (F0 _ _ _ hy_5) ?_
 refine Bl fun B => ?_
 refine Af <| Bk 136 152 B fun B => ?_
 refine Cn rfl G (fun h9 G => ?_) fun h9 G => ?_
 refine Cf 152 160 B ?_
 exact E7
 refine Cp ?_
 refine Bk 152 160 B fun B => ?_
 refine Af <| Bk 160 168 B fun B => ?_
 refine Aj <| Fq (fun ((count_1, m_1) : Int × Int) => mk [(4, .sl 2 (An Aa.enc y_4.1)), (5, .sl 1 (An (eL 1 eI) y_5.1)), (7, vk count_1), (8, vk m_1)] [] 0) G (Ax []) ?_
 rintro ⟨count_1, m_1⟩ m1 o1 G hn1
 replace G : Ao.l1 y_4 y_5 count_1 m_1 = some o1 := G
 show Ca _ _ _ _ (mk _ _ _)
 unfold Ao.l1 at G
 refine Af <| Bk 0 16 Ba fun B => ?_
 refine Cn rfl G (fun h14 G => ?_) fun h14 G => ?_
 refine Cp ?_
 refine B0 (ι := Int) (fun (count_4 : Int) => mk [(4, .sl 2 (An Aa.enc y_4.1)), (5, .sl 1 (An (eL 1 eI) y_5.1)), (7, vk count_4), (8, vk m_1)] [] 0) (fun (count_4 : Int) => Ao.j4 m_1 count_4 = some o1) ?_ ?_
 refine Aj <| Bk 16 24 B fun B => ?_
 refine Af <| Bk 24 32 B fun B => ?_
 refine Aj <| Fq (fun ((i_2, s_2) : Int × List Int) => mk [(4, .sl 2 (An Aa.enc y_4.1)), (5, .sl 1 (An (eL 1 eI) y_5.1)), (7, vk count_1), (8, vk m_1), (9, .row 0), (10, vk i_2)] [(0, .row 3 1 (An eI s_2))] 1) G (Ax []) ?_
 rintro ⟨i_2, s_2⟩ m2 o2 G hn2
 replace G : Ao.l2 y_4 count_1 m_1 i_2 s_2 = some o2 := G
 show Ca _ _ _ _ (mk _ _ _)
 unfold Ao.l2 at G
 refine Af <| Bk 1 17 Ba fun B => ?_
 refine Cn rfl G (fun h18 G => ?_) fun h18 G => ?_
 refine Cp ?_
 refine B0 (ι := List Int) (fun (s_3 : List Int) => mk [(4, .sl 2 (An Aa.enc y_4.1)), (5, .sl 1 (An (eL 1 eI) y_5.1)), (7, vk count_1), (8, vk m_1), (9, .row 0), (10, vk i_2)] [(0, .row 3 1 (An eI s_3))] 1) (fun (s_3 : List Int) => Ao.j3 i_2 s_3 = some o2) ?_ ?_
 refine Aj <| Cf 17 57 B ?_
 refine A5 ?_
 obtain ⟨q, hq, G⟩ := Ab G
 refine Ei rfl rfl (M5 hq) rfl rfl ?_
 refine Ei rfl rfl Pr rfl rfl ?_
 refine Bl fun B => ?_
 refine Cn rfl G (fun h20 G => ?_) fun h20 G => ?_
 refine Ak (Ce _ _ []) 57 97 B rfl rfl ?_
 refine A5 ?_
 refine Pt Ka z3 aE ([i_2] : List Int) eI ?_
 obtain ⟨l, hl, G⟩ := Ab G
 refine Ch (rd := [0, 73]) rfl rfl (Dr Ka G0 .row rfl .row rfl hl rfl) rfl rfl ?_
 refine Bl fun B => ?_
 exact ⟨l, G, Ax [(0, 81)]⟩
 refine Cp ?_
 exact ⟨s_2, G, Ax [(0, 0)]⟩
 rintro s_3 G
 replace G : Ao.j3 i_2 s_3 = some o2 := G
 show Ca _ _ _ _ (mk _ _ _)
 unfold Ao.j3 at G
 refine Ak (Ce _ _ []) 1 25 Ba rfl rfl ?_
 refine Bl fun B => ?_
 obtain rfl := oi_ G
 exact ⟨((W (i_2 + 1), s_3), m2), Nat.lt_succ_self _, hn2, Ax [(0, 0)]⟩
 refine Fl ?_
 replace G := Bn G hn2
 refine Cf 17 81 B ?_
 refine A5 ?_
 obtain ⟨y_6, hy_6, G⟩ := Ab G
 refine Kg [0] [] [] true (Ha _ _ _ _ hy_6) ?_
 refine Bl fun B => ?_
 refine Bk 81 89 B fun B => ?_
 refine Cn rfl G (fun h25 G => ?_) fun h25 G => ?_
 refine Ak (Ce _ _ []) 89 113 B rfl rfl ?_
 refine Bl fun B => ?_
 exact ⟨W (count_1 + 1), G, Ax []⟩
 refine Cp ?_
 exact ⟨count_1, G, Ax []⟩
 rintro count_4 G
 replace G : Ao.j4 m_1 count_4 = some o1 := G
 show Ca _ _ _ _ (mk _ _ _)
 unfold Ao.j4 at G
 refine Ak (Ce _ _ []) 0 24 Ba rfl rfl ?_
 refine Bl fun B => ?_
 obtain rfl := oi_ G
 exact ⟨((count_4, W (m_1 + 1)), m1), Nat.lt_succ_self _, hn1, Ax []⟩
 refine Fl ?_
 replace G := Bn G hn1
 refine Af <| Bk 16 48 B fun B => ?_
 refine Cn rfl G (fun h29 G => ?_) fun h29 G => ?_
 refine Cf 48 56 B ?_
 exact E7
 refine Cp ?_
 refine Af <| Bk 48 72 B fun B => ?_
 refine Aj <| Fq (fun (x79_5 : Int) => mk [(4, .sl 2 (An Aa.enc y_4.1)), (77, .sl 1 (An (eL 1 eI) y_5.1)), (78, .val (.int .i64 (y_5.1.length : Int))), (79, vk x79_5)] [] 0) G (Ax []) ?_
 rintro x79_5 m5 o5 G hn5
 replace G : Ao.l5 y_4 y_5 x79_5 = some o5 := G
 show Ca _ _ _ _ (mk _ _ _)
 unfold Ao.l5 at G
 refine Bk 0 8 Ba fun B => ?_
 refine Af <| Cn rfl G (fun h33 G => ?_) fun h33 G => ?_
 refine Cp ?_
 refine Af <| Aj <| Cf 8 32 B ?_
 obtain ⟨e, he, G⟩ := Ab G
 refine A5 ?_
 refine Ei rfl rfl (D0 Sq (A9 (Dj _ _) (Ar he) (o := 0) (c := .sl 1 (An eI e)) rfl rfl)) rfl rfl ?_
 refine Bl fun B => ?_
 refine Cf 32 96 B ?_
 refine A5 ?_
 obtain ⟨y_7, hy_7, G⟩ := Ab G
 refine Dz (Ha _ _ _ _ hy_7) ?_
 refine Bl fun B => ?_
 refine Cf 96 160 B ?_
 refine A5 ?_
 obtain ⟨y_8, hy_8, G⟩ := Ab G
 refine Dz (Lv _ _ _ _ hy_8) ?_
 refine Bl fun B => ?_
 refine Cf 160 224 B ?_
 refine A5 ?_
 obtain ⟨y_9, hy_9, G⟩ := Ab G
 refine Dz (Im _ _ _ _ hy_9) ?_
 refine Bl fun B => ?_
 refine Af <| B0 (ι := Bool) (fun (x128_6 : Bool) => mk [(4, .sl 2 (An Aa.enc y_4.1)), (14, .sl 1 (An eI e)), (17, .sl 1 (An eI y_8.1)), (77, .sl 1 (An (eL 1 eI) y_5.1)), (78, .val (.int .i64 (y_5.1.length : Int))), (79, vk x79_5), (128, .val (.bool x128_6))] [] 0) (fun (x128_6 : Bool) => Ao.j6 y_4 x79_5 e y_8 x128_6 = some o5) ?_ ?_
 refine Ak (Ce _ _ []) 224 448 B rfl rfl ?_
 refine A5 ?_
 rcases Gh G with ⟨h38, G⟩ | ⟨h38, G⟩
 refine Bl fun B => ?_
 exact ⟨true, G, Ax []⟩
 refine A5 ?_
 rcases Gh G with ⟨h40, G⟩ | ⟨h40, G⟩
 refine Bl fun B => ?_
 exact ⟨true, G, Ax []⟩
 refine A5 ?_
 rcases Gh G with ⟨h42, G⟩ | ⟨h42, G⟩
 refine Bl fun B => ?_
 exact ⟨true, G, Ax []⟩
 refine A5 ?_
 refine Ei (Ea rfl rfl h42) rfl (W5 lA) rfl rfl ?_
 refine A5 ?_
 rcases Gh G with ⟨h44, G⟩ | ⟨h44, G⟩
 refine Bl fun B => ?_
 exact ⟨true, G, Ax []⟩
 refine A5 ?_
 refine Ei (Ea rfl rfl h44) rfl (W5 lA) rfl rfl ?_
 refine Bl fun B => ?_
 exact ⟨!decide ((decide ((y_9.1.length : Int) = 0)) = (decide ((e.length : Int) = 0))), G, Ax []⟩
 rintro x128_6 G
 replace G : Ao.j6 y_4 x79_5 e y_8 x128_6 = some o5 := G
 show Ca _ _ _ _ (mk _ _ _)
 unfold Ao.j6 at G
 refine Cn rfl G (fun h47 G => ?_) fun h47 G => ?_
 refine Bk 0 8 Ba fun B => ?_
 refine Et ?_
 replace G := Bn G hn5
 exact Q2
 refine Cp ?_
 refine Bk 0 24 Ba fun B => ?_
 refine Aj <| Fq (fun (x131_7 : Int) => mk [(4, .sl 2 (An Aa.enc y_4.1)), (14, .sl 1 (An eI e)), (77, .sl 1 (An (eL 1 eI) y_5.1)), (78, .val (.int .i64 (y_5.1.length : Int))), (79, vk x79_5), (129, .sl 1 (An eI y_8.1)), (130, .val (.int .i64 (y_8.1.length : Int))), (131, vk x131_7)] [] 0) G (Ax []) ?_
 rintro x131_7 m7 o7 G hn7
 replace G : Ao.l7 y_4 x79_5 e y_8 x131_7 = some o7 := G
 show Ca _ _ _ _ (mk _ _ _)
 unfold Ao.l7 at G
 refine Bk 0 8 Ba fun B => ?_
 refine Af <| Cn rfl G (fun h51 G => ?_) fun h51 G => ?_
 refine Cp ?_
 refine Af <| Aj <| Cf 8 32 B ?_
 obtain ⟨e_2, he_2, G⟩ := Ab G
 refine A5 ?_
 refine Ps he_2 ?_
 refine Bl fun B => ?_
 refine Cf 32 112 B ?_
 refine A5 ?_
 obtain ⟨y_10, hy_10, G⟩ := Ab G
 refine Dz (Hj _ _ _ _ hy_10) ?_
 obtain ⟨y_11, hy_11, G⟩ := Ab G
 refine Dz (Im _ _ _ _ hy_11) ?_
 refine Bl fun B => ?_
 refine B0 (ι := Bool) (fun (x150_8 : Bool) => mk [(4, .sl 2 (An Aa.enc y_4.1)), (14, .sl 1 (An eI e)), (77, .sl 1 (An (eL 1 eI) y_5.1)), (78, .val (.int .i64 (y_5.1.length : Int))), (79, vk x79_5), (129, .sl 1 (An eI y_8.1)), (130, .val (.int .i64 (y_8.1.length : Int))), (131, vk x131_7), (150, .val (.bool x150_8))] [] 0) (fun (x150_8 : Bool) => Ao.j8 x131_7 x150_8 = some o7) ?_ ?_
 refine Ak (Ce _ _ []) 112 176 B rfl rfl ?_
 refine A5 ?_
 rcases Gh G with ⟨h54, G⟩ | ⟨h54, G⟩
 refine Bl fun B => ?_
 exact ⟨true, G, Ax []⟩
 refine A5 ?_
 obtain ⟨y_12, hy_12, G⟩ := Ab G
 refine Dz (Pk _ _ _ hy_12) ?_
 refine Bl fun B => ?_
 exact ⟨!y_12, G, Ax []⟩
 rintro x150_8 G
 replace G : Ao.j8 x131_7 x150_8 = some o7 := G
 show Ca _ _ _ _ (mk _ _ _)
 unfold Ao.j8 at G
 refine Cn rfl G (fun h57 G => ?_) fun h57 G => ?_
 refine Bk 0 8 Ba fun B => ?_
 refine Et ?_
 replace G := Bn G hn7
 replace G := Bn G hn5
 exact Q2
 refine Cp ?_
 refine Ak (Ce _ _ []) 0 16 Ba rfl rfl ?_
 refine Bl fun B => ?_
 obtain rfl := oi_ G
 exact ⟨(W (x131_7 + 1), m7), Nat.lt_succ_self _, hn7, Ax []⟩
 refine Fl ?_
 replace G := Bn G hn7
 refine Ak (Ce _ _ []) 8 24 B rfl rfl ?_
 refine Bl fun B => ?_
 obtain rfl := oi_ G
 exact ⟨(W (x79_5 + 1), m5), Nat.lt_succ_self _, hn5, Ax []⟩
 refine Fl ?_
 replace G := Bn G hn5
 refine Cf 8 64 B ?_
 refine A5 ?_
 obtain ⟨y_13, hy_13, G⟩ := Ab G
 refine Dz (Lr _ _ _ hy_13) ?_
 refine Bl fun B => ?_
 refine Bk 64 72 B fun B => ?_
 refine Af <| Bk 72 96 B fun B => ?_
 refine Aj <| Fq (fun ((s_9, x160_9) : List Int × Int) => mk [(4, .sl 2 (An Aa.enc y_4.1)), (25, .sl 1 (An eI y_13.1)), (26, vk y_13.2), (27, .sl 1 (An eI s_9)), (158, .sl 1 (An eI y_13.1)), (159, .val (.int .i64 (y_13.1.length : Int))), (160, vk x160_9)] [] 0) G (Ax []) ?_
 rintro ⟨s_9, x160_9⟩ m9 o9 G hn9
 replace G : Ao.l9 y_4 y_13 s_9 x160_9 = some o9 := G
 show Ca _ _ _ _ (mk _ _ _)
 unfold Ao.l9 at G
 refine Bk 0 8 Ba fun B => ?_
 refine Af <| Cn rfl G (fun h65 G => ?_) fun h65 G => ?_
 refine Cp ?_
 refine Af <| Aj <| Cf 8 32 B ?_
 obtain ⟨e_3, he_3, G⟩ := Ab G
 refine A5 ?_
 refine Ps he_3 ?_
 refine Bl fun B => ?_
 refine Cf 32 64 B ?_
 refine A5 ?_
 obtain ⟨y_14, hy_14, G⟩ := Ab G
 refine Dz (Hj _ _ _ _ hy_14) ?_
 refine Bl fun B => ?_
 refine Cf 64 128 B ?_
 refine A5 ?_
 obtain ⟨y_15, hy_15, G⟩ := Ab G
 refine Dz (Ha _ _ _ _ hy_15) ?_
 refine Bl fun B => ?_
 refine B0 (ι := Bool) (fun (x178_10 : Bool) => mk [(4, .sl 2 (An Aa.enc y_4.1)), (25, .sl 1 (An eI y_13.1)), (26, vk y_13.2), (27, .sl 1 (An eI y_14)), (158, .sl 1 (An eI y_13.1)), (159, .val (.int .i64 (y_13.1.length : Int))), (160, vk x160_9), (178, .val (.bool x178_10))] [] 0) (fun (x178_10 : Bool) => Ao.j10 x160_9 y_14 x178_10 = some o9) ?_ ?_
 refine Ak (Ce _ _ []) 128 176 B rfl rfl ?_
 refine A5 ?_
 rcases Gh G with ⟨h69, G⟩ | ⟨h69, G⟩
 refine Bl fun B => ?_
 exact ⟨true, G, Ax []⟩
 refine Bl fun B => ?_
 exact ⟨!decide (y_15.2 = 0), G, Ax []⟩
 rintro x178_10 G
 replace G : Ao.j10 x160_9 y_14 x178_10 = some o9 := G
 show Ca _ _ _ _ (mk _ _ _)
 unfold Ao.j10 at G
 refine Cn rfl G (fun h72 G => ?_) fun h72 G => ?_
 refine Bk 0 8 Ba fun B => ?_
 refine Et ?_
 replace G := Bn G hn9
 exact Q2
 refine Cp ?_
 refine Ak (Ce _ _ []) 0 16 Ba rfl rfl ?_
 refine Bl fun B => ?_
 obtain rfl := oi_ G
 exact ⟨((y_14, W (x160_9 + 1)), m9), Nat.lt_succ_self _, hn9, Ax []⟩
 refine Fl ?_
 replace G := Bn G hn9
 refine Cf 8 136 B ?_
 refine A5 ?_
 rcases Gh G with ⟨h75, G⟩ | ⟨h75, G⟩
 refine A5 ?_
 rcases Gh G with ⟨h76, G⟩ | ⟨h76, G⟩
 refine A5 ?_
 rcases Gh G with ⟨h77, G⟩ | ⟨h77, G⟩
 obtain ⟨y_16, hy_16, G⟩ := Ab G
 refine Dz (D8 _ hy_16) ?_
 exact E7
 exact E7
 exact E7
 exact E7
theorem Sj (a : (List Int)) (b : (List Int)) (r : Bool) (G : Gx a b = some r) : Fn Tryd.prog 50 0 [.sl 1 (An eI a), .sl 1 (An eI b)] [] (fun d' b' => d' = .val (.bool r) /\ b' = []) := by
 unfold Gx at G
 refine Fn.of Tryd.func50 rfl rfl rfl fun w0 I ρ0 => ?_
 show Ca _ ⟨w0, I, ρ0, 0, 0, 8, none⟩ _ _ _
 refine Bk 0 8 Ba fun B => ?_
 refine Cf 8 40 B ?_
 refine A5 ?_
 obtain ⟨y, hy, G⟩ := Ab G
 refine Dz (Px _ _ _ hy) ?_
 exact E7
theorem Pf (l : (List (List Int))) (s : (List Int)) (r : Bool) (G : Eo l s = some r) : Fn Tryd.prog 20 0 [.sl 1 (An (eL 1 eI) l), .sl 1 (An eI s)] [] (fun d' b' => d' = .val (.bool r) /\ b' = []) := by
 unfold Eo at G
 refine Fn.of Tryd.func20 rfl rfl rfl fun w0 I ρ0 => ?_
 show Ca _ ⟨w0, I, ρ0, 0, 0, 17, none⟩ _ _ _
 refine Bk 0 8 Ba fun B => ?_
 refine Af <| Bk 8 32 B fun B => ?_
 refine Aj <| Fq (fun (x9_1 : Int) => mk [(1, .sl 1 (An eI s)), (7, .sl 1 (An (eL 1 eI) l)), (8, .val (.int .i64 (l.length : Int))), (9, vk x9_1)] [] 0) G (Ax []) ?_
 rintro x9_1 m1 o1 G hn1
 replace G : Eo.l1 l s x9_1 = some o1 := G
 show Ca _ _ _ _ (mk _ _ _)
 unfold Eo.l1 at G
 refine Bk 0 8 Ba fun B => ?_
 refine Af <| Cn rfl G (fun h4 G => ?_) fun h4 G => ?_
 refine Cp ?_
 refine Af <| Aj <| Cf 8 32 B ?_
 obtain ⟨e, he, G⟩ := Ab G
 refine A5 ?_
 refine Ei rfl rfl (D0 Sq (A9 (Dj _ _) (Ar he) (o := 0) (c := .sl 1 (An eI e)) rfl rfl)) rfl rfl ?_
 refine Bl fun B => ?_
 refine Cf 32 56 B ?_
 refine A5 ?_
 obtain ⟨y, hy, G⟩ := Ab G
 refine Dz (Sj _ _ _ hy) ?_
 refine Fc fun B => ?_
 refine Cn rfl G (fun h7 G => ?_) fun h7 G => ?_
 refine Bk 56 64 B fun B => ?_
 refine Et ?_
 replace G := Bn G hn1
 exact Q2
 refine Cp ?_
 refine Ak (Ce _ _ []) 56 72 B rfl rfl ?_
 refine Bl fun B => ?_
 obtain rfl := oi_ G
 exact ⟨(W (x9_1 + 1), m1), Nat.lt_succ_self _, hn1, Ax []⟩
 refine Fl ?_
 replace G := Bn G hn1
 refine Bk 8 16 B fun B => ?_
 exact Ng
theorem Pe (t : (List Int)) (r : Bool) (G : Az t = some r) : Fn Tryd.prog 4 0 [.sl 1 (An eI t)] [] (fun d' b' => d' = .val (.bool r) /\ b' = []) := by
 unfold Az at G
 refine Fn.of Tryd.func4 rfl rfl rfl fun w0 I ρ0 => ?_
 show Ca _ ⟨w0, I, ρ0, 0, 0, 103, none⟩ _ _ _
 refine Bk 0 8 Ba fun B => ?_
 refine Af <| Cf 8 32 B ?_
 refine A5 ?_
 obtain ⟨y, hy, G⟩ := Ab G
 refine Dz (Io _ _ hy) ?_
 refine Bl fun B => ?_
 refine Cn rfl G (fun h3 G => ?_) fun h3 G => ?_
 refine Cf 32 48 B ?_
 obtain ⟨y_2, hy_2, G⟩ := Ab G
 refine Dz (D8 _ hy_2) ?_
 exact E7
 refine Cp ?_
 refine Cf 32 56 B ?_
 refine A5 ?_
 obtain ⟨y_3, hy_3, G⟩ := Ab G
 refine Dv (rd := []) (ps := []) (gs := []) false rfl (Jn _ _ hy_3) rfl rfl (.cons .sl .nil) rfl rfl (by intro h; cases h) rfl (by intro h; first | (cases h; done) | exact ⟨_, _, ⟨rfl, rfl⟩, by simp, by simp⟩) ?_
 rintro _ _ ⟨rfl, rfl⟩
 refine Bl fun B => ?_
 refine Cf 56 80 B ?_
 refine A5 ?_
 obtain ⟨y_4, hy_4, G⟩ := Ab G
 refine Kg [40] [40] [] false (Iq _ _ _ hy_4) ?_
 refine Bl fun B => ?_
 refine Cf 80 104 B ?_
 refine A5 ?_
 obtain ⟨y_5, hy_5, G⟩ := Ab G
 refine Kg [40] [40] [] false (Pq _ _ _ hy_5) ?_
 refine Bl fun B => ?_
 refine Cf 104 168 B ?_
 refine A5 ?_
 obtain ⟨y_6, hy_6, G⟩ := Ab G
 refine Dz (Qp _ _ _ _ hy_6) ?_
 refine Bl fun B => ?_
 refine Cf 168 240 B ?_
 refine A5 ?_
 obtain ⟨y_7, hy_7, G⟩ := Ab G
 refine Dz (F0 _ _ _ hy_7) ?_
 refine Bl fun B => ?_
 refine Cf 240 296 B ?_
 refine A5 ?_
 obtain ⟨y_8, hy_8, G⟩ := Ab G
 refine Dz (F0 _ _ _ hy_8) ?_
 refine Bl fun B => ?_
 refine Af <| Bk 296 344 B fun B => ?_
 refine Cn rfl G (fun h12 G => ?_) fun h12 G => ?_
 refine Cf 344 352 B ?_
 exact E7
 refine Cp ?_
 refine Bk 344 352 B fun B => ?_
 refine Af <| Bk 352 376 B fun B => ?_
 refine Aj <| Fq (fun ((x56_1, want_1) : Int × List (List Int)) => mk [(5, .sl 1 (An eI y_5.1)), (8, .sl 1 (An (eL 1 eI) y_7.1)), (12, .row 0), (54, .sl 1 (An (eL 1 eI) y_8.1)), (55, .val (.int .i64 (y_8.1.length : Int))), (56, vk x56_1)] [(0, .row 38 1 (An (eL 1 eI) want_1))] 1) G (Ax []) ?_
 rintro ⟨x56_1, want_1⟩ m1 o1 G hn1
 replace G : Az.l1 y_5 y_7 y_8 x56_1 want_1 = some o1 := G
 show Ca _ _ _ _ (mk _ _ _)
 unfold Az.l1 at G
 refine Bk 1 9 Ba fun B => ?_
 refine Af <| Cn rfl G (fun h17 G => ?_) fun h17 G => ?_
 refine Cp ?_
 refine B0 (ι := List (List Int)) (fun (want_5 : List (List Int)) => mk [(5, .sl 1 (An eI y_5.1)), (8, .sl 1 (An (eL 1 eI) y_7.1)), (12, .row 0), (54, .sl 1 (An (eL 1 eI) y_8.1)), (55, .val (.int .i64 (y_8.1.length : Int))), (56, vk x56_1)] [(0, .row 38 1 (An (eL 1 eI) want_5))] 1) (fun (want_5 : List (List Int)) => Az.j5 x56_1 want_5 = some o1) ?_ ?_
 refine Aj <| Cf 9 33 B ?_
 obtain ⟨e, he, G⟩ := Ab G
 refine A5 ?_
 refine Ei rfl rfl (D0 Sq (A9 (Dj _ _) (Ar he) (o := 0) (c := .sl 1 (An eI e)) rfl rfl)) rfl rfl ?_
 refine Bl fun B => ?_
 refine Bk 33 41 B fun B => ?_
 refine Af <| Bk 41 65 B fun B => ?_
 refine Aj <| Fq (fun ((x62_2, y_2_2) : Int × List Int) => mk [(5, .sl 1 (An eI y_5.1)), (8, .sl 1 (An (eL 1 eI) y_7.1)), (12, .row 0), (14, .sl 1 (An eI e)), (15, .row 1), (54, .sl 1 (An (eL 1 eI) y_8.1)), (55, .val (.int .i64 (y_8.1.length : Int))), (56, vk x56_1), (60, .sl 1 (An eI y_5.1)), (61, .val (.int .i64 (y_5.1.length : Int))), (62, vk x62_2)] [(0, .row 38 1 (An (eL 1 eI) want_1)), (1, .row 3 1 (An eI y_2_2))] 2) G (Ax [(0, 0)]) ?_
 rintro ⟨x62_2, y_2_2⟩ m2 o2 G hn2
 replace G : Az.l2 y_5 x56_1 want_1 e x62_2 y_2_2 = some o2 := G
 show Ca _ _ _ _ (mk _ _ _)
 unfold Az.l2 at G
 refine Bk 2 10 Ba fun B => ?_
 refine Af <| Cn rfl G (fun h22 G => ?_) fun h22 G => ?_
 refine Cp ?_
 refine B0 (ι := List Int) (fun (y_3_2 : List Int) => mk [(5, .sl 1 (An eI y_5.1)), (8, .sl 1 (An (eL 1 eI) y_7.1)), (12, .row 0), (14, .sl 1 (An eI e)), (15, .row 1), (54, .sl 1 (An (eL 1 eI) y_8.1)), (55, .val (.int .i64 (y_8.1.length : Int))), (56, vk x56_1), (60, .sl 1 (An eI y_5.1)), (61, .val (.int .i64 (y_5.1.length : Int))), (62, vk x62_2)] [(0, .row 38 1 (An (eL 1 eI) want_1)), (1, .row 3 1 (An eI y_3_2))] 2) (fun (y_3_2 : List Int) => Az.j3 x62_2 y_3_2 = some o2) ?_ ?_
 refine Aj <| Cf 10 50 B ?_
 refine A5 ?_
 obtain ⟨e_2, he_2, G⟩ := Ab G
 refine A5 ?_
 refine Ps he_2 ?_
 refine Bl fun B => ?_
 refine Cf 50 74 B ?_
 refine A5 ?_
 obtain ⟨y_9, hy_9, G⟩ := Ab G
 refine Dz (Pk _ _ _ hy_9) ?_
 refine Fc fun B => ?_
 refine Cn rfl G (fun h25 G => ?_) fun h25 G => ?_
 refine Ak (Ce _ _ []) 74 114 B rfl rfl ?_
 refine A5 ?_
 refine Pt Ka z3 aE ([x62_2] : List Int) eI ?_
 obtain ⟨l, hl, G⟩ := Ab G
 refine Ch (rd := [1, 90]) rfl rfl (Dr Ka G0 .row rfl .row rfl hl rfl) rfl rfl ?_
 refine Bl fun B => ?_
 exact ⟨l, G, Ax [(0, 0), (1, 98)]⟩
 refine Cp ?_
 exact ⟨y_2_2, G, Ax [(0, 0), (1, 1)]⟩
 rintro y_3_2 G
 replace G : Az.j3 x62_2 y_3_2 = some o2 := G
 show Ca _ _ _ _ (mk _ _ _)
 unfold Az.j3 at G
 refine Ak (Ce _ _ []) 2 18 Ba rfl rfl ?_
 refine Bl fun B => ?_
 obtain rfl := oi_ G
 exact ⟨((W (x62_2 + 1), y_3_2), m2), Nat.lt_succ_self _, hn2, Ax [(0, 0), (1, 1)]⟩
 refine Fl ?_
 replace G := Bn G hn2
 refine Cf 10 42 B ?_
 refine A5 ?_
 obtain ⟨y_10, hy_10, G⟩ := Ab G
 refine Kg [0, 1] [] [] true (Pf _ _ _ hy_10) ?_
 refine Bl fun B => ?_
 refine Cn rfl G (fun h29 G => ?_) fun h29 G => ?_
 refine It (σ' := mk [(5, .sl 1 (An eI y_5.1)), (8, .sl 1 (An (eL 1 eI) y_7.1)), (12, .row 0), (15, .sl 1 (An eI y_2_2)), (54, .sl 1 (An (eL 1 eI) y_8.1)), (55, .val (.int .i64 (y_8.1.length : Int))), (56, vk x56_1)] [(0, .row 38 1 (An (eL 1 eI) want_1))] 1) (Ax [(0, 0)]) ?_
 refine Ak (Ce _ _ []) 1 41 Ba rfl rfl ?_
 refine A5 ?_
 refine Pt O2 lN Zr ([y_2_2] : List (List Int)) (eL 1 eI) ?_
 obtain ⟨l_2, hl_2, G⟩ := Ab G
 refine Ch (rd := [0, 17]) rfl rfl (Dr O2 (Dj _ _) .row rfl .row rfl hl_2 rfl) rfl rfl ?_
 refine Bl fun B => ?_
 exact ⟨l_2, G, Ax [(0, 25)]⟩
 refine Cp ?_
 exact ⟨want_1, G, Ax [(0, 0)]⟩
 rintro want_5 G
 replace G : Az.j5 x56_1 want_5 = some o1 := G
 show Ca _ _ _ _ (mk _ _ _)
 unfold Az.j5 at G
 refine Ak (Ce _ _ []) 1 17 Ba rfl rfl ?_
 refine Bl fun B => ?_
 obtain rfl := oi_ G
 exact ⟨((W (x56_1 + 1), want_5), m1), Nat.lt_succ_self _, hn1, Ax [(0, 0)]⟩
 refine Fl ?_
 replace G := Bn G hn1
 refine Af <| Bk 9 33 B fun B => ?_
 refine Aj <| Fq (fun (x86_6 : Int) => mk [(8, .sl 1 (An (eL 1 eI) y_7.1)), (12, .row 0), (84, .row 0), (85, .val (.int .i64 (want_1.length : Int))), (86, vk x86_6)] [(0, .row 38 1 (An (eL 1 eI) want_1))] 1) G (Ax [(0, 0)]) ?_
 rintro x86_6 m6 o6 G hn6
 replace G : Az.l6 y_7 want_1 x86_6 = some o6 := G
 show Ca _ _ _ _ (mk _ _ _)
 unfold Az.l6 at G
 refine Bk 1 9 Ba fun B => ?_
 refine Af <| Cn rfl G (fun h34 G => ?_) fun h34 G => ?_
 refine Cp ?_
 refine Af <| Aj <| Cf 9 33 B ?_
 obtain ⟨e_3, he_3, G⟩ := Ab G
 refine A5 ?_
 refine Ch (rd := [0]) rfl rfl (.loadR1 Sq (A9 (Dj _ _) (Ar he_3) (o := 0) (c := .sl 1 (An eI e_3)) rfl rfl)) rfl rfl ?_
 refine Bl fun B => ?_
 refine Cf 33 65 B ?_
 refine A5 ?_
 obtain ⟨y_11, hy_11, G⟩ := Ab G
 refine Dz (Pf _ _ _ hy_11) ?_
 refine Bl fun B => ?_
 refine Cn rfl G (fun h37 G => ?_) fun h37 G => ?_
 refine Bk 65 73 B fun B => ?_
 refine Et ?_
 replace G := Bn G hn6
 exact Q2
 refine Cp ?_
 refine Ak (Ce _ _ []) 65 81 B rfl rfl ?_
 refine Bl fun B => ?_
 obtain rfl := oi_ G
 exact ⟨(W (x86_6 + 1), m6), Nat.lt_succ_self _, hn6, Ax [(0, 0)]⟩
 refine Fl ?_
 replace G := Bn G hn6
 refine Cf 9 81 B ?_
 refine A5 ?_
 rcases Gh G with ⟨h40, G⟩ | ⟨h40, G⟩
 obtain ⟨y_12, hy_12, G⟩ := Ab G
 refine Dz (D8 _ hy_12) ?_
 exact E7
 exact E7
theorem O8 (l : (List Aa)) (r' : Aa) (r : Bool) (G : D3 l r' = some r) : Fn Tryd.prog 15 0 [.sl 2 (An Aa.enc l), .agg [vk r'.First, vk r'.Then]] [] (fun d' b' => d' = .val (.bool r) /\ b' = []) := by
 unfold D3 at G
 refine Fn.of Tryd.func15 rfl rfl rfl fun w0 I ρ0 => ?_
 show Ca _ ⟨w0, I, ρ0, 0, 0, 17, none⟩ _ _ _
 refine Bk 0 16 Ba fun B => ?_
 refine Af <| Bk 16 40 B fun B => ?_
 refine Aj <| Fq (fun (x9_1 : Int) => mk [(3, .ptr 0 0), (7, .sl 2 (An Aa.enc l)), (8, .val (.int .i64 (l.length : Int))), (9, vk x9_1)] [(0, .box [vk r'.First, vk r'.Then] 33)] 1) G (Ax [(0, 0)]) ?_
 rintro x9_1 m1 o1 G hn1
 replace G : D3.l1 l r' x9_1 = some o1 := G
 show Ca _ _ _ _ (mk _ _ _)
 unfold D3.l1 at G
 refine Bk 1 9 Ba fun B => ?_
 refine Af <| Cn rfl G (fun h4 G => ?_) fun h4 G => ?_
 refine Cp ?_
 refine Af <| Aj <| Cf 9 41 B ?_
 obtain ⟨e, he, G⟩ := Ab G
 refine A5 ?_
 refine Xt he ?_
 refine Bl fun B => ?_
 refine Cf 41 65 B ?_
 refine A5 ?_
 refine Ei rfl rfl (Tv e r') rfl rfl ?_
 refine Fc fun B => ?_
 refine Cn rfl G (fun h7 G => ?_) fun h7 G => ?_
 refine Bk 65 73 B fun B => ?_
 refine Et ?_
 replace G := Bn G hn1
 exact Q2
 refine Cp ?_
 refine Ak (Ce _ _ []) 65 81 B rfl rfl ?_
 refine Bl fun B => ?_
 obtain rfl := oi_ G
 exact ⟨(W (x9_1 + 1), m1), Nat.lt_succ_self _, hn1, Ax [(0, 0)]⟩
 refine Fl ?_
 replace G := Bn G hn1
 refine Bk 9 17 B fun B => ?_
 exact Ng
theorem Po (t : (List Int)) (a : UInt8) (b : UInt8) (r : Bool) (G : A4 t a b = some r) : Fn Tryd.prog 3 0 [.sl 1 (An eI t), .val (.int .u8 (a.toNat : Int)), .val (.int .u8 (b.toNat : Int))] [] (fun d' b' => d' = .val (.bool r) /\ b' = []) := by
 unfold A4 at G
 refine Fn.of Tryd.func3 rfl rfl rfl fun w0 I ρ0 => ?_
 show Ca _ ⟨w0, I, ρ0, 0, 0, 104, none⟩ _ _ _
 refine Bk 0 8 Ba fun B => ?_
 refine Af <| Cf 8 32 B ?_
 refine A5 ?_
 obtain ⟨y, hy, G⟩ := Ab G
 refine Dz (Io _ _ hy) ?_
 refine Bl fun B => ?_
 refine Cn rfl G (fun h3 G => ?_) fun h3 G => ?_
 refine Cf 32 48 B ?_
 obtain ⟨y_2, hy_2, G⟩ := Ab G
 refine Dz (D8 _ hy_2) ?_
 exact E7
 refine Cp ?_
 refine Cf 32 64 B ?_
 refine A5 ?_
 obtain ⟨y_3, hy_3, G⟩ := Ab G
 refine Dv (rd := []) (ps := []) (gs := []) false rfl (Jn _ _ hy_3) rfl rfl (.cons .sl .nil) rfl rfl (by intro h; cases h) rfl (by intro h; first | (cases h; done) | exact ⟨_, _, ⟨rfl, rfl⟩, by simp, by simp⟩) ?_
 rintro _ _ ⟨rfl, rfl⟩
 obtain ⟨y_4, hy_4, G⟩ := Ab G
 refine Kg [40] [40] [] false (Iq _ _ _ hy_4) ?_
 refine Bl fun B => ?_
 refine Cf 64 120 B ?_
 refine A5 ?_
 obtain ⟨y_5, hy_5, G⟩ := Ab G
 refine Dz (M7 _ _ _ hy_5) ?_
 refine Bl fun B => ?_
 refine Af <| Bk 120 136 B fun B => ?_
 refine Cn rfl G (fun h8 G => ?_) fun h8 G => ?_
 refine Cf 136 144 B ?_
 exact E7
 refine Cp ?_
 refine Af <| Bk 136 160 B fun B => ?_
 refine Aj <| Fq (fun (x34_1 : Int) => mk [(1, .val (.int .u8 (a.toNat : Int))), (2, .val (.int .u8 (b.toNat : Int))), (7, .sl 2 (An Aa.enc y_4.1)), (8, .sl 2 (An Aa.enc y_5.1)), (32, .sl 2 (An Aa.enc y_5.1)), (33, .val (.int .i64 (y_5.1.length : Int))), (34, vk x34_1)] [] 0) G (Ax []) ?_
 rintro x34_1 m1 o1 G hn1
 replace G : A4.l1 a b y_4 y_5 x34_1 = some o1 := G
 show Ca _ _ _ _ (mk _ _ _)
 unfold A4.l1 at G
 refine Bk 0 8 Ba fun B => ?_
 refine Af <| Cn rfl G (fun h12 G => ?_) fun h12 G => ?_
 refine Cp ?_
 refine Af <| Aj <| Cf 8 40 B ?_
 obtain ⟨e, he, G⟩ := Ab G
 refine A5 ?_
 refine Xt he ?_
 refine Bl fun B => ?_
 refine Af <| Ak (Ce _ _ [88]) 40 112 B rfl rfl ?_
 refine A5 ?_
 refine cG Mn Tt Uv ?_
 refine rC Md Uv Vm ([(Aa.mk e.Then e.First)] : List Aa) Aa.enc ?_
 obtain ⟨y_6, hy_6, G⟩ := Ab G
 refine Dz (Hy _ _ _ hy_6) ?_
 refine Bl fun B => ?_
 refine Af <| Cf 112 136 B ?_
 refine A5 ?_
 obtain ⟨y_7, hy_7, G⟩ := Ab G
 refine Dz (H1 _ _ _ hy_7) ?_
 refine Bl fun B => ?_
 refine Cn rfl G (fun h16 G => ?_) fun h16 G => ?_
 refine Bk 136 144 B fun B => ?_
 refine Et ?_
 replace G := Bn G hn1
 exact Q2
 refine Cp ?_
 refine Bk 136 160 B fun B => ?_
 refine Aj <| Fq (fun (x51_2 : Int) => mk [(1, .val (.int .u8 (a.toNat : Int))), (2, .val (.int .u8 (b.toNat : Int))), (7, .sl 2 (An Aa.enc y_4.1)), (8, .sl 2 (An Aa.enc y_5.1)), (11, .ptr 0 0), (32, .sl 2 (An Aa.enc y_5.1)), (33, .val (.int .i64 (y_5.1.length : Int))), (34, vk x34_1), (49, .sl 2 (An Aa.enc y_5.1)), (50, .val (.int .i64 (y_5.1.length : Int))), (51, vk x51_2)] [(0, .box [vk e.First, vk e.Then] 33)] 1) G (Ax [(0, 24)]) ?_
 rintro x51_2 m2 o2 G hn2
 replace G : A4.l2 y_5 x34_1 e x51_2 = some o2 := G
 show Ca _ _ _ _ (mk _ _ _)
 unfold A4.l2 at G
 refine Bk 1 9 Ba fun B => ?_
 refine Af <| Cn rfl G (fun h20 G => ?_) fun h20 G => ?_
 refine Cp ?_
 refine Af <| Aj <| Cf 9 41 B ?_
 obtain ⟨e_2, he_2, G⟩ := Ab G
 refine A5 ?_
 refine Xt he_2 ?_
 refine Bl fun B => ?_
 refine B0 (ι := Bool) (fun (x69_3 : Bool) => mk [(1, .val (.int .u8 (a.toNat : Int))), (2, .val (.int .u8 (b.toNat : Int))), (7, .sl 2 (An Aa.enc y_4.1)), (8, .sl 2 (An Aa.enc y_5.1)), (11, .ptr 0 0), (32, .sl 2 (An Aa.enc y_5.1)), (33, .val (.int .i64 (y_5.1.length : Int))), (34, vk x34_1), (49, .sl 2 (An Aa.enc y_5.1)), (50, .val (.int .i64 (y_5.1.length : Int))), (51, vk x51_2), (69, .val (.bool x69_3))] [(0, .box [vk e.First, vk e.Then] 33)] 1) (fun (x69_3 : Bool) => A4.j3 x51_2 x69_3 = some o2) ?_ ?_
 refine Ak (Ce _ _ []) 41 161 B rfl rfl ?_
 refine A5 ?_
 rcases Gh G with ⟨h22, G⟩ | ⟨h22, G⟩
 refine A5 ?_
 refine cG Mn Tt Uv ?_
 obtain ⟨y_8, hy_8, G⟩ := Ab G
 refine Dz (O8 _ _ _ hy_8) ?_
 refine Bl fun B => ?_
 exact ⟨!y_8, G, Ax [(0, 0)]⟩
 refine Bl fun B => ?_
 exact ⟨false, G, Ax [(0, 0)]⟩
 rintro x69_3 G
 replace G : A4.j3 x51_2 x69_3 = some o2 := G
 show Ca _ _ _ _ (mk _ _ _)
 unfold A4.j3 at G
 refine Cn rfl G (fun h25 G => ?_) fun h25 G => ?_
 refine Bk 1 9 Ba fun B => ?_
 refine Et ?_
 replace G := Bn G hn2
 replace G := Bn G hn1
 exact Q2
 refine Cp ?_
 refine Ak (Ce _ _ []) 1 17 Ba rfl rfl ?_
 refine Bl fun B => ?_
 obtain rfl := oi_ G
 exact ⟨(W (x51_2 + 1), m2), Nat.lt_succ_self _, hn2, Ax [(0, 0)]⟩
 refine Fl ?_
 replace G := Bn G hn2
 refine Ak (Ce _ _ []) 9 25 B rfl rfl ?_
 refine Bl fun B => ?_
 obtain rfl := oi_ G
 exact ⟨(W (x34_1 + 1), m1), Nat.lt_succ_self _, hn1, Ax []⟩
 refine Fl ?_
 replace G := Bn G hn1
 refine Cf 8 80 B ?_
 refine A5 ?_
 obtain ⟨q, hq, G⟩ := Ab G
 refine Ei rfl rfl (Ws (a := a) (b := (7 : UInt8)) hq) rfl rfl ?_
 refine Ei rfl rfl (Kf (u := q) Zq Ve) rfl rfl ?_
 refine A5 ?_
 obtain ⟨q_2, hq_2, G⟩ := Ab G
 refine Ei rfl rfl (Ws (a := b) (b := (7 : UInt8)) hq_2) rfl rfl ?_
 refine Ei rfl rfl (Kf (u := q_2) Zq Ve) rfl rfl ?_
 refine cG Mn Tt Uv ?_
 refine Bl fun B => ?_
 refine Af <| Ak (Ce _ _ [96]) 80 128 B rfl rfl ?_
 refine A5 ?_
 refine rC Md Uv Vm ([(Aa.mk (q.toNat : Int) (q_2.toNat : Int))] : List Aa) Aa.enc ?_
 obtain ⟨y_9, hy_9, G⟩ := Ab G
 refine Dz (Hy _ _ _ hy_9) ?_
 obtain ⟨y_10, hy_10, G⟩ := Ab G
 refine Dz (H1 _ _ _ hy_10) ?_
 refine Bl fun B => ?_
 refine Bk 128 136 B fun B => ?_
 refine B0 (ι := Int) (fun (want_4 : Int) => mk [(16, vk y_10), (17, vk want_4)] [] 0) (fun (want_4 : Int) => A4.j4 y_10 want_4 = some r) ?_ ?_
 refine Aj <| Bk 136 184 B fun B => ?_
 refine Cn rfl G (fun h33 G => ?_) fun h33 G => ?_
 refine Ak (Ce _ _ []) 184 192 B rfl rfl ?_
 refine Bl fun B => ?_
 exact ⟨44, G, Ax []⟩
 refine Cf 184 248 B ?_
 refine A5 ?_
 refine cG Mn Tt Uv ?_
 obtain ⟨y_11, hy_11, G⟩ := Ab G
 refine Dz (O8 _ _ _ hy_11) ?_
 refine Bl fun B => ?_
 refine Cn rfl G (fun h36 G => ?_) fun h36 G => ?_
 refine Ak (Ce _ _ []) 248 256 B rfl rfl ?_
 refine Bl fun B => ?_
 exact ⟨45, G, Ax []⟩
 refine Cp ?_
 exact ⟨0, G, Ax []⟩
 rintro want_4 G
 replace G : A4.j4 y_10 want_4 = some r := G
 show Ca _ _ _ _ (mk _ _ _)
 unfold A4.j4 at G
 refine Cf 0 56 Ba ?_
 refine A5 ?_
 rcases Gh G with ⟨h38, G⟩ | ⟨h38, G⟩
 obtain ⟨y_12, hy_12, G⟩ := Ab G
 refine Dz (D8 _ hy_12) ?_
 exact E7
 exact E7
theorem Pi (t : (List Int)) (a : UInt8) (b : UInt8) (r : Bool) (G : A6 t a b = some r) : Fn Tryd.prog 5 0 [.sl 1 (An eI t), .val (.int .u8 (a.toNat : Int)), .val (.int .u8 (b.toNat : Int))] [] (fun d' b' => d' = .val (.bool r) /\ b' = []) := by
 unfold A6 at G
 refine Fn.of Tryd.func5 rfl rfl rfl fun w0 I ρ0 => ?_
 show Ca _ ⟨w0, I, ρ0, 0, 0, 131, none⟩ _ _ _
 refine Bk 0 8 Ba fun B => ?_
 refine Af <| Cf 8 32 B ?_
 refine A5 ?_
 obtain ⟨y, hy, G⟩ := Ab G
 refine Dz (Io _ _ hy) ?_
 refine Bl fun B => ?_
 refine Cn rfl G (fun h3 G => ?_) fun h3 G => ?_
 refine Cf 32 48 B ?_
 obtain ⟨y_2, hy_2, G⟩ := Ab G
 refine Dz (D8 _ hy_2) ?_
 exact E7
 refine Cp ?_
 refine Cf 32 64 B ?_
 refine A5 ?_
 obtain ⟨y_3, hy_3, G⟩ := Ab G
 refine Dv (rd := []) (ps := []) (gs := []) false rfl (Jn _ _ hy_3) rfl rfl (.cons .sl .nil) rfl rfl (by intro h; cases h) rfl (by intro h; first | (cases h; done) | exact ⟨_, _, ⟨rfl, rfl⟩, by simp, by simp⟩) ?_
 rintro _ _ ⟨rfl, rfl⟩
 obtain ⟨y_4, hy_4, G⟩ := Ab G
 refine Kg [40] [40] [] false (Iq _ _ _ hy_4) ?_
 refine Bl fun B => ?_
 refine Cf 64 120 B ?_
 refine A5 ?_
 obtain ⟨y_5, hy_5, G⟩ := Ab G
 refine Dz (Lr _ _ _ hy_5) ?_
 refine Bl fun B => ?_
 refine Af <| B0 (ι := Bool) (fun (x40_1 : Bool) => mk [(1, .val (.int .u8 (a.toNat : Int))), (2, .val (.int .u8 (b.toNat : Int))), (7, .sl 2 (An Aa.enc y_4.1)), (8, .sl 1 (An eI y_5.1)), (40, .val (.bool x40_1))] [] 0) (fun (x40_1 : Bool) => A6.j1 a b y_4 y_5 x40_1 = some r) ?_ ?_
 refine Ak (Ce _ _ []) 120 176 B rfl rfl ?_
 refine A5 ?_
 rcases Gh G with ⟨h7, G⟩ | ⟨h7, G⟩
 refine Bl fun B => ?_
 exact ⟨true, G, Ax []⟩
 refine Bl fun B => ?_
 exact ⟨!decide ((y_5.1.length : Int) = 6), G, Ax []⟩
 rintro x40_1 G
 replace G : A6.j1 a b y_4 y_5 x40_1 = some r := G
 show Ca _ _ _ _ (mk _ _ _)
 unfold A6.j1 at G
 refine Cn rfl G (fun h10 G => ?_) fun h10 G => ?_
 refine Cf 0 8 Ba ?_
 exact E7
 refine Cp ?_
 refine Bk 0 8 Ba fun B => ?_
 refine Af <| Bk 8 32 B fun B => ?_
 refine Aj <| Fq (fun ((s_2, x43_2) : List Int × Int) => mk [(1, .val (.int .u8 (a.toNat : Int))), (2, .val (.int .u8 (b.toNat : Int))), (7, .sl 2 (An Aa.enc y_4.1)), (10, .sl 1 (An eI s_2)), (41, .sl 1 (An eI y_5.1)), (42, .val (.int .i64 (y_5.1.length : Int))), (43, vk x43_2)] [] 0) G (Ax []) ?_
 rintro ⟨s_2, x43_2⟩ m2 o2 G hn2
 replace G : A6.l2 a b y_4 y_5 s_2 x43_2 = some o2 := G
 show Ca _ _ _ _ (mk _ _ _)
 unfold A6.l2 at G
 refine Bk 0 8 Ba fun B => ?_
 refine Af <| Cn rfl G (fun h15 G => ?_) fun h15 G => ?_
 refine Cp ?_
 refine Af <| Aj <| Cf 8 32 B ?_
 obtain ⟨e, he, G⟩ := Ab G
 refine A5 ?_
 refine Ps he ?_
 refine Bl fun B => ?_
 refine Cf 32 96 B ?_
 refine A5 ?_
 obtain ⟨y_6, hy_6, G⟩ := Ab G
 refine Dz (Lv _ _ _ _ hy_6) ?_
 refine Bl fun B => ?_
 refine Af <| B0 (ι := Bool) (fun (x66_3 : Bool) => mk [(1, .val (.int .u8 (a.toNat : Int))), (2, .val (.int .u8 (b.toNat : Int))), (7, .sl 2 (An Aa.enc y_4.1)), (10, .sl 1 (An eI s_2)), (12, vk e), (41, .sl 1 (An eI y_5.1)), (42, .val (.int .i64 (y_5.1.length : Int))), (43, vk x43_2), (66, .val (.bool x66_3))] [] 0) (fun (x66_3 : Bool) => A6.j3 s_2 x43_2 e x66_3 = some o2) ?_ ?_
 refine Ak (Ce _ _ []) 96 208 B rfl rfl ?_
 refine A5 ?_
 rcases Gh G with ⟨h18, G⟩ | ⟨h18, G⟩
 refine Bl fun B => ?_
 exact ⟨true, G, Ax []⟩
 refine A5 ?_
 rcases Gh G with ⟨h20, G⟩ | ⟨h20, G⟩
 refine Bl fun B => ?_
 exact ⟨true, G, Ax []⟩
 refine A5 ?_
 obtain ⟨e_2, he_2, G⟩ := Ab G
 refine A5 ?_
 refine Ps he_2 ?_
 refine Bl fun B => ?_
 exact ⟨!decide (e_2 = e), G, Ax []⟩
 rintro x66_3 G
 replace G : A6.j3 s_2 x43_2 e x66_3 = some o2 := G
 show Ca _ _ _ _ (mk _ _ _)
 unfold A6.j3 at G
 refine Cn rfl G (fun h23 G => ?_) fun h23 G => ?_
 refine Bk 0 8 Ba fun B => ?_
 refine Et ?_
 replace G := Bn G hn2
 exact Q2
 refine Cp ?_
 refine Ak (Ce _ _ []) 0 32 Ba rfl rfl ?_
 refine A5 ?_
 obtain ⟨y_7, hy_7, G⟩ := Ab G
 refine Dz (Hj _ _ _ _ hy_7) ?_
 refine Bl fun B => ?_
 refine Ak (Ce _ _ []) 32 48 B rfl rfl ?_
 refine Bl fun B => ?_
 obtain rfl := oi_ G
 exact ⟨((y_7, W (x43_2 + 1)), m2), Nat.lt_succ_self _, hn2, Ax []⟩
 refine Fl ?_
 replace G := Bn G hn2
 refine Af <| Ak (Ce _ _ [72]) 8 96 B rfl rfl ?_
 refine A5 ?_
 obtain ⟨q, hq, G⟩ := Ab G
 refine Ei rfl rfl (Ws (a := a) (b := (6 : UInt8)) hq) rfl rfl ?_
 refine Ei rfl rfl (Kf (u := q) Zq Ve) rfl rfl ?_
 refine A5 ?_
 obtain ⟨q_2, hq_2, G⟩ := Ab G
 refine Ei rfl rfl (Ws (a := b) (b := (6 : UInt8)) hq_2) rfl rfl ?_
 refine Ei rfl rfl (Kf (u := q_2) Zq Ve) rfl rfl ?_
 refine cG Mn Tt Uv ?_
 refine rC Md Uv Vm ([(Aa.mk (q.toNat : Int) (q_2.toNat : Int))] : List Aa) Aa.enc ?_
 obtain ⟨y_8, hy_8, G⟩ := Ab G
 refine Dz (Hy _ _ _ hy_8) ?_
 refine Bl fun B => ?_
 refine Cf 96 152 B ?_
 refine A5 ?_
 obtain ⟨y_9, hy_9, G⟩ := Ab G
 refine Dz (F0 _ _ _ hy_9) ?_
 refine Bl fun B => ?_
 refine Cf 152 208 B ?_
 refine A5 ?_
 obtain ⟨y_10, hy_10, G⟩ := Ab G
 refine Dz (F0 _ _ _ hy_10) ?_
 refine Bl fun B => ?_
 refine Af <| Cf 208 232 B ?_
 refine A5 ?_
 obtain ⟨y_11, hy_11, G⟩ := Ab G
 refine Dz (H1 _ _ _ hy_11) ?_
 refine Bl fun B => ?_
 refine Cn rfl G (fun h31 G => ?_) fun h31 G => ?_
 refine Cf 232 280 B ?_
 refine A5 ?_
 rcases Gh G with ⟨h32, G⟩ | ⟨h32, G⟩
 obtain ⟨y_12, hy_12, G⟩ := Ab G
 refine Dz (D8 _ hy_12) ?_
 exact E7
 exact E7
 refine Cp ?_
 refine Af <| Bk 232 256 B fun B => ?_
 refine Aj <| Fq (fun (x101_4 : Int) => mk [(16, .sl 1 (An (eL 1 eI) y_9.1)), (17, vk y_9.2), (18, .sl 1 (An (eL 1 eI) y_10.1)), (19, vk y_10.2), (99, .sl 1 (An (eL 1 eI) y_10.1)), (100, .val (.int .i64 (y_10.1.length : Int))), (101, vk x101_4)] [] 0) G (Ax []) ?_
 rintro x101_4 m4 o4 G hn4
 replace G : A6.l4 y_9 y_10 x101_4 = some o4 := G
 show Ca _ _ _ _ (mk _ _ _)
 unfold A6.l4 at G
 refine Bk 0 8 Ba fun B => ?_
 refine Af <| Cn rfl G (fun h37 G => ?_) fun h37 G => ?_
 refine Cp ?_
 refine Af <| Aj <| Cf 8 32 B ?_
 obtain ⟨e_3, he_3, G⟩ := Ab G
 refine A5 ?_
 refine Ei rfl rfl (D0 Sq (A9 (Dj _ _) (Ar he_3) (o := 0) (c := .sl 1 (An eI e_3)) rfl rfl)) rfl rfl ?_
 refine Bl fun B => ?_
 refine Cf 32 64 B ?_
 refine A5 ?_
 obtain ⟨y_13, hy_13, G⟩ := Ab G
 refine Dz (Pf _ _ _ hy_13) ?_
 refine Bl fun B => ?_
 refine Cn rfl G (fun h40 G => ?_) fun h40 G => ?_
 refine Bk 64 72 B fun B => ?_
 refine Et ?_
 replace G := Bn G hn4
 exact Q2
 refine Cp ?_
 refine Ak (Ce _ _ []) 64 80 B rfl rfl ?_
 refine Bl fun B => ?_
 obtain rfl := oi_ G
 exact ⟨(W (x101_4 + 1), m4), Nat.lt_succ_self _, hn4, Ax []⟩
 refine Fl ?_
 replace G := Bn G hn4
 refine Cf 8 184 B ?_
 refine A5 ?_
 rcases Gh G with ⟨h43, G⟩ | ⟨h43, G⟩
 refine A5 ?_
 rcases Gh G with ⟨h44, G⟩ | ⟨h44, G⟩
 refine A5 ?_
 rcases Gh G with ⟨h45, G⟩ | ⟨h45, G⟩
 refine A5 ?_
 rcases Gh G with ⟨h46, G⟩ | ⟨h46, G⟩
 obtain ⟨y_14, hy_14, G⟩ := Ab G
 refine Dz (D8 _ hy_14) ?_
 exact E7
 exact E7
 exact E7
 exact E7
 exact E7
end Go.Proofs.YtopkgllcjbpdeaaDoor
