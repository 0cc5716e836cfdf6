import Derived.Test.YtopkgllcjbpdeaaDoorT1
import Derived.Test.YtopkgllcjbpdeaaDoorA1
import Derived.Test.YtopkgllcjbpdeaaDoorA3
import Derived.Test.YtopkgllcjbpdeaaDoorA4
set_option linter.unusedVariables false
set_option linter.unusedSimpArgs false
set_option maxRecDepth 100000
set_option maxHeartbeats 1600000
namespace Go.Proofs.YtopkgllcjbpdeaaDoor
open Go.RowKit
theorem H0 (n : Int) (l : (List Aa)) (r : Int) (G : E0 n l = some r) : Fn Tryd.prog 54 0 [vk n, .sl 2 (An Aa.enc l)] [] (fun d' b' => d' = vk r /\ b' = []) := by
 unfold E0 at G
 refine Fn.of Tryd.func54 rfl rfl rfl fun w0 I ρ0 => ?_
 show Ca _ ⟨w0, I, ρ0, 0, 0, 8, none⟩ _ _ _
 refine Bk 0 8 Ba fun B => ?_
 refine Cf 8 40 B ?_
 refine A5 ?_
 obtain ⟨y, hy, G⟩ := Ab G
 refine Dz (Vc _ _ _ hy) ?_
 exact E7
theorem Sg (n : Int) (l : (List Aa)) (r : (List Aa) × Int) (G : Bp n l = some r) : Fn Tryd.prog 27 0 [vk n, .sl 2 (An Aa.enc l)] [] (fun d' b' => d' = .tup [.sl 2 (An Aa.enc r.1), vk r.2] /\ b' = []) := by
 unfold Bp at G
 refine Fn.of Tryd.func27 rfl rfl rfl fun w0 I ρ0 => ?_
 show Ca _ ⟨w0, I, ρ0, 0, 0, 44, none⟩ _ _ _
 refine Bk 0 16 Ba fun B => ?_
 refine Af <| Cf 16 48 B ?_
 refine A5 ?_
 obtain ⟨y, hy, G⟩ := Ab G
 refine Dz (H0 _ _ _ hy) ?_
 refine Bl fun B => ?_
 refine Bk 48 64 B fun B => ?_
 refine Cn rfl G (fun h4 G => ?_) fun h4 G => ?_
 refine Cf 64 88 B ?_
 exact E7
 refine Cp ?_
 refine Cf 64 96 B ?_
 refine A5 ?_
 obtain ⟨y_2, hy_2, G⟩ := Ab G
 refine Dz (J5 _ _ _ hy_2) ?_
 refine Bl fun B => ?_
 refine Bk 96 104 B fun B => ?_
 refine Af <| Bk 104 120 B fun B => ?_
 refine Aj <| Fq (fun ((x21_1, out_1) : Int × List Aa) => mk [(0, vk n), (7, .sl 1 (An (eL 1 eB) y_2)), (8, .row 0), (20, vk n), (21, vk x21_1)] [(0, .row 33 2 (An Aa.enc out_1))] 1) G (Ax []) ?_
 rintro ⟨x21_1, out_1⟩ m1 o1 G hn1
 replace G : Bp.l1 n y_2 x21_1 out_1 = some o1 := G
 show Ca _ _ _ _ (mk _ _ _)
 unfold Bp.l1 at G
 refine Bk 1 9 Ba fun B => ?_
 refine Af <| Cn rfl G (fun h10 G => ?_) fun h10 G => ?_
 refine Cp ?_
 refine Af <| Aj <| Bk 9 25 B fun B => ?_
 refine Bk 25 41 B fun B => ?_
 refine Aj <| Fq (fun ((x25_2, out_2) : Int × List Aa) => mk [(0, vk n), (7, .sl 1 (An (eL 1 eB) y_2)), (8, .row 0), (9, vk x21_1), (20, vk n), (21, vk x21_1), (24, vk n), (25, vk x25_2)] [(0, .row 33 2 (An Aa.enc out_2))] 1) G (Ax [(0, 0)]) ?_
 rintro ⟨x25_2, out_2⟩ m2 o2 G hn2
 replace G : Bp.l2 n y_2 x21_1 x25_2 out_2 = some o2 := G
 show Ca _ _ _ _ (mk _ _ _)
 unfold Bp.l2 at G
 refine Bk 1 9 Ba fun B => ?_
 refine Af <| Cn rfl G (fun h14 G => ?_) fun h14 G => ?_
 refine Cp ?_
 refine B0 (ι := List Aa) (fun (out_3 : List Aa) => mk [(0, vk n), (7, .sl 1 (An (eL 1 eB) y_2)), (8, .row 0), (9, vk x21_1), (20, vk n), (21, vk x21_1), (24, vk n), (25, vk x25_2)] [(0, .row 33 2 (An Aa.enc out_3))] 1) (fun (out_3 : List Aa) => Bp.j3 x25_2 out_3 = some o2) ?_ ?_
 refine Aj <| Bk 9 25 B fun B => ?_
 refine Cf 25 81 B ?_
 refine A5 ?_
 obtain ⟨e, he, G⟩ := Ab G
 refine A5 ?_
 refine Ei rfl rfl (D0 Wz (A9 (Dj _ _) (Ar he) (o := 0) (c := .sl 1 (An eB e)) rfl rfl)) rfl rfl ?_
 refine A5 ?_
 obtain ⟨e_2, he_2, G⟩ := Ab G
 refine A5 ?_
 refine Ps he_2 ?_
 refine Fc fun B => ?_
 refine Cn rfl G (fun h17 G => ?_) fun h17 G => ?_
 refine Ak (Ce _ _ []) 81 137 B rfl rfl ?_
 refine A5 ?_
 refine cG Mn Tt Uv ?_
 refine Pt Md Uv Vm ([(Aa.mk x21_1 x25_2)] : List Aa) Aa.enc ?_
 obtain ⟨l_2, hl_2, G⟩ := Ab G
 refine Ch (rd := [0, 113]) rfl rfl (Dr Md Aa.enc_len .row rfl .row rfl hl_2 rfl) rfl rfl ?_
 refine Bl fun B => ?_
 exact ⟨l_2, G, Ax [(0, 121)]⟩
 refine Cp ?_
 exact ⟨out_2, G, Ax [(0, 0)]⟩
 rintro out_3 G
 replace G : Bp.j3 x25_2 out_3 = some o2 := G
 show Ca _ _ _ _ (mk _ _ _)
 unfold Bp.j3 at G
 refine Ak (Ce _ _ []) 1 17 Ba rfl rfl ?_
 refine Bl fun B => ?_
 obtain rfl := oi_ G
 exact ⟨((W (x25_2 + 1), out_3), m2), Nat.lt_succ_self _, hn2, Ax [(0, 0)]⟩
 refine Fl ?_
 replace G := Bn G hn2
 refine Ak (Ce _ _ []) 9 25 B rfl rfl ?_
 refine Bl fun B => ?_
 obtain rfl := oi_ G
 exact ⟨((W (x21_1 + 1), out_2), m1), Nat.lt_succ_self _, hn1, Ax [(0, 0)]⟩
 refine Fl ?_
 replace G := Bn G hn1
 refine Bk 9 33 B fun B => ?_
 exact Ng
theorem Lr (n : Int) (l : (List Aa)) (r : (List Int) × Int) (G : Ct n l = some r) : Fn Tryd.prog 21 0 [vk n, .sl 2 (An Aa.enc l)] [] (fun d' b' => d' = .tup [.sl 1 (An eI r.1), vk r.2] /\ b' = []) := by
 unfold Ct at G
 refine Fn.of Tryd.func21 rfl rfl rfl fun w0 I ρ0 => ?_
 show Ca _ ⟨w0, I, ρ0, 0, 0, 37, none⟩ _ _ _
 refine Bk 0 16 Ba fun B => ?_
 refine Cf 16 80 B ?_
 refine A5 ?_
 obtain ⟨y, hy, G⟩ := Ab G
 rcases y with ⟨_ | o, y_r⟩
 replace G := Nw G
 refine Dv (rd := []) (ps := []) (gs := []) false rfl (Dc _ _ _ hy) rfl rfl (.cons .val (.cons .sl .nil)) rfl rfl (by intro h; cases h) rfl (by intro h; first | (cases h; done) | exact ⟨_, _, ⟨rfl, rfl⟩, by simp, by simp⟩) ?_
 rintro _ _ ⟨rfl, rfl⟩
 refine Bl fun B => ?_
 refine Af <| Bk 80 96 B fun B => ?_
 refine Cn rfl G (fun h5 G => ?_) fun h5 G => ?_
 refine Cf 96 120 B ?_
 exact E7
 cases G
 replace G := N7 G
 refine Dv (rd := []) (ps := []) (gs := []) false rfl (Dc _ _ _ hy) rfl rfl (.cons .val (.cons .sl .nil)) rfl rfl (by intro h; cases h) rfl (by intro h; first | (cases h; done) | exact ⟨_, _, ⟨rfl, rfl⟩, by simp, by simp⟩) ?_
 rintro _ _ ⟨rfl, rfl⟩
 refine Bl fun B => ?_
 refine Af <| Bk 80 96 B fun B => ?_
 refine Cn rfl G (fun h8 G => ?_) fun h8 G => ?_
 refine Cf 96 120 B ?_
 exact E7
 refine Cp ?_
 refine Bk 96 104 B fun B => ?_
 refine Bk 104 112 B fun B => ?_
 refine Af <| Bk 112 128 B fun B => ?_
 refine Aj <| Fq (fun ((s_1, x21_1, o_1, out_1) : Int × Int × Ap × List Int) => mk [(6, .ptr 0 0), (8, .row 1), (9, .val (.int .u32 s_1)), (20, vk n), (21, vk x21_1)] [(0, .box (Ap.dv o_1) 71), (1, .row 3 1 (An eI out_1))] 2) G (Ax [(0, 32)]) ?_
 rintro ⟨s_1, x21_1, o_1, out_1⟩ m1 o1 G hn1
 replace G : Ct.l1 n s_1 x21_1 o_1 out_1 = some o1 := G
 show Ca _ _ _ _ (mk _ _ _)
 unfold Ct.l1 at G
 refine Bk 2 10 Ba fun B => ?_
 refine Af <| Cn rfl G (fun h14 G => ?_) fun h14 G => ?_
 refine Cp ?_
 refine Af <| Aj <| Cf 10 50 B ?_
 refine A5 ?_
 obtain ⟨y_2, hy_2, G⟩ := Ab G
 refine Kg [0] [0] [] false (Hr _ _ _ hy_2) ?_
 obtain ⟨y_3, hy_3, G⟩ := Ab G
 refine Dz (Cq _ _ hy_3) ?_
 refine Bl fun B => ?_
 refine Cf 50 90 B ?_
 refine A5 ?_
 obtain ⟨q, hq, G⟩ := Ab G
 refine Ei rfl rfl (Hu hq) rfl rfl ?_
 refine Ei rfl rfl R5 rfl rfl ?_
 refine Bl fun B => ?_
 refine Ak (Ce _ _ []) 90 130 B rfl rfl ?_
 refine A5 ?_
 refine Pt Ka z3 aE ([y_3] : List Int) eI ?_
 obtain ⟨l_2, hl_2, G⟩ := Ab G
 refine Ch (rd := [1, 106]) rfl rfl (Dr Ka G0 .row rfl .row rfl hl_2 rfl) rfl rfl ?_
 refine Bl fun B => ?_
 refine Ak (Ce _ _ []) 130 146 B rfl rfl ?_
 refine Bl fun B => ?_
 obtain rfl := oi_ G
 exact ⟨((Ry .u32 s_1 q, W (x21_1 + 1), y_2.2, l_2), m1), Nat.lt_succ_self _, hn1, Ax [(0, 0), (1, 114)]⟩
 refine Fl ?_
 replace G := Bn G hn1
 refine Bk 10 34 B fun B => ?_
 exact Ng
theorem Nn (s : (List Int)) (n : Int) (r : Bool) (G : Ec s n = some r) : Fn Tryd.prog 70 0 [.sl 1 (An eI s), vk n] [] (fun d' b' => d' = .val (.bool r) /\ b' = []) := by
 unfold Ec at G
 refine Fn.of Tryd.func70 rfl rfl rfl fun w0 I ρ0 => ?_
 show Ca _ ⟨w0, I, ρ0, 0, 0, 17, none⟩ _ _ _
 refine Bk 0 8 Ba fun B => ?_
 refine Af <| Bk 8 32 B fun B => ?_
 refine Aj <| Fq (fun (x9_1 : Int) => mk [(1, vk n), (7, .sl 1 (An eI s)), (8, .val (.int .i64 (s.length : Int))), (9, vk x9_1)] [] 0) G (Ax []) ?_
 rintro x9_1 m1 o1 G hn1
 replace G : Ec.l1 s n x9_1 = some o1 := G
 show Ca _ _ _ _ (mk _ _ _)
 unfold Ec.l1 at G
 refine Bk 0 8 Ba fun B => ?_
 refine Af <| Cn rfl G (fun h4 G => ?_) fun h4 G => ?_
 refine Cp ?_
 refine Af <| Aj <| Cf 8 32 B ?_
 obtain ⟨e, he, G⟩ := Ab G
 refine A5 ?_
 refine Ps he ?_
 refine Bl fun B => ?_
 refine Bk 32 56 B fun B => ?_
 refine Cn rfl G (fun h7 G => ?_) fun h7 G => ?_
 refine Bk 56 64 B fun B => ?_
 refine Et ?_
 replace G := Bn G hn1
 exact Q2
 refine Cp ?_
 refine Ak (Ce _ _ []) 56 72 B rfl rfl ?_
 refine Bl fun B => ?_
 obtain rfl := oi_ G
 exact ⟨(W (x9_1 + 1), m1), Nat.lt_succ_self _, hn1, Ax []⟩
 refine Fl ?_
 replace G := Bn G hn1
 refine Bk 8 16 B fun B => ?_
 exact Ng
theorem Hj (s : (List Int)) (n : Int) (has : Bool) (r : (List Int)) (G : Bg s n has = some r) : Fn Tryd.prog 23 0 [.sl 1 (An eI s), vk n, .val (.bool has)] [] (fun d' b' => d' = .sl 1 (An eI r) /\ b' = []) := by
 unfold Bg at G
 refine Fn.of Tryd.func23 rfl rfl rfl fun w0 I ρ0 => ?_
 show Ca _ ⟨w0, I, ρ0, 0, 0, 49, none⟩ _ _ _
 refine Bk 0 8 Ba fun B => ?_
 refine Bk 8 16 B fun B => ?_
 refine Bk 16 24 B fun B => ?_
 refine Af <| Bk 24 48 B fun B => ?_
 refine Aj <| Fq (fun ((put_1, x13_1, out_1) : Bool × Int × List Int) => mk [(1, vk n), (2, .val (.bool has)), (7, .row 0), (8, .val (.bool put_1)), (11, .sl 1 (An eI s)), (12, .val (.int .i64 (s.length : Int))), (13, vk x13_1)] [(0, .row 3 1 (An eI out_1))] 1) G (Ax []) ?_
 rintro ⟨put_1, x13_1, out_1⟩ m1 o1 G hn1
 replace G : Bg.l1 s n has put_1 x13_1 out_1 = some o1 := G
 show Ca _ _ _ _ (mk _ _ _)
 unfold Bg.l1 at G
 refine Bk 1 9 Ba fun B => ?_
 refine Af <| Cn rfl G (fun h6 G => ?_) fun h6 G => ?_
 refine Cp ?_
 refine B0 (ι := Bool × List Int) (fun ((put_4, out_4) : Bool × List Int) => mk [(1, vk n), (2, .val (.bool has)), (7, .row 0), (8, .val (.bool put_4)), (11, .sl 1 (An eI s)), (12, .val (.int .i64 (s.length : Int))), (13, vk x13_1)] [(0, .row 3 1 (An eI out_4))] 1) (fun ((put_4, out_4) : Bool × List Int) => Bg.j4 x13_1 put_4 out_4 = some o1) ?_ ?_
 refine Aj <| Cf 9 33 B ?_
 obtain ⟨e, he, G⟩ := Ab G
 refine A5 ?_
 refine Ps he ?_
 refine Bl fun B => ?_
 refine B0 (ι := Bool × List Int) (fun ((put_3, out_3) : Bool × List Int) => mk [(1, vk n), (2, .val (.bool has)), (7, .row 0), (8, .val (.bool put_3)), (10, vk e), (11, .sl 1 (An eI s)), (12, .val (.int .i64 (s.length : Int))), (13, vk x13_1)] [(0, .row 3 1 (An eI out_3))] 1) (fun ((put_3, out_3) : Bool × List Int) => Bg.j3 n x13_1 e put_3 out_3 = some o1) ?_ ?_
 refine B0 (ι := Bool) (fun (x26_2 : Bool) => mk [(1, vk n), (2, .val (.bool has)), (7, .row 0), (8, .val (.bool put_1)), (10, vk e), (11, .sl 1 (An eI s)), (12, .val (.int .i64 (s.length : Int))), (13, vk x13_1), (26, .val (.bool x26_2))] [(0, .row 3 1 (An eI out_1))] 1) (fun (x26_2 : Bool) => Bg.j2 n put_1 x13_1 out_1 e x26_2 = some o1) ?_ ?_
 refine Ak (Ce _ _ []) 33 113 B rfl rfl ?_
 refine A5 ?_
 rcases Gh G with ⟨h8, G⟩ | ⟨h8, G⟩
 refine A5 ?_
 rcases Gh G with ⟨h9, G⟩ | ⟨h9, G⟩
 refine Bl fun B => ?_
 exact ⟨decide (n < e), G, Ax [(0, 0)]⟩
 refine Bl fun B => ?_
 exact ⟨false, G, Ax [(0, 0)]⟩
 refine Bl fun B => ?_
 exact ⟨false, G, Ax [(0, 0)]⟩
 rintro x26_2 G
 replace G : Bg.j2 n put_1 x13_1 out_1 e x26_2 = some o1 := G
 show Ca _ _ _ _ (mk _ _ _)
 unfold Bg.j2 at G
 refine Cn rfl G (fun h13 G => ?_) fun h13 G => ?_
 refine Ak (Ce _ _ []) 1 49 Ba rfl rfl ?_
 refine A5 ?_
 refine Pt Ka z3 aE ([n] : List Int) eI ?_
 obtain ⟨l, hl, G⟩ := Ab G
 refine Ch (rd := [0, 17]) rfl rfl (Dr Ka G0 .row rfl .row rfl hl rfl) rfl rfl ?_
 refine Bl fun B => ?_
 exact ⟨(true, l), G, Ax [(0, 25)]⟩
 refine Cp ?_
 exact ⟨(put_1, out_1), G, Ax [(0, 0)]⟩
 rintro ⟨put_3, out_3⟩ G
 replace G : Bg.j3 n x13_1 e put_3 out_3 = some o1 := G
 show Ca _ _ _ _ (mk _ _ _)
 unfold Bg.j3 at G
 refine Bk 1 25 Ba fun B => ?_
 refine Cn rfl G (fun h16 G => ?_) fun h16 G => ?_
 refine Ak (Ce _ _ []) 25 65 B rfl rfl ?_
 refine A5 ?_
 refine Pt Ka z3 aE ([e] : List Int) eI ?_
 obtain ⟨l_2, hl_2, G⟩ := Ab G
 refine Ch (rd := [0, 41]) rfl rfl (Dr Ka G0 .row rfl .row rfl hl_2 rfl) rfl rfl ?_
 refine Bl fun B => ?_
 exact ⟨(put_3, l_2), G, Ax [(0, 49)]⟩
 refine Cp ?_
 exact ⟨(put_3, out_3), G, Ax [(0, 0)]⟩
 rintro ⟨put_4, out_4⟩ G
 replace G : Bg.j4 x13_1 put_4 out_4 = some o1 := G
 show Ca _ _ _ _ (mk _ _ _)
 unfold Bg.j4 at G
 refine Ak (Ce _ _ []) 1 17 Ba rfl rfl ?_
 refine Bl fun B => ?_
 obtain rfl := oi_ G
 exact ⟨((put_4, W (x13_1 + 1), out_4), m1), Nat.lt_succ_self _, hn1, Ax [(0, 0)]⟩
 refine Fl ?_
 replace G := Bn G hn1
 refine Af <| B0 (ι := Bool) (fun (x43_5 : Bool) => mk [(1, vk n), (7, .row 0), (43, .val (.bool x43_5))] [(0, .row 3 1 (An eI out_1))] 1) (fun (x43_5 : Bool) => Bg.j5 n out_1 x43_5 = some r) ?_ ?_
 refine Ak (Ce _ _ []) 9 49 B rfl rfl ?_
 refine A5 ?_
 rcases Gh G with ⟨h19, G⟩ | ⟨h19, G⟩
 refine Bl fun B => ?_
 exact ⟨!put_1, G, Ax [(0, 0)]⟩
 refine Bl fun B => ?_
 exact ⟨false, G, Ax [(0, 0)]⟩
 rintro x43_5 G
 replace G : Bg.j5 n out_1 x43_5 = some r := G
 show Ca _ _ _ _ (mk _ _ _)
 unfold Bg.j5 at G
 refine Cn rfl G (fun h22 G => ?_) fun h22 G => ?_
 refine Ak (Ce _ _ []) 1 41 Ba rfl rfl ?_
 refine A5 ?_
 refine Pt Ka z3 aE ([n] : List Int) eI ?_
 obtain ⟨l_3, hl_3, G⟩ := Ab G
 refine Ch (rd := [0, 17]) rfl rfl (Dr Ka G0 .row rfl .row rfl hl_3 rfl) rfl rfl ?_
 refine Bl fun B => ?_
 refine Bk 41 57 B fun B => ?_
 exact Ng
 refine Cp ?_
 refine Bk 1 17 Ba fun B => ?_
 exact Ng
theorem N1 (l : (List Aa)) (s : (List Int)) (r : Bool) (G : Cj l s = some r) : Fn Tryd.prog 58 0 [.sl 2 (An Aa.enc l), .sl 1 (An eI s)] [] (fun d' b' => d' = .val (.bool r) /\ b' = []) := by
 unfold Cj at G
 refine Fn.of Tryd.func58 rfl rfl rfl fun w0 I ρ0 => ?_
 show Ca _ ⟨w0, I, ρ0, 0, 0, 25, none⟩ _ _ _
 refine Bk 0 8 Ba fun B => ?_
 refine Af <| Bk 8 32 B fun B => ?_
 refine Aj <| Fq (fun (x9_1 : Int) => mk [(1, .sl 1 (An eI s)), (7, .sl 2 (An Aa.enc l)), (8, .val (.int .i64 (l.length : Int))), (9, vk x9_1)] [] 0) G (Ax []) ?_
 rintro x9_1 m1 o1 G hn1
 replace G : Cj.l1 l s x9_1 = some o1 := G
 show Ca _ _ _ _ (mk _ _ _)
 unfold Cj.l1 at G
 refine Bk 0 8 Ba fun B => ?_
 refine Af <| Cn rfl G (fun h4 G => ?_) fun h4 G => ?_
 refine Cp ?_
 refine Af <| Aj <| Cf 8 40 B ?_
 obtain ⟨e, he, G⟩ := Ab G
 refine A5 ?_
 refine Xt he ?_
 refine Bl fun B => ?_
 refine B0 (ι := Bool) (fun (x23_2 : Bool) => mk [(1, .sl 1 (An eI s)), (7, .sl 2 (An Aa.enc l)), (8, .val (.int .i64 (l.length : Int))), (9, vk x9_1), (23, .val (.bool x23_2))] [] 0) (fun (x23_2 : Bool) => Cj.j2 x9_1 x23_2 = some o1) ?_ ?_
 refine Ak (Ce _ _ []) 40 128 B rfl rfl ?_
 refine A5 ?_
 obtain ⟨y, hy, G⟩ := Ab G
 refine Dz (Nn _ _ _ hy) ?_
 refine A5 ?_
 rcases Gh G with ⟨h6, G⟩ | ⟨h6, G⟩
 refine A5 ?_
 obtain ⟨y_2, hy_2, G⟩ := Ab G
 refine Dz (Nn _ _ _ hy_2) ?_
 refine Bl fun B => ?_
 exact ⟨!y_2, G, Ax []⟩
 refine Bl fun B => ?_
 exact ⟨false, G, Ax []⟩
 rintro x23_2 G
 replace G : Cj.j2 x9_1 x23_2 = some o1 := G
 show Ca _ _ _ _ (mk _ _ _)
 unfold Cj.j2 at G
 refine Cn rfl G (fun h9 G => ?_) fun h9 G => ?_
 refine Bk 0 8 Ba fun B => ?_
 refine Et ?_
 replace G := Bn G hn1
 exact Q2
 refine Cp ?_
 refine Ak (Ce _ _ []) 0 16 Ba rfl rfl ?_
 refine Bl fun B => ?_
 obtain rfl := oi_ G
 exact ⟨(W (x9_1 + 1), m1), Nat.lt_succ_self _, hn1, Ax []⟩
 refine Fl ?_
 replace G := Bn G hn1
 refine Bk 8 16 B fun B => ?_
 exact Ng
theorem Kj (n : Int) (l : (List Aa)) (s : (List Int)) (add : Bool) (r : (List Int)) (G : Bo n l s add = some r) : Fn Tryd.prog 56 0 [vk n, .sl 2 (An Aa.enc l), .sl 1 (An eI s), .val (.bool add)] [] (fun d' b' => d' = .sl 1 (An eI r) /\ b' = []) := by
 unfold Bo at G
 refine Fn.of Tryd.func56 rfl rfl rfl fun w0 I ρ0 => ?_
 show Ca _ ⟨w0, I, ρ0, 0, 0, 34, none⟩ _ _ _
 refine Bk 0 8 Ba fun B => ?_
 refine Bk 8 16 B fun B => ?_
 refine Af <| Bk 16 32 B fun B => ?_
 refine Aj <| Fq (fun ((x12_1, out_1) : Int × List Int) => mk [(1, .sl 2 (An Aa.enc l)), (2, .sl 1 (An eI s)), (3, .val (.bool add)), (9, .row 0), (11, vk n), (12, vk x12_1)] [(0, .row 3 1 (An eI out_1))] 1) G (Ax []) ?_
 rintro ⟨x12_1, out_1⟩ m1 o1 G hn1
 replace G : Bo.l1 n l s add x12_1 out_1 = some o1 := G
 show Ca _ _ _ _ (mk _ _ _)
 unfold Bo.l1 at G
 refine Bk 1 9 Ba fun B => ?_
 refine Af <| Cn rfl G (fun h5 G => ?_) fun h5 G => ?_
 refine Cp ?_
 refine B0 (ι := List Int) (fun (out_3 : List Int) => mk [(1, .sl 2 (An Aa.enc l)), (2, .sl 1 (An eI s)), (3, .val (.bool add)), (9, .row 0), (11, vk n), (12, vk x12_1)] [(0, .row 3 1 (An eI out_3))] 1) (fun (out_3 : List Int) => Bo.j3 x12_1 out_3 = some o1) ?_ ?_
 refine Aj <| Bk 9 25 B fun B => ?_
 refine B0 (ι := Bool) (fun (x27_2 : Bool) => mk [(1, .sl 2 (An Aa.enc l)), (2, .sl 1 (An eI s)), (3, .val (.bool add)), (9, .row 0), (10, vk x12_1), (11, vk n), (12, vk x12_1), (27, .val (.bool x27_2))] [(0, .row 3 1 (An eI out_1))] 1) (fun (x27_2 : Bool) => Bo.j2 x12_1 out_1 x27_2 = some o1) ?_ ?_
 refine Ak (Ce _ _ []) 25 129 B rfl rfl ?_
 refine A5 ?_
 obtain ⟨y, hy, G⟩ := Ab G
 refine Dz (Nn _ _ _ hy) ?_
 refine A5 ?_
 refine Ei rfl rfl (W5 lA) rfl rfl ?_
 refine A5 ?_
 rcases Gh G with ⟨h7, G⟩ | ⟨h7, G⟩
 refine A5 ?_
 obtain ⟨y_2, hy_2, G⟩ := Ab G
 refine Dz (Hj _ _ _ _ hy_2) ?_
 obtain ⟨y_3, hy_3, G⟩ := Ab G
 refine Dz (N1 _ _ _ hy_3) ?_
 refine Bl fun B => ?_
 exact ⟨y_3, G, Ax [(0, 0)]⟩
 refine Bl fun B => ?_
 exact ⟨false, G, Ax [(0, 0)]⟩
 rintro x27_2 G
 replace G : Bo.j2 x12_1 out_1 x27_2 = some o1 := G
 show Ca _ _ _ _ (mk _ _ _)
 unfold Bo.j2 at G
 refine Cn rfl G (fun h10 G => ?_) fun h10 G => ?_
 refine Ak (Ce _ _ []) 1 41 Ba rfl rfl ?_
 refine A5 ?_
 refine Pt Ka z3 aE ([x12_1] : List Int) eI ?_
 obtain ⟨l_2, hl_2, G⟩ := Ab G
 refine Ch (rd := [0, 17]) rfl rfl (Dr Ka G0 .row rfl .row rfl hl_2 rfl) rfl rfl ?_
 refine Bl fun B => ?_
 exact ⟨l_2, G, Ax [(0, 25)]⟩
 refine Cp ?_
 exact ⟨out_1, G, Ax [(0, 0)]⟩
 rintro out_3 G
 replace G : Bo.j3 x12_1 out_3 = some o1 := G
 show Ca _ _ _ _ (mk _ _ _)
 unfold Bo.j3 at G
 refine Ak (Ce _ _ []) 1 17 Ba rfl rfl ?_
 refine Bl fun B => ?_
 obtain rfl := oi_ G
 exact ⟨((W (x12_1 + 1), out_3), m1), Nat.lt_succ_self _, hn1, Ax [(0, 0)]⟩
 refine Fl ?_
 replace G := Bn G hn1
 refine Bk 9 25 B fun B => ?_
 exact Ng
theorem U9 (n : Int) (l : (List Aa)) (r : (List Int) × Int) (G : C4 n l = some r) : Fn Tryd.prog 28 0 [vk n, .sl 2 (An Aa.enc l)] [] (fun d' b' => d' = .tup [.sl 1 (An eI r.1), vk r.2] /\ b' = []) := by
 unfold C4 at G
 refine Fn.of Tryd.func28 rfl rfl rfl fun w0 I ρ0 => ?_
 show Ca _ ⟨w0, I, ρ0, 0, 0, 36, none⟩ _ _ _
 refine Bk 0 16 Ba fun B => ?_
 refine Af <| Cf 16 48 B ?_
 refine A5 ?_
 obtain ⟨y, hy, G⟩ := Ab G
 refine Dz (H0 _ _ _ hy) ?_
 refine Bl fun B => ?_
 refine Bk 48 64 B fun B => ?_
 refine Cn rfl G (fun h4 G => ?_) fun h4 G => ?_
 refine Cf 64 88 B ?_
 exact E7
 refine Cp ?_
 refine Bk 64 80 B fun B => ?_
 refine Af <| Aj <| Fq (fun ((done_1, out_1) : List Int × List Int) => mk [(0, vk n), (1, .sl 2 (An Aa.enc l)), (7, .sl 1 (An eI done_1)), (8, .row 0)] [(0, .row 3 1 (An eI out_1))] 1) G (Ax []) ?_
 rintro ⟨done_1, out_1⟩ m1 o1 G hn1
 replace G : C4.l1 n l done_1 out_1 = some o1 := G
 show Ca _ _ _ _ (mk _ _ _)
 unfold C4.l1 at G
 refine Af <| Bk 1 33 Ba fun B => ?_
 refine Cn rfl G (fun h8 G => ?_) fun h8 G => ?_
 refine Cp ?_
 refine Aj <| Cf 33 73 B ?_
 refine A5 ?_
 obtain ⟨y_2, hy_2, G⟩ := Ab G
 refine Dz (Kj _ _ _ _ _ hy_2) ?_
 refine Bl fun B => ?_
 refine Br (Ce _ _ []) (by kernel_rfl) [0, 0, 2, 6, 14, 31, 0, 0, 128, 384, 1023, 2047, 4095] 73 177 B rfl rfl (by kernel_rfl) ?_
 refine A5 ?_
 obtain ⟨e, he, G⟩ := Ab G
 refine A5 ?_
 refine Ps he ?_
 refine Pt Ka z3 aE ([e] : List Int) eI ?_
 obtain ⟨l_2, hl_2, G⟩ := Ab G
 refine Ch (rd := [0, 105]) rfl rfl (Dr Ka G0 .row rfl .row rfl hl_2 rfl) rfl rfl ?_
 refine A5 ?_
 refine Ps he ?_
 obtain ⟨y_3, hy_3, G⟩ := Ab G
 refine Dz (Hj _ _ _ _ hy_3) ?_
 refine Bl fun B => ?_
 obtain rfl := oi_ G
 exact ⟨((y_3, l_2), m1), Nat.lt_succ_self _, hn1, Ax [(0, 113)]⟩
 refine Fl ?_
 replace G := Bn G hn1
 refine Bk 33 57 B fun B => ?_
 exact Ng
theorem Ql (a : (List Aa)) (b : (List Aa)) (r : Bool) (G : Di a b = some r) : Fn Tryd.prog 29 0 [.sl 2 (An Aa.enc a), .sl 2 (An Aa.enc b)] [] (fun d' b' => d' = .val (.bool r) /\ b' = []) := by
 unfold Di at G
 refine Fn.of Tryd.func29 rfl rfl rfl fun w0 I ρ0 => ?_
 show Ca _ ⟨w0, I, ρ0, 0, 0, 26, none⟩ _ _ _
 refine Bk 0 8 Ba fun B => ?_
 refine Af <| Bk 8 48 B fun B => ?_
 refine Cn rfl G (fun h3 G => ?_) fun h3 G => ?_
 refine Cf 48 56 B ?_
 exact E7
 refine Cp ?_
 refine Af <| Bk 48 72 B fun B => ?_
 refine Aj <| Fq (fun (x13_1 : Int) => mk [(0, .sl 2 (An Aa.enc a)), (1, .sl 2 (An Aa.enc b)), (12, .val (.int .i64 (a.length : Int))), (13, vk x13_1)] [] 0) G (Ax []) ?_
 rintro x13_1 m1 o1 G hn1
 replace G : Di.l1 a b x13_1 = some o1 := G
 show Ca _ _ _ _ (mk _ _ _)
 unfold Di.l1 at G
 refine Bk 0 8 Ba fun B => ?_
 refine Af <| Cn rfl G (fun h7 G => ?_) fun h7 G => ?_
 refine Cp ?_
 refine Af <| Aj <| Bk 8 24 B fun B => ?_
 refine Af <| Br (Ce _ _ []) (by kernel_rfl) [0, 0, 3, 7, 0, 0, 48, 112, 255] 24 96 B rfl rfl (by kernel_rfl) ?_
 refine A5 ?_
 obtain ⟨e, he, G⟩ := Ab G
 refine A5 ?_
 refine Xt he ?_
 refine A5 ?_
 obtain ⟨e_2, he_2, G⟩ := Ab G
 refine A5 ?_
 refine Xt he_2 ?_
 refine Ei rfl rfl (Zz e e_2) rfl rfl ?_
 refine Fc fun B => ?_
 refine Cn rfl G (fun h10 G => ?_) fun h10 G => ?_
 refine Bk 96 104 B fun B => ?_
 refine Et ?_
 replace G := Bn G hn1
 exact Q2
 refine Cp ?_
 refine Ak (Ce _ _ []) 96 112 B rfl rfl ?_
 refine Bl fun B => ?_
 obtain rfl := oi_ G
 exact ⟨(W (x13_1 + 1), m1), Nat.lt_succ_self _, hn1, Ax []⟩
 refine Fl ?_
 replace G := Bn G hn1
 refine Bk 8 16 B fun B => ?_
 exact Ng
theorem Hg (a : (List Int)) (b : (List Int)) (r : Bool) (G : Co a b = some r) : Fn Tryd.prog 30 0 [.sl 1 (An eI a), .sl 1 (An eI b)] [] (fun d' b' => d' = .val (.bool r) /\ b' = []) := by
 unfold Co at G
 refine Fn.of Tryd.func30 rfl rfl rfl fun w0 I ρ0 => ?_
 show Ca _ ⟨w0, I, ρ0, 0, 0, 26, none⟩ _ _ _
 refine Bk 0 8 Ba fun B => ?_
 refine Af <| Bk 8 48 B fun B => ?_
 refine Cn rfl G (fun h3 G => ?_) fun h3 G => ?_
 refine Cf 48 56 B ?_
 exact E7
 refine Cp ?_
 refine Af <| Bk 48 72 B fun B => ?_
 refine Aj <| Fq (fun (x13_1 : Int) => mk [(0, .sl 1 (An eI a)), (1, .sl 1 (An eI b)), (12, .val (.int .i64 (a.length : Int))), (13, vk x13_1)] [] 0) G (Ax []) ?_
 rintro x13_1 m1 o1 G hn1
 replace G : Co.l1 a b x13_1 = some o1 := G
 show Ca _ _ _ _ (mk _ _ _)
 unfold Co.l1 at G
 refine Bk 0 8 Ba fun B => ?_
 refine Af <| Cn rfl G (fun h7 G => ?_) fun h7 G => ?_
 refine Cp ?_
 refine Af <| Aj <| Bk 8 24 B fun B => ?_
 refine Af <| Br (Ce _ _ []) (by kernel_rfl) [0, 0, 3, 7, 0, 0, 48, 112, 255] 24 96 B rfl rfl (by kernel_rfl) ?_
 refine A5 ?_
 obtain ⟨e, he, G⟩ := Ab G
 refine A5 ?_
 refine Ps he ?_
 refine A5 ?_
 obtain ⟨e_2, he_2, G⟩ := Ab G
 refine A5 ?_
 refine Ps he_2 ?_
 refine Bl fun B => ?_
 refine Cn rfl G (fun h10 G => ?_) fun h10 G => ?_
 refine Bk 96 104 B fun B => ?_
 refine Et ?_
 replace G := Bn G hn1
 exact Q2
 refine Cp ?_
 refine Ak (Ce _ _ []) 96 112 B rfl rfl ?_
 refine Bl fun B => ?_
 obtain rfl := oi_ G
 exact ⟨(W (x13_1 + 1), m1), Nat.lt_succ_self _, hn1, Ax []⟩
 refine Fl ?_
 replace G := Bn G hn1
 refine Bk 8 16 B fun B => ?_
 exact Ng
theorem Pq (d : Ai) (n : Int) (r : (List Int) × Ai) (G : De d n = some r) : Fn Tryd.prog 16 1 [.ptr 0 0, vk n] [.box [.sl 1 (An eI d.L), vk d.At] 61] (fun d' b' => d' = .sl 1 (An eI r.1) /\ b' = [.box [.sl 1 (An eI r.2.L), vk r.2.At] 61]) := by
 unfold De at G
 refine Fn.of Tryd.func16 rfl rfl rfl fun w0 I ρ0 => ?_
 show Ca _ ⟨w0, I, ρ0, 1, 1, 20, none⟩ _ _ _
 refine Bk 1 9 Ba fun B => ?_
 refine Bk 9 17 B fun B => ?_
 refine Af <| Bk 17 25 B fun B => ?_
 refine Aj <| Fq (fun ((i_1, d_1, s_1) : Int × Ai × List Int) => mk [(0, .ptr 0 0), (1, vk n), (5, .row 1), (6, vk i_1)] [(0, .box [.sl 1 (An eI d_1.L), vk d_1.At] 61), (1, .row 3 1 (An eI s_1))] 2) G (Ax [(0, 0)]) ?_
 rintro ⟨i_1, d_1, s_1⟩ m1 o1 G hn1
 replace G : De.l1 n i_1 d_1 s_1 = some o1 := G
 show Ca _ _ _ _ (mk _ _ _)
 unfold De.l1 at G
 refine Af <| Bk 2 26 Ba fun B => ?_
 refine Cn rfl G (fun h5 G => ?_) fun h5 G => ?_
 refine Cp ?_
 refine B0 (ι := Ai × List Int) (fun ((d_2, s_2) : Ai × List Int) => mk [(0, .ptr 0 0), (1, vk n), (5, .row 1), (6, vk i_1)] [(0, .box [.sl 1 (An eI d_2.L), vk d_2.At] 61), (1, .row 3 1 (An eI s_2))] 2) (fun ((d_2, s_2) : Ai × List Int) => De.j2 i_1 d_2 s_2 = some o1) ?_ ?_
 refine Aj <| Cf 26 50 B ?_
 refine A5 ?_
 obtain ⟨y, hy, G⟩ := Ab G
 refine Kg [0] [0] [] false (Hp _ _ _ hy) ?_
 refine Bl fun B => ?_
 refine Cn rfl G (fun h7 G => ?_) fun h7 G => ?_
 refine Ak (Ce _ _ []) 50 90 B rfl rfl ?_
 refine A5 ?_
 refine Pt Ka z3 aE ([i_1] : List Int) eI ?_
 obtain ⟨l, hl, G⟩ := Ab G
 refine Ch (rd := [1, 66]) rfl rfl (Dr Ka G0 .row rfl .row rfl hl rfl) rfl rfl ?_
 refine Bl fun B => ?_
 exact ⟨(y.2, l), G, Ax [(0, 0), (1, 74)]⟩
 refine Cp ?_
 exact ⟨(y.2, s_1), G, Ax [(0, 0), (1, 1)]⟩
 rintro ⟨d_2, s_2⟩ G
 replace G : De.j2 i_1 d_2 s_2 = some o1 := G
 show Ca _ _ _ _ (mk _ _ _)
 unfold De.j2 at G
 refine Ak (Ce _ _ []) 2 26 Ba rfl rfl ?_
 refine Bl fun B => ?_
 obtain rfl := oi_ G
 exact ⟨((W (i_1 + 1), d_2, s_2), m1), Nat.lt_succ_self _, hn1, Ax [(0, 0), (1, 1)]⟩
 refine Fl ?_
 replace G := Bn G hn1
 refine Bk 26 42 B fun B => ?_
 refine Et ?_
 obtain rfl := oi_ G
 exact Fe [(0, 0)] ⟨rfl, rfl⟩
theorem Pk (l : (List Int)) (n : Int) (r : Bool) (G : Fo l n = some r) : Fn Tryd.prog 19 0 [.sl 1 (An eI l), vk n] [] (fun d' b' => d' = .val (.bool r) /\ b' = []) := by
 unfold Fo at G
 refine Fn.of Tryd.func19 rfl rfl rfl fun w0 I ρ0 => ?_
 show Ca _ ⟨w0, I, ρ0, 0, 0, 17, none⟩ _ _ _
 refine Bk 0 8 Ba fun B => ?_
 refine Af <| Bk 8 32 B fun B => ?_
 refine Aj <| Fq (fun (x9_1 : Int) => mk [(1, vk n), (7, .sl 1 (An eI l)), (8, .val (.int .i64 (l.length : Int))), (9, vk x9_1)] [] 0) G (Ax []) ?_
 rintro x9_1 m1 o1 G hn1
 replace G : Fo.l1 l n x9_1 = some o1 := G
 show Ca _ _ _ _ (mk _ _ _)
 unfold Fo.l1 at G
 refine Bk 0 8 Ba fun B => ?_
 refine Af <| Cn rfl G (fun h4 G => ?_) fun h4 G => ?_
 refine Cp ?_
 refine Af <| Aj <| Cf 8 32 B ?_
 obtain ⟨e, he, G⟩ := Ab G
 refine A5 ?_
 refine Ps he ?_
 refine Bl fun B => ?_
 refine Bk 32 56 B fun B => ?_
 refine Cn rfl G (fun h7 G => ?_) fun h7 G => ?_
 refine Bk 56 64 B fun B => ?_
 refine Et ?_
 replace G := Bn G hn1
 exact Q2
 refine Cp ?_
 refine Ak (Ce _ _ []) 56 72 B rfl rfl ?_
 refine Bl fun B => ?_
 obtain rfl := oi_ G
 exact ⟨(W (x9_1 + 1), m1), Nat.lt_succ_self _, hn1, Ax []⟩
 refine Fl ?_
 replace G := Bn G hn1
 refine Bk 8 16 B fun B => ?_
 exact Ng
theorem Yn (n : Int) (l : (List Aa)) (s : (List Int)) (r : (List Int)) (G : B8 n l s = some r) : Fn Tryd.prog 31 0 [vk n, .sl 2 (An Aa.enc l), .sl 1 (An eI s)] [] (fun d' b' => d' = .sl 1 (An eI r) /\ b' = []) := by
 unfold B8 at G
 refine Fn.of Tryd.func31 rfl rfl rfl fun w0 I ρ0 => ?_
 show Ca _ ⟨w0, I, ρ0, 0, 0, 47, none⟩ _ _ _
 refine Bk 0 8 Ba fun B => ?_
 refine Cf 8 40 B ?_
 refine A5 ?_
 obtain ⟨y, hy, G⟩ := Ab G
 refine Dz (J5 _ _ _ hy) ?_
 refine Bl fun B => ?_
 refine Bk 40 48 B fun B => ?_
 refine Af <| Bk 48 64 B fun B => ?_
 refine Aj <| Fq (fun ((x17_1, out_1) : Int × List Int) => mk [(2, .sl 1 (An eI s)), (7, .sl 1 (An (eL 1 eB) y)), (8, .row 0), (16, vk n), (17, vk x17_1)] [(0, .row 3 1 (An eI out_1))] 1) G (Ax []) ?_
 rintro ⟨x17_1, out_1⟩ m1 o1 G hn1
 replace G : B8.l1 n s y x17_1 out_1 = some o1 := G
 show Ca _ _ _ _ (mk _ _ _)
 unfold B8.l1 at G
 refine Bk 1 9 Ba fun B => ?_
 refine Af <| Cn rfl G (fun h6 G => ?_) fun h6 G => ?_
 refine Cp ?_
 refine B0 (ι := List Int) (fun (out_4 : List Int) => mk [(2, .sl 1 (An eI s)), (7, .sl 1 (An (eL 1 eB) y)), (8, .row 0), (16, vk n), (17, vk x17_1)] [(0, .row 3 1 (An eI out_4))] 1) (fun (out_4 : List Int) => B8.j4 x17_1 out_4 = some o1) ?_ ?_
 refine Aj <| Bk 9 25 B fun B => ?_
 refine Cf 25 57 B ?_
 refine A5 ?_
 obtain ⟨y_2, hy_2, G⟩ := Ab G
 refine Dz (Pk _ _ _ hy_2) ?_
 refine Bl fun B => ?_
 refine Af <| Bk 57 81 B fun B => ?_
 refine Aj <| Fq (fun ((in_2, x25_2) : Bool × Int) => mk [(2, .sl 1 (An eI s)), (7, .sl 1 (An (eL 1 eB) y)), (8, .row 0), (9, vk x17_1), (10, .val (.bool in_2)), (16, vk n), (17, vk x17_1), (23, .sl 1 (An eI s)), (24, .val (.int .i64 (s.length : Int))), (25, vk x25_2)] [(0, .row 3 1 (An eI out_1))] 1) G (Ax [(0, 0)]) ?_
 rintro ⟨in_2, x25_2⟩ m2 o2 G hn2
 replace G : B8.l2 s y x17_1 out_1 in_2 x25_2 = some o2 := G
 show Ca _ _ _ _ (mk _ _ _)
 unfold B8.l2 at G
 refine Bk 1 9 Ba fun B => ?_
 refine Af <| Cn rfl G (fun h11 G => ?_) fun h11 G => ?_
 refine Cp ?_
 refine B0 (ι := Bool) (fun (in_3 : Bool) => mk [(2, .sl 1 (An eI s)), (7, .sl 1 (An (eL 1 eB) y)), (8, .row 0), (9, vk x17_1), (10, .val (.bool in_3)), (16, vk n), (17, vk x17_1), (23, .sl 1 (An eI s)), (24, .val (.int .i64 (s.length : Int))), (25, vk x25_2)] [(0, .row 3 1 (An eI out_1))] 1) (fun (in_3 : Bool) => B8.j3 x25_2 in_3 = some o2) ?_ ?_
 refine Aj <| Cf 9 33 B ?_
 obtain ⟨e, he, G⟩ := Ab G
 refine A5 ?_
 refine Ps he ?_
 refine Bl fun B => ?_
 refine Ak (Ce _ _ []) 33 121 B rfl rfl ?_
 refine A5 ?_
 rcases Gh G with ⟨h13, G⟩ | ⟨h13, G⟩
 refine Bl fun B => ?_
 exact ⟨true, G, Ax [(0, 0)]⟩
 refine A5 ?_
 obtain ⟨e_2, he_2, G⟩ := Ab G
 refine A5 ?_
 refine Ei (Ea rfl rfl h13) rfl (D0 Wz (A9 (Dj _ _) (Ar he_2) (o := 0) (c := .sl 1 (An eB e_2)) rfl rfl)) rfl rfl ?_
 refine A5 ?_
 obtain ⟨e_3, he_3, G⟩ := Ab G
 refine A5 ?_
 refine Ps he_3 ?_
 refine Bl fun B => ?_
 exact ⟨e_3, G, Ax [(0, 0)]⟩
 rintro in_3 G
 replace G : B8.j3 x25_2 in_3 = some o2 := G
 show Ca _ _ _ _ (mk _ _ _)
 unfold B8.j3 at G
 refine Ak (Ce _ _ []) 1 17 Ba rfl rfl ?_
 refine Bl fun B => ?_
 obtain rfl := oi_ G
 exact ⟨((in_3, W (x25_2 + 1)), m2), Nat.lt_succ_self _, hn2, Ax [(0, 0)]⟩
 refine Fl ?_
 replace G := Bn G hn2
 refine Bk 9 17 B fun B => ?_
 refine Cn rfl G (fun h18 G => ?_) fun h18 G => ?_
 refine Ak (Ce _ _ []) 17 57 B rfl rfl ?_
 refine A5 ?_
 refine Pt Ka z3 aE ([x17_1] : List Int) eI ?_
 obtain ⟨l_2, hl_2, G⟩ := Ab G
 refine Ch (rd := [0, 33]) rfl rfl (Dr Ka G0 .row rfl .row rfl hl_2 rfl) rfl rfl ?_
 refine Bl fun B => ?_
 exact ⟨l_2, G, Ax [(0, 41)]⟩
 refine Cp ?_
 exact ⟨out_1, G, Ax [(0, 0)]⟩
 rintro out_4 G
 replace G : B8.j4 x17_1 out_4 = some o1 := G
 show Ca _ _ _ _ (mk _ _ _)
 unfold B8.j4 at G
 refine Ak (Ce _ _ []) 1 17 Ba rfl rfl ?_
 refine Bl fun B => ?_
 obtain rfl := oi_ G
 exact ⟨((W (x17_1 + 1), out_4), m1), Nat.lt_succ_self _, hn1, Ax [(0, 0)]⟩
 refine Fl ?_
 replace G := Bn G hn1
 refine Bk 9 25 B fun B => ?_
 exact Ng
theorem Mi (s : (List Int)) (n : Int) (r : Bool) (G : Bm s n = some r) : Fn Tryd.prog 57 0 [.sl 1 (An eI s), vk n] [] (fun d' b' => d' = .val (.bool r) /\ b' = []) := by
 unfold Bm at G
 refine Fn.of Tryd.func57 rfl rfl rfl fun w0 I ρ0 => ?_
 show Ca _ ⟨w0, I, ρ0, 0, 0, 35, none⟩ _ _ _
 refine Bk 0 8 Ba fun B => ?_
 refine Af <| Bk 8 32 B fun B => ?_
 refine Aj <| Fq (fun (x9_1 : Int) => mk [(0, .sl 1 (An eI s)), (1, vk n), (7, .sl 1 (An eI s)), (8, .val (.int .i64 (s.length : Int))), (9, vk x9_1)] [] 0) G (Ax []) ?_
 rintro x9_1 m1 o1 G hn1
 replace G : Bm.l1 s n x9_1 = some o1 := G
 show Ca _ _ _ _ (mk _ _ _)
 unfold Bm.l1 at G
 refine Bk 0 8 Ba fun B => ?_
 refine Af <| Cn rfl G (fun h4 G => ?_) fun h4 G => ?_
 refine Cp ?_
 refine Af <| Aj <| Cf 8 48 B ?_
 refine A5 ?_
 obtain ⟨e, he, G⟩ := Ab G
 refine A5 ?_
 refine Ps he ?_
 refine Bl fun B => ?_
 refine B0 (ι := Bool) (fun (x33_2 : Bool) => mk [(0, .sl 1 (An eI s)), (1, vk n), (7, .sl 1 (An eI s)), (8, .val (.int .i64 (s.length : Int))), (9, vk x9_1), (33, .val (.bool x33_2))] [] 0) (fun (x33_2 : Bool) => Bm.j2 x9_1 x33_2 = some o1) ?_ ?_
 refine Ak (Ce _ _ []) 48 208 B rfl rfl ?_
 refine A5 ?_
 rcases Gh G with ⟨h6, G⟩ | ⟨h6, G⟩
 refine Bl fun B => ?_
 exact ⟨true, G, Ax []⟩
 refine A5 ?_
 rcases Gh G with ⟨h8, G⟩ | ⟨h8, G⟩
 refine Bl fun B => ?_
 exact ⟨true, G, Ax []⟩
 refine A5 ?_
 rcases Gh G with ⟨h10, G⟩ | ⟨h10, G⟩
 refine A5 ?_
 obtain ⟨e_2, he_2, G⟩ := Ab G
 refine A5 ?_
 refine Ps he_2 ?_
 refine Bl fun B => ?_
 exact ⟨decide (e <= e_2), G, Ax []⟩
 refine Bl fun B => ?_
 exact ⟨false, G, Ax []⟩
 rintro x33_2 G
 replace G : Bm.j2 x9_1 x33_2 = some o1 := G
 show Ca _ _ _ _ (mk _ _ _)
 unfold Bm.j2 at G
 refine Cn rfl G (fun h13 G => ?_) fun h13 G => ?_
 refine Bk 0 8 Ba fun B => ?_
 refine Et ?_
 replace G := Bn G hn1
 exact Q2
 refine Cp ?_
 refine Ak (Ce _ _ []) 0 16 Ba rfl rfl ?_
 refine Bl fun B => ?_
 obtain rfl := oi_ G
 exact ⟨(W (x9_1 + 1), m1), Nat.lt_succ_self _, hn1, Ax []⟩
 refine Fl ?_
 replace G := Bn G hn1
 refine Bk 8 16 B fun B => ?_
 exact Ng
theorem N8 (n : Int) (l : (List Aa)) (s : (List Int)) (r : Bool × Int) (G : D1 n l s = some r) : Fn Tryd.prog 32 0 [vk n, .sl 2 (An Aa.enc l), .sl 1 (An eI s)] [] (fun d' b' => d' = .tup [.val (.bool r.1), vk r.2] /\ b' = []) := by
 unfold D1 at G
 refine Fn.of Tryd.func32 rfl rfl rfl fun w0 I ρ0 => ?_
 show Ca _ ⟨w0, I, ρ0, 0, 0, 22, none⟩ _ _ _
 refine Bk 0 16 Ba fun B => ?_
 refine Af <| Cf 16 48 B ?_
 refine A5 ?_
 obtain ⟨y, hy, G⟩ := Ab G
 refine Dz (H0 _ _ _ hy) ?_
 refine Bl fun B => ?_
 refine Bk 48 64 B fun B => ?_
 refine Cn rfl G (fun h4 G => ?_) fun h4 G => ?_
 refine Cf 64 88 B ?_
 exact E7
 refine Cp ?_
 refine Af <| Cf 64 96 B ?_
 refine A5 ?_
 obtain ⟨y_2, hy_2, G⟩ := Ab G
 refine Dz (Mi _ _ _ hy_2) ?_
 refine Bl fun B => ?_
 refine Cn rfl G (fun h7 G => ?_) fun h7 G => ?_
 refine Cf 96 112 B ?_
 exact E7
 refine Cp ?_
 refine Cf 96 136 B ?_
 refine A5 ?_
 obtain ⟨y_3, hy_3, G⟩ := Ab G
 refine Dz (N1 _ _ _ hy_3) ?_
 exact E7
theorem Pb (n : Int) (l : (List Aa)) (s : (List Int)) (r : (List Int) × Int) (G : C0 n l s = some r) : Fn Tryd.prog 51 0 [vk n, .sl 2 (An Aa.enc l), .sl 1 (An eI s), .val (.func (.func 44) #[] #[])] [] (fun d' b' => d' = .tup [.sl 1 (An eI r.1), vk r.2] /\ b' = []) := by
 unfold C0 at G
 refine Fn.of Tryd.func51 rfl rfl rfl fun w0 I ρ0 => ?_
 show Ca _ ⟨w0, I, ρ0, 0, 0, 42, none⟩ _ _ _
 refine Bk 0 16 Ba fun B => ?_
 refine Cf 16 80 B ?_
 refine A5 ?_
 obtain ⟨y, hy, G⟩ := Ab G
 rcases y with ⟨_ | o, y_r⟩
 replace G := Nw G
 refine Dv (rd := []) (ps := []) (gs := []) false rfl (Dc _ _ _ hy) rfl rfl (.cons .val (.cons .sl .nil)) rfl rfl (by intro h; cases h) rfl (by intro h; first | (cases h; done) | exact ⟨_, _, ⟨rfl, rfl⟩, by simp, by simp⟩) ?_
 rintro _ _ ⟨rfl, rfl⟩
 refine Bl fun B => ?_
 refine Af <| Bk 80 96 B fun B => ?_
 refine Cn rfl G (fun h5 G => ?_) fun h5 G => ?_
 refine Cf 96 120 B ?_
 exact E7
 cases G
 replace G := N7 G
 refine Dv (rd := []) (ps := []) (gs := []) false rfl (Dc _ _ _ hy) rfl rfl (.cons .val (.cons .sl .nil)) rfl rfl (by intro h; cases h) rfl (by intro h; first | (cases h; done) | exact ⟨_, _, ⟨rfl, rfl⟩, by simp, by simp⟩) ?_
 rintro _ _ ⟨rfl, rfl⟩
 refine Bl fun B => ?_
 refine Af <| Bk 80 96 B fun B => ?_
 refine Cn rfl G (fun h8 G => ?_) fun h8 G => ?_
 refine Cf 96 120 B ?_
 exact E7
 refine Cp ?_
 refine Cf 96 160 B ?_
 refine A5 ?_
 obtain ⟨y_2, hy_2, G⟩ := Ab G
 refine Kg [32] [32] [] false (Gq _ _ _ hy_2) ?_
 refine Bl fun B => ?_
 refine Af <| B0 (ι := Bool × Ap) (fun ((x36_1, o_1) : Bool × Ap) => mk [(3, .val (.func (.func 44) #[] #[])), (10, .ptr 0 0), (12, .val (.int .u32 y_2.1)), (36, .val (.bool x36_1))] [(0, .box (Ap.dv o_1) 71)] 1) (fun ((x36_1, o_1) : Bool × Ap) => C0.j1 y_2 x36_1 o_1 = some r) ?_ ?_
 refine Ak (Ce _ _ []) 160 224 B rfl rfl ?_
 refine A5 ?_
 rcases Gh G with ⟨h11, G⟩ | ⟨h11, G⟩
 refine Bl fun B => ?_
 exact ⟨(true, y_2.2.2), G, Ax [(0, 32)]⟩
 refine A5 ?_
 obtain ⟨y_3, hy_3, G⟩ := Ab G
 refine Kg [32] [32] [] false (Hf _ _ _ hy_3) ?_
 refine Bl fun B => ?_
 exact ⟨(!y_3.1, y_3.2), G, Ax [(0, 32)]⟩
 rintro ⟨x36_1, o_1⟩ G
 replace G : C0.j1 y_2 x36_1 o_1 = some r := G
 show Ca _ _ _ _ (mk _ _ _)
 unfold C0.j1 at G
 refine Cn rfl G (fun h14 G => ?_) fun h14 G => ?_
 refine Cf 1 17 Ba ?_
 exact E7
 refine Cp ?_
 refine Cf 1 57 Ba ?_
 refine A5 ?_
 obtain ⟨y_4, hy_4, G⟩ := Ab G
 refine Wg (rd := [0]) (ps := [0]) (gs := []) false rfl rfl (Hr _ _ _ hy_4) rfl rfl (.cons (.ptr rfl) (.cons .val .nil)) ⟨_, _, _, rfl, .head _, ⟨_, rfl, (by repeat' (first | exact Dw.nil | apply Dw.cons | exact Ag.val | exact Ag.sl | exact Ag.nils | exact Ag.ptr rfl | exact Ag.rowK rfl))⟩, rfl⟩ rfl (by intro h; cases h) rfl rfl rfl rfl ?_
 obtain ⟨y_5, hy_5, G⟩ := Ab G
 refine Dz (I5 _ _ hy_5) ?_
 exact E7
theorem Lv (n : Int) (l : (List Aa)) (s : (List Int)) (r : (List Int) × Int) (G : D2 n l s = some r) : Fn Tryd.prog 22 0 [vk n, .sl 2 (An Aa.enc l), .sl 1 (An eI s)] [] (fun d' b' => d' = .tup [.sl 1 (An eI r.1), vk r.2] /\ b' = []) := by
 unfold D2 at G
 refine Fn.of Tryd.func22 rfl rfl rfl fun w0 I ρ0 => ?_
 show Ca _ ⟨w0, I, ρ0, 0, 0, 14, none⟩ _ _ _
 refine Bk 0 16 Ba fun B => ?_
 refine Cf 16 80 B ?_
 refine A5 ?_
 obtain ⟨y, hy, G⟩ := Ab G
 refine Dz (Pb _ _ _ _ hy) ?_
 exact E7
end Go.Proofs.YtopkgllcjbpdeaaDoor
