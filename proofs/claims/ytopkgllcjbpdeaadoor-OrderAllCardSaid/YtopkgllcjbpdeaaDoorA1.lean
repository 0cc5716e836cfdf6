import Derived.Test.YtopkgllcjbpdeaaDoorT1
set_option linter.unusedVariables false
set_option linter.unusedSimpArgs false
set_option maxRecDepth 100000
set_option maxHeartbeats 1600000
namespace Go.Proofs.YtopkgllcjbpdeaaDoor
open Go.RowKit
theorem Io (l : (List Int)) (r : Bool) (G : D9 l = some r) : Fn Tryd.prog 8 0 [.sl 1 (An eI l)] [] (fun d' b' => d' = .val (.bool r) /\ b' = []) := by
 unfold D9 at G
 refine Fn.of Tryd.func8 rfl rfl rfl fun w0 I ρ0 => ?_
 show Ca _ ⟨w0, I, ρ0, 0, 0, 6, none⟩ _ _ _
 refine Bk 0 8 Ba fun B => ?_
 refine Bk 8 40 B fun B => ?_
 exact Ng
theorem M9 (x' : Int) (r : Bool) (G : Gw x' = some r) : Fn Tryd.prog 84 0 [vk x'] [] (fun d' b' => d' = .val (.bool r) /\ b' = []) := by
 unfold Gw at G
 refine Fn.of Tryd.func84 rfl rfl rfl fun w0 I ρ0 => ?_
 show Ca _ ⟨w0, I, ρ0, 0, 0, 6, none⟩ _ _ _
 refine Bk 0 8 Ba fun B => ?_
 refine Bk 8 40 B fun B => ?_
 exact Ng
theorem Le (x' : Int) (y : Int) (r : Int) (G : Fb x' y = some r) : Fn Tryd.prog 73 0 [vk x', vk y] [] (fun d' b' => d' = vk r /\ b' = []) := by
 unfold Fb at G
 refine Fn.of Tryd.func73 rfl rfl rfl fun w0 I ρ0 => ?_
 show Ca _ ⟨w0, I, ρ0, 0, 0, 20, none⟩ _ _ _
 refine Bk 0 8 Ba fun B => ?_
 refine Cf 8 32 B ?_
 refine A5 ?_
 obtain ⟨y_2, hy_2, G⟩ := Ab G
 refine Dz (M9 _ _ hy_2) ?_
 refine Bl fun B => ?_
 refine Cf 32 56 B ?_
 refine A5 ?_
 obtain ⟨y_3, hy_3, G⟩ := Ab G
 refine Dz (M9 _ _ hy_3) ?_
 refine Bl fun B => ?_
 refine Af <| Bk 56 64 B fun B => ?_
 refine Cn rfl G (fun h5 G => ?_) fun h5 G => ?_
 refine Af <| Bk 64 72 B fun B => ?_
 refine Cn rfl G (fun h7 G => ?_) fun h7 G => ?_
 refine Cf 72 80 B ?_
 exact E7
 refine Cp ?_
 refine Bk 72 80 B fun B => ?_
 exact Ng
 refine Cp ?_
 refine Af <| Bk 64 72 B fun B => ?_
 refine Cn rfl G (fun h11 G => ?_) fun h11 G => ?_
 refine Cf 72 80 B ?_
 exact E7
 refine Cp ?_
 refine Af <| Bk 72 96 B fun B => ?_
 refine Cn rfl G (fun h14 G => ?_) fun h14 G => ?_
 refine Cf 96 104 B ?_
 exact E7
 refine Cp ?_
 refine Af <| Bk 96 120 B fun B => ?_
 refine Cn rfl G (fun h17 G => ?_) fun h17 G => ?_
 refine Cf 120 128 B ?_
 exact E7
 refine Cp ?_
 refine Bk 120 128 B fun B => ?_
 exact Ng
theorem W4 (vals : (List Int)) (r : Int) (G : Dk vals = some r) : Fn Tryd.prog 72 0 [.sl 1 (An eI vals)] [] (fun d' b' => d' = vk r /\ b' = []) := by
 unfold Dk at G
 refine Fn.of Tryd.func72 rfl rfl rfl fun w0 I ρ0 => ?_
 show Ca _ ⟨w0, I, ρ0, 0, 0, 18, none⟩ _ _ _
 refine Bk 0 8 Ba fun B => ?_
 refine Bk 8 16 B fun B => ?_
 refine Af <| Bk 16 40 B fun B => ?_
 refine Aj <| Fq (fun (x8_1 : Int) => mk [(3, .val (.int .i64 0)), (6, .sl 1 (An eI vals)), (7, .val (.int .i64 (vals.length : Int))), (8, vk x8_1)] [] 0) G (Ax []) ?_
 rintro x8_1 m1 o1 G hn1
 replace G : Dk.l1 vals x8_1 = some o1 := G
 show Ca _ _ _ _ (mk _ _ _)
 unfold Dk.l1 at G
 refine Bk 0 8 Ba fun B => ?_
 refine Af <| Cn rfl G (fun h5 G => ?_) fun h5 G => ?_
 refine Cp ?_
 refine Af <| Aj <| Cf 8 32 B ?_
 obtain ⟨e, he, G⟩ := Ab G
 refine A5 ?_
 refine Ps he ?_
 refine Bl fun B => ?_
 refine Bk 32 56 B fun B => ?_
 refine Cn rfl G (fun h8 G => ?_) fun h8 G => ?_
 refine Bk 56 72 B fun B => ?_
 refine Et ?_
 replace G := Bn G hn1
 exact Q2
 refine Cp ?_
 refine Ak (Ce _ _ []) 56 72 B rfl rfl ?_
 refine Bl fun B => ?_
 obtain rfl := oi_ G
 exact ⟨(W (x8_1 + 1), m1), Nat.lt_succ_self _, hn1, Ax []⟩
 refine Fl ?_
 replace G := Bn G hn1
 refine Bk 8 24 B fun B => ?_
 exact Ng
theorem Sl (a : Aa) (b : Aa) (r : Int) (G : Gy a b = some r) : Fn Tryd.prog 61 0 [.agg [vk a.First, vk a.Then], .agg [vk b.First, vk b.Then]] [] (fun d' b' => d' = vk r /\ b' = []) := by
 unfold Gy at G
 refine Fn.of Tryd.func61 rfl rfl rfl fun w0 I ρ0 => ?_
 show Ca _ ⟨w0, I, ρ0, 0, 0, 17, none⟩ _ _ _
 refine Bk 0 24 Ba fun B => ?_
 refine Af <| Br (Ce _ _ []) (by kernel_rfl) [0, 1, 0, 4, 15, 0, 32, 0, 128, 511, 1023, 2047, 4095] 24 128 B rfl rfl (by kernel_rfl) ?_
 refine A5 ?_
 obtain ⟨y, hy, G⟩ := Ab G
 refine Dz (Le _ _ _ hy) ?_
 refine A5 ?_
 obtain ⟨y_2, hy_2, G⟩ := Ab G
 refine Dz (Le _ _ _ hy_2) ?_
 refine Pt nR z3 aE ([y, y_2] : List Int) eI ?_
 obtain ⟨y_3, hy_3, G⟩ := Ab G
 refine Kg [104] [] [] true (W4 _ _ hy_3) ?_
 exact E7
theorem H7 (s : Int) (i : Int) (r : Bool) (G : Ev s i = some r) : Fn Tryd.prog 43 0 [.val (.int .u32 s), vk i] [] (fun d' b' => d' = .val (.bool r) /\ b' = []) := by
 unfold Ev at G
 refine Fn.of Tryd.func43 rfl rfl rfl fun w0 I ρ0 => ?_
 show Ca _ ⟨w0, I, ρ0, 0, 0, 10, none⟩ _ _ _
 refine Bk 0 8 Ba fun B => ?_
 refine Cf 8 56 B ?_
 refine A5 ?_
 obtain ⟨q, hq, G⟩ := Ab G
 refine Ei rfl rfl (M5 hq) rfl rfl ?_
 refine Ei rfl rfl Pr rfl rfl ?_
 exact E7
theorem Fy (s : Int) (r : Int) (G : C7 s = some r) : Fn Tryd.prog 40 0 [.val (.int .u32 s)] [] (fun d' b' => d' = .clo 63 0 [.ptr 0 0] /\ b' = [.box [.val (.int .u32 r)] 68]) := by
 unfold C7 at G
 refine Fn.of Tryd.func40 rfl rfl rfl fun w0 I ρ0 => ?_
 show Ca _ ⟨w0, I, ρ0, 0, 0, 4, none⟩ _ _ _
 refine Bk 0 16 Ba fun B => ?_
 refine Bk 16 32 B fun B => ?_
 refine Et ?_
 obtain rfl := oi_ G
 exact Fe [(0, 0)] ⟨rfl, rfl⟩
theorem Cq (x' : Int) (r : Int) (G : Ci x' = some r) : Fn Tryd.prog 47 0 [.val (.int .u32 x')] [] (fun d' b' => d' = vk r /\ b' = []) := by
 unfold Ci at G
 refine Fn.of Tryd.func47 rfl rfl rfl fun w0 I ρ0 => ?_
 show Ca _ ⟨w0, I, ρ0, 0, 0, 14, none⟩ _ _ _
 refine Bk 0 8 Ba fun B => ?_
 refine Af <| Bk 8 24 B fun B => ?_
 refine Cn rfl G (fun h3 G => ?_) fun h3 G => ?_
 refine Cf 24 32 B ?_
 exact E7
 refine Cp ?_
 refine Cf 24 104 B ?_
 refine A5 ?_
 refine Ei rfl rfl mT rfl rfl ?_
 refine Ei rfl rfl Pr rfl rfl ?_
 refine Ei rfl rfl mJ rfl rfl ?_
 obtain ⟨q, hq, G⟩ := Ab G
 refine Ei rfl rfl (M5 hq) rfl rfl ?_
 obtain ⟨e, he, G⟩ := Ab G
 refine Yp (rd := []) rfl rfl (.idxA (j := ((q).toNat)) mS rS (Iv he) (List.getElem?_eq_some_iff.1 (Ar he)).1) rfl rfl (fun _ => ⟨_, rfl⟩) ?_
 rintro _ rfl
 refine Ei rfl rfl (D0 rS (gM (Ar he))) rfl rfl ?_
 refine Ei rfl rfl (Kf (u := e) Zq Ve) rfl rfl ?_
 exact E7
theorem Ln (n : Int) (l_2 : List Int) (x75_5 : Int) (yield' : Int -> (Nat × (List Int)) -> Option (Bool × (Nat × (List Int)))) (c0 : Int) (q : (Nat × (List Int))) (r : Int × (Nat × (List Int))) (G : A1 yield' c0 q = some r) (rc : Loop) (hR : ∀ (x0 : Int) (q' : Nat × (List Int)) (y' : Bool × (Nat × (List Int))), yield' x0 q' = some y' -> Y6 Tryd.prog [5, 10] [.ptr 0 0, .ptr 2 0] 100 (Ft rc 0) 3 4 [vk x0] [.box [.ptr 1 0] 62, .box [vk n, .row 4, .row 5] 71, .box [vk x75_5] 3, .lop [5, 10] [.ptr 0 0, .ptr 2 0] 100 (Ft rc q'.1), .row 68 1 (An (eK .u32) l_2), .row 68 1 (An (eK .u32) q'.2)] (fun b1 b2 => b1 = y'.1 /\ b2 = [.box [.ptr 1 0] 62, .box [vk n, .row 4, .row 5] 71, .box [vk x75_5] 3, .lop [5, 10] [.ptr 0 0, .ptr 2 0] 100 (Ft rc y'.2.1), .row 68 1 (An (eK .u32) l_2), .row 68 1 (An (eK .u32) y'.2.2)])) : Y7 Tryd.prog 63 3 5 [.ptr 4 0] [.box [.ptr 1 0] 62, .box [vk n, .row 5, .row 6] 71, .box [vk x75_5] 3, .lop [5, 10] [.ptr 0 0, .ptr 2 0] 100 (Ft rc q.1), .box [.val (.int .u32 c0)] 68, .row 68 1 (An (eK .u32) l_2), .row 68 1 (An (eK .u32) q.2)] (fun b' => b' = [.box [.ptr 1 0] 62, .box [vk n, .row 5, .row 6] 71, .box [vk x75_5] 3, .lop [5, 10] [.ptr 0 0, .ptr 2 0] 100 (Ft rc r.2.1), .box [.val (.int .u32 r.1)] 68, .row 68 1 (An (eK .u32) l_2), .row 68 1 (An (eK .u32) r.2.2)]) := by
 unfold A1 at G
 refine Y7.of Tryd.func63 rfl rfl rfl rfl fun w0 I ρ0 l hl => ?_
 show Ca _ ⟨w0, I, ρ0, 5, 7, 16, none⟩ _ _ _
 refine Aj <| Fq (fun ((q_1, b_1) : (Nat × (List Int)) × Int) => mk [(0, .val (.func (.yield l) #[] #[])), (1, .ptr 4 0)] [(0, .box [.ptr 1 0] 62), (1, .box [vk n, .row 5, .row 6] 71), (2, .box [vk x75_5] 3), (3, .lop [5, 10] [.ptr 0 0, .ptr 2 0] 100 (Ft rc q_1.1)), (4, .box [.val (.int .u32 b_1)] 68), (5, .row 68 1 (An (eK .u32) l_2)), (6, .row 68 1 (An (eK .u32) q_1.2))] 7) G (Ax [(0, 0), (1, 1), (2, 2), (3, 3), (4, 4), (5, 5), (6, 6)]) ?_
 rintro ⟨q_1, b_1⟩ m1 o1 G hn1
 replace G : A1.l1 yield' q_1 b_1 = some o1 := G
 show Ca _ _ _ _ (mk _ _ _)
 unfold A1.l1 at G
 refine Af <| Bk 7 23 Ba fun B => ?_
 refine Cn rfl G (fun h2 G => ?_) fun h2 G => ?_
 refine Cp ?_
 refine Aj <| Cf 23 47 B ?_
 refine A5 ?_
 obtain ⟨y, hy, G⟩ := Ab G
 refine Dz (Cq _ _ hy) ?_
 refine Bl fun B => ?_
 refine Af <| Br (Ce _ _ []) (by kernel_rfl) [0, 0, 2, 7, 15] 47 87 B rfl rfl (by kernel_rfl) ?_
 refine A5 ?_
 obtain ⟨q_2, hq_2, G⟩ := Ab G
 refine Ei rfl rfl (Hu hq_2) rfl rfl ?_
 refine Ei rfl rfl Ig rfl rfl ?_
 refine Bl fun B => ?_
 refine Af <| Ii ?_
 refine G6.chain (Ce _ _ []) 2 87 103 B rfl rfl ?_
 show Cs _ _ _ _ (idx 0 [_, _]) _ _ _
 refine A5 ?_
 refine Sh fun B => ?_
 obtain ⟨y_2, hy_2, G⟩ := Ab G
 refine pC 103 [0, 1, 2, 3] [5, 6] [0, 1, 2, 3, 5, 6] false B hl (hR _ _ _ hy_2) (.cons .val .nil) ⟨_, _, _, rfl, .head _, ⟨_, rfl, (by repeat' (first | exact Dw.nil | apply Dw.cons | exact Ag.val | exact Ag.sl | exact Ag.nils | exact Ag.ptr rfl | exact Ag.rowK rfl | exact Ag.elt))⟩, ⟨_, _, _, rfl, .tail _ (.head _), ⟨_, rfl, (by repeat' (first | exact Dw.nil | apply Dw.cons | exact Ag.val | exact Ag.sl | exact Ag.nils | exact Ag.ptr rfl | exact Ag.rowK rfl | exact Ag.elt))⟩, ⟨_, _, _, rfl, .tail _ (.tail _ (.head _)), ⟨_, rfl, (by repeat' (first | exact Dw.nil | apply Dw.cons | exact Ag.val | exact Ag.sl | exact Ag.nils | exact Ag.ptr rfl | exact Ag.rowK rfl | exact Ag.elt))⟩, ⟨_, _, _, rfl, .tail _ (.tail _ (.tail _ (.head _))), ⟨_, rfl, (by repeat' (first | exact Dw.nil | apply Dw.cons | exact Ag.val | exact Ag.sl | exact Ag.nils | exact Ag.ptr rfl | exact Ag.rowK rfl | exact Ag.elt))⟩, ⟨_, _, _, rfl, .tail _ (.tail _ (.tail _ (.tail _ (.head _)))), rfl, ⟨_, _, _, rfl, .tail _ (.tail _ (.tail _ (.tail _ (.tail _ (.head _))))), rfl, rfl⟩⟩⟩⟩⟩⟩ fun B => ?_
 refine G6.chain (Ce _ _ []) 1 111 119 B rfl rfl ?_
 show Cs _ _ _ _ (idx 0 [_]) _ _ _
 refine A5 ?_
 refine Sh fun B => ?_
 refine G6.fin ?_
 refine U0 ?_
 refine Cn rfl G (fun h8 G => ?_) fun h8 G => ?_
 refine J1 ?_
 refine U0 ?_
 replace G := Bn G hn1
 obtain rfl := oi_ G
 exact Fe [(0, 0), (1, 1), (2, 2), (3, 3), (4, 4), (5, 103), (6, 104)] ⟨rfl, rfl⟩
 refine Cp ?_
 obtain rfl := oi_ G
 exact ⟨((y_2.2, G4 .u32 b_1 q_2), m1), Nat.lt_succ_self _, hn1, Ax [(0, 0), (1, 1), (2, 2), (3, 3), (4, 4), (5, 103), (6, 104)]⟩
 refine Fl ?_
 replace G := Bn G hn1
 obtain rfl := oi_ G
 exact Fe [(0, 0), (1, 1), (2, 2), (3, 3), (4, 4), (5, 5), (6, 6)] ⟨rfl, rfl⟩
theorem Sp (n : Int) (l : (List Aa)) (r : Ap) (G : Aw n l = some r) : Fn Tryd.prog 62 0 [vk n, .sl 2 (An Aa.enc l)] [] (fun d' b' => d' = .ptr 0 0 /\ b' = [.box (Ap.dv r) 71]) := by
 unfold Aw at G
 refine Fn.of Tryd.func62 rfl rfl rfl fun w0 I ρ0 => ?_
 show Ca _ ⟨w0, I, ρ0, 0, 0, 100, none⟩ _ _ _
 refine Bk 0 8 Ba fun B => ?_
 refine Af <| Br (Ce _ _ []) (by kernel_rfl) [0, 0, 2, 0, 8, 31, 63, 0, 255] 8 80 B rfl rfl (by kernel_rfl) ?_
 refine A5 ?_
 obtain ⟨m, hm, G⟩ := Ab G
 refine Ei rfl rfl (Ue (f := (eK .u32)) cI pX G1 (.cons .int .nil) rfl hm rfl) rfl rfl ?_
 refine A5 ?_
 obtain ⟨m_2, hm_2, G⟩ := Ab G
 refine Ei rfl rfl (Ue (f := (eK .u32)) cI pX G1 (.cons .int .nil) rfl hm_2 rfl) rfl rfl ?_
 refine cG bL sD sS ?_
 refine Bl fun B => ?_
 refine Af <| Bk 80 104 B fun B => ?_
 refine Aj <| Fq (fun ((x21_1, l_1) : Int × List Int) => mk [(0, vk n), (5, .ptr 0 0), (19, .sl 2 (An Aa.enc l)), (20, .val (.int .i64 (l.length : Int))), (21, vk x21_1)] [(0, .box [.ptr 1 0] 62), (1, .box [vk n, .row 2, .row 3] 71), (2, .row 68 1 (An (eK .u32) l_1)), (3, .row 68 1 (An (eK .u32) m_2))] 4) G (Ax [(0, 64), (1, 56), (2, 24), (3, 40)]) ?_
 rintro ⟨x21_1, l_1⟩ m1 o1 G hn1
 replace G : Aw.l1 n l m_2 x21_1 l_1 = some o1 := G
 show Ca _ _ _ _ (mk _ _ _)
 unfold Aw.l1 at G
 refine Bk 4 12 Ba fun B => ?_
 refine Af <| Cn rfl G (fun h5 G => ?_) fun h5 G => ?_
 refine Cp ?_
 refine Af <| Aj <| Cf 12 44 B ?_
 obtain ⟨e, he, G⟩ := Ab G
 refine A5 ?_
 refine Xt he ?_
 refine Bl fun B => ?_
 refine Br (Ce _ _ []) (by kernel_rfl) [0, 1, 3, 7, 0, 16, 63, 127, 0, 256, 768, 2047, 4095, 8191] 44 156 B rfl rfl (by kernel_rfl) ?_
 refine A5 ?_
 obtain ⟨e_2, he_2, G⟩ := Ab G
 refine A5 ?_
 refine Ch (rd := [2]) rfl rfl (.loadR1 Cu (A9 (Bd _) (Ar he_2) (o := 0) (c := .int .u32 e_2) rfl rfl)) rfl rfl ?_
 refine A5 ?_
 obtain ⟨q, hq, G⟩ := Ab G
 refine Ei rfl rfl (Hu hq) rfl rfl ?_
 refine Ei rfl rfl R5 rfl rfl ?_
 refine A5 ?_
 refine Ch (rd := [2]) rfl rfl (C2 Cu rfl (Bu (Bd _) (Ar he_2) (o := 0) (m := 1) (by decide) rfl) G1 (cs' := [.int .u32 (Ry .u32 e_2 q)]) (.cons .int .nil) (Cd (Bd _) (Ar he_2) (o := 0) (x' := Ry .u32 e_2 q) (Nat.le_of_ble_eq_true rfl) rfl rfl)) rfl rfl ?_
 refine Fc fun B => ?_
 refine Ak (Ce _ _ []) 156 172 B rfl rfl ?_
 refine Bl fun B => ?_
 obtain rfl := oi_ G
 exact ⟨((W (x21_1 + 1), Cg l_1 ((e.Then).toNat) (Ry .u32 e_2 q)), m1), Nat.lt_succ_self _, hn1, Ax [(0, 0), (1, 1), (2, 2), (3, 3)]⟩
 refine Fl ?_
 replace G := Bn G hn1
 refine Af <| Bk 12 28 B fun B => ?_
 refine Aj <| Fq (fun ((x40_2, l_2) : Int × List Int) => mk [(0, vk n), (5, .ptr 0 0), (39, vk n), (40, vk x40_2)] [(0, .box [.ptr 1 0] 62), (1, .box [vk n, .row 2, .row 3] 71), (2, .row 68 1 (An (eK .u32) l_2)), (3, .row 68 1 (An (eK .u32) m_2))] 4) G (Ax [(0, 0), (1, 1), (2, 2), (3, 3)]) ?_
 rintro ⟨x40_2, l_2⟩ m2 o2 G hn2
 replace G : Aw.l2 n m_2 x40_2 l_2 = some o2 := G
 show Ca _ _ _ _ (mk _ _ _)
 unfold Aw.l2 at G
 refine Bk 4 12 Ba fun B => ?_
 refine Af <| Cn rfl G (fun h11 G => ?_) fun h11 G => ?_
 refine Cp ?_
 refine Af <| Aj <| Bk 12 28 B fun B => ?_
 refine Bk 28 44 B fun B => ?_
 refine Aj <| Fq (fun ((x44_3, l_3) : Int × List Int) => mk [(0, vk n), (5, .ptr 0 0), (8, vk x40_2), (39, vk n), (40, vk x40_2), (43, vk n), (44, vk x44_3)] [(0, .box [.ptr 1 0] 62), (1, .box [vk n, .row 2, .row 3] 71), (2, .row 68 1 (An (eK .u32) l_3)), (3, .row 68 1 (An (eK .u32) m_2))] 4) G (Ax [(0, 0), (1, 1), (2, 2), (3, 3)]) ?_
 rintro ⟨x44_3, l_3⟩ m3 o3 G hn3
 replace G : Aw.l3 n x40_2 x44_3 l_3 = some o3 := G
 show Ca _ _ _ _ (mk _ _ _)
 unfold Aw.l3 at G
 refine Bk 4 12 Ba fun B => ?_
 refine Af <| Cn rfl G (fun h15 G => ?_) fun h15 G => ?_
 refine Cp ?_
 refine B0 (ι := List Int) (fun (l_4 : List Int) => mk [(0, vk n), (5, .ptr 0 0), (8, vk x40_2), (39, vk n), (40, vk x40_2), (43, vk n), (44, vk x44_3)] [(0, .box [.ptr 1 0] 62), (1, .box [vk n, .row 2, .row 3] 71), (2, .row 68 1 (An (eK .u32) l_4)), (3, .row 68 1 (An (eK .u32) m_2))] 4) (fun (l_4 : List Int) => Aw.j4 x44_3 l_4 = some o3) ?_ ?_
 refine Aj <| Bk 12 28 B fun B => ?_
 refine Cf 28 100 B ?_
 refine A5 ?_
 obtain ⟨e_3, he_3, G⟩ := Ab G
 refine A5 ?_
 refine Ch (rd := [2]) rfl rfl (.loadR1 Cu (A9 (Bd _) (Ar he_3) (o := 0) (c := .int .u32 e_3) rfl rfl)) rfl rfl ?_
 refine A5 ?_
 obtain ⟨y, hy, G⟩ := Ab G
 refine Dz (H7 _ _ _ hy) ?_
 refine Fc fun B => ?_
 refine Cn rfl G (fun h18 G => ?_) fun h18 G => ?_
 refine Br (Ce _ _ []) (by kernel_rfl) [0, 1, 3, 7, 0, 31, 63, 0, 128, 384, 896, 0, 3968, 8064, 16383, 32767, 65535] 100 236 B rfl rfl (by kernel_rfl) ?_
 refine A5 ?_
 refine Ch (rd := [2]) rfl rfl (.loadR1 Cu (A9 (Bd _) (Ar he_3) (o := 0) (c := .int .u32 e_3) rfl rfl)) rfl rfl ?_
 refine A5 ?_
 obtain ⟨e_4, he_4, G⟩ := Ab G
 refine A5 ?_
 refine Ch (rd := [2]) rfl rfl (.loadR1 Cu (A9 (Bd _) (Ar he_4) (o := 0) (c := .int .u32 e_4) rfl rfl)) rfl rfl ?_
 refine Ei rfl rfl R5 rfl rfl ?_
 refine A5 ?_
 refine Ch (rd := [2]) rfl rfl (C2 Cu rfl (Bu (Bd _) (Ar he_3) (o := 0) (m := 1) (by decide) rfl) G1 (cs' := [.int .u32 (Ry .u32 e_3 e_4)]) (.cons .int .nil) (Cd (Bd _) (Ar he_3) (o := 0) (x' := Ry .u32 e_3 e_4) (Nat.le_of_ble_eq_true rfl) rfl rfl)) rfl rfl ?_
 refine Fc fun B => ?_
 exact ⟨Cg l_3 ((x44_3).toNat) (Ry .u32 e_3 e_4), G, Ax [(0, 0), (1, 1), (2, 2), (3, 3)]⟩
 refine Cp ?_
 exact ⟨l_3, G, Ax [(0, 0), (1, 1), (2, 2), (3, 3)]⟩
 rintro l_4 G
 replace G : Aw.j4 x44_3 l_4 = some o3 := G
 show Ca _ _ _ _ (mk _ _ _)
 unfold Aw.j4 at G
 refine Ak (Ce _ _ []) 4 20 Ba rfl rfl ?_
 refine Bl fun B => ?_
 obtain rfl := oi_ G
 exact ⟨((W (x44_3 + 1), l_4), m3), Nat.lt_succ_self _, hn3, Ax [(0, 0), (1, 1), (2, 2), (3, 3)]⟩
 refine Fl ?_
 replace G := Bn G hn3
 refine Ak (Ce _ _ []) 12 28 B rfl rfl ?_
 refine Bl fun B => ?_
 obtain rfl := oi_ G
 exact ⟨((W (x40_2 + 1), l_3), m2), Nat.lt_succ_self _, hn2, Ax [(0, 0), (1, 1), (2, 2), (3, 3)]⟩
 refine Fl ?_
 replace G := Bn G hn2
 refine Af <| Bk 12 28 B fun B => ?_
 refine Aj <| Fq (fun ((x75_5, l_5) : Int × List Int) => mk [(5, .ptr 0 0), (74, vk n), (75, vk x75_5)] [(0, .box [.ptr 1 0] 62), (1, .box [vk n, .row 2, .row 3] 71), (2, .row 68 1 (An (eK .u32) l_2)), (3, .row 68 1 (An (eK .u32) l_5))] 4) G (Ax [(0, 0), (1, 1), (2, 2), (3, 3)]) ?_
 rintro ⟨x75_5, l_5⟩ m5 o5 G hn5
 replace G : Aw.l5 n l_2 x75_5 l_5 = some o5 := G
 show Ca _ _ _ _ (mk _ _ _)
 unfold Aw.l5 at G
 refine Bk 4 12 Ba fun B => ?_
 refine Af <| Cn rfl G (fun h24 G => ?_) fun h24 G => ?_
 refine Cp ?_
 refine Af <| Aj <| Bk 12 36 B fun B => ?_
 refine Af <| Br (Ce _ _ []) (by kernel_rfl) [0, 1, 3, 7, 0, 31, 63, 127] 36 100 B rfl rfl (by kernel_rfl) ?_
 refine A5 ?_
 obtain ⟨e_5, he_5, G⟩ := Ab G
 refine A5 ?_
 refine Ch (rd := [2]) rfl rfl (.loadR1 Cu (A9 (Bd _) (Ar he_5) (o := 0) (c := .int .u32 e_5) rfl rfl)) rfl rfl ?_
 obtain ⟨y_2, hy_2, G⟩ := Ab G
 refine Dv (rd := []) (ps := []) (gs := []) false rfl (Fy _ _ hy_2) rfl rfl (.cons .val .nil) rfl rfl (by intro h; cases h) rfl (by intro h; first | (cases h; done) | exact ⟨_, _, ⟨rfl, rfl⟩, by simp, by simp⟩) ?_
 rintro _ _ ⟨rfl, rfl⟩
 refine Fc fun B => ?_
 refine Aj ?_
 obtain ⟨y_3, hy_3, G⟩ := Ab G
 refine It (σ' := mk [(5, .ptr 0 0), (10, .ptr 1 0), (74, vk n), (75, vk x75_5), (85, .clo 63 0 [.ptr 2 0])] [(0, .box [.ptr 3 0] 62), (1, .box [vk x75_5] 3), (2, .box [.val (.int .u32 y_2)] 68), (3, .box [vk n, .row 4, .row 5] 71), (4, .row 68 1 (An (eK .u32) l_2)), (5, .row 68 1 (An (eK .u32) l_5))] 6) (Ax [(0, 0), (1, 20), (2, 92), (3, 1), (4, 2), (5, 3)]) ?_
 refine cC (c := y_3.2.1) (ts := [5, 10]) (ds := [.ptr 0 0, .ptr 1 0]) 6 [0, 3, 1, 6, 2] [4, 5] [0, 3, 1, 6, 2, 4, 5] false Ba (Ln n l_2 x75_5 (fun a0' q' => Y5 (fun s' => Aw.r6 x75_5 a0' s') q') y_2 (0, l_5) _ hy_3) (by repeat' first | exact trivial | refine And.intro rfl ?_) (fun _ _ => .cons (.ptr rfl) .nil) (fun _ _ => ⟨_, _, _, rfl, .head _, ⟨_, rfl, (by repeat' (first | exact Dw.nil | apply Dw.cons | exact Ag.val | exact Ag.sl | exact Ag.nils | exact Ag.ptr rfl | exact Ag.rowK rfl | exact Ag.elt))⟩, ⟨_, _, _, rfl, .tail _ (.head _), ⟨_, rfl, (by repeat' (first | exact Dw.nil | apply Dw.cons | exact Ag.val | exact Ag.sl | exact Ag.nils | exact Ag.ptr rfl | exact Ag.rowK rfl | exact Ag.elt))⟩, ⟨_, _, _, rfl, .tail _ (.tail _ (.head _)), ⟨_, rfl, (by repeat' (first | exact Dw.nil | apply Dw.cons | exact Ag.val | exact Ag.sl | exact Ag.nils | exact Ag.ptr rfl | exact Ag.rowK rfl | exact Ag.elt))⟩, ⟨_, _, _, rfl, .tail _ (.tail _ (.tail _ (.head _))), ⟨_, rfl, (by repeat' (first | exact Dw.nil | apply Dw.cons | exact Ag.val | exact Ag.sl | exact Ag.nils | exact Ag.ptr rfl | exact Ag.rowK rfl | exact Ag.elt))⟩, ⟨_, _, _, rfl, .tail _ (.tail _ (.tail _ (.tail _ (.head _)))), ⟨_, rfl, (by repeat' (first | exact Dw.nil | apply Dw.cons | exact Ag.val | exact Ag.sl | exact Ag.nils | exact Ag.ptr rfl | exact Ag.rowK rfl | exact Ag.elt))⟩, ⟨_, _, _, rfl, .tail _ (.tail _ (.tail _ (.tail _ (.tail _ (.head _))))), rfl, ⟨_, _, _, rfl, .tail _ (.tail _ (.tail _ (.tail _ (.tail _ (.tail _ (.head _)))))), rfl, rfl⟩⟩⟩⟩⟩⟩⟩) ?_ ?_
 intro _ _ a _ _ hq
 obtain ⟨l_6, o6, rfl, rfl, G⟩ := Mf hq
 replace G : Aw.r6 x75_5 a l_6 = some o6 := G
 unfold Aw.r6 at G
 refine Y6.of rfl rfl (by kernel_rfl) fun w0 I ρ0 l hl => ?_
 show Ca _ ⟨w0, I, ρ0, 4, 6, 100, some l⟩ _ _ _
 refine Ak (Ce _ _ []) 6 14 Ba rfl rfl ?_
 refine Bl fun B => ?_
 refine pB B rfl rfl fun rb6 hrb6 B => ?_
 refine Aj <| Br (Ce _ _ []) (by kernel_rfl) [0, 1, 3, 7, 0, 31, 63, 0, 128, 511, 1023, 2047] 14 110 B rfl rfl (by kernel_rfl) ?_
 refine A5 ?_
 obtain ⟨e_6, he_6, G⟩ := Ab G
 refine A5 ?_
 refine Ch (rd := [5]) rfl rfl (.loadR1 Cu (A9 (Bd _) (Ar he_6) (o := 0) (c := .int .u32 e_6) rfl rfl)) rfl rfl ?_
 refine A5 ?_
 obtain ⟨q_2, hq_2, G⟩ := Ab G
 refine Ei rfl rfl (Hu hq_2) rfl rfl ?_
 refine Ei rfl rfl R5 rfl rfl ?_
 refine A5 ?_
 refine Ch (rd := [5]) rfl rfl (C2 Cu rfl (Bu (Bd _) (Ar he_6) (o := 0) (m := 1) (by decide) rfl) G1 (cs' := [.int .u32 (Ry .u32 e_6 q_2)]) (.cons .int .nil) (Cd (Bd _) (Ar he_6) (o := 0) (x' := Ry .u32 e_6 q_2) (Nat.le_of_ble_eq_true rfl) rfl rfl)) rfl rfl ?_
 refine Fc fun B => ?_
 obtain rfl := oi_ G
 exact lR (kQ 0 hrb6 [(0, 0), (1, 1), (2, 2), (3, 3), (4, 4), (5, 5)] rfl ⟨rfl, rfl⟩)
 intro _ _ B
 rcases oE G with ⟨hj, G⟩ | G
 refine oY hj ?_
 refine U0 ?_
 refine Ak (Ce _ _ []) 22 38 B rfl rfl ?_
 refine Bl fun B => ?_
 obtain rfl := oi_ G
 exact ⟨((W (x75_5 + 1), y_3.2.2), m5), Nat.lt_succ_self _, hn5, Ax [(0, 0), (1, 3), (2, 14), (3, 15)]⟩
 cases G
 refine Fl ?_
 replace G := Bn G hn5
 refine Bk 12 28 B fun B => ?_
 refine Et ?_
 obtain rfl := oi_ G
 exact Fe [(0, 1)] ⟨rfl, rfl⟩
theorem Dc (n : Int) (l : (List Aa)) (r : Option Ap × Int) (G : Ay n l = some r) : Fn Tryd.prog 39 0 [vk n, .sl 2 (An Aa.enc l)] [] (fun d' b' => d' = .tup [(match r.1 with | some _ => .ptr 0 0 | none => .val (.pointer none)), vk r.2] /\ b' = [] ++ (match r.1 with | some v' => [.box (Ap.dv v') 71] | none => [])) := by
 unfold Ay at G
 refine Fn.of Tryd.func39 rfl rfl rfl fun w0 I ρ0 => ?_
 show Ca _ ⟨w0, I, ρ0, 0, 0, 91, none⟩ _ _ _
 refine Bk 0 16 Ba fun B => ?_
 refine Af <| B0 (ι := Bool) (fun (x17_1 : Bool) => mk [(0, vk n), (1, .sl 2 (An Aa.enc l)), (17, .val (.bool x17_1))] [] 0) (fun (x17_1 : Bool) => Ay.j1 n l x17_1 = some r) ?_ ?_
 refine Ak (Ce _ _ []) 16 64 B rfl rfl ?_
 refine A5 ?_
 rcases Gh G with ⟨h2, G⟩ | ⟨h2, G⟩
 refine Bl fun B => ?_
 exact ⟨true, G, Ax []⟩
 refine Bl fun B => ?_
 exact ⟨decide (24 < n), G, Ax []⟩
 rintro x17_1 G
 replace G : Ay.j1 n l x17_1 = some r := G
 show Ca _ _ _ _ (mk _ _ _)
 unfold Ay.j1 at G
 refine Cn rfl G (fun h5 G => ?_) fun h5 G => ?_
 refine Cf 0 16 Ba ?_
 exact E7
 refine Cp ?_
 refine Af <| Bk 0 24 Ba fun B => ?_
 refine Aj <| Fq (fun (x20_2 : Int) => mk [(0, vk n), (1, .sl 2 (An Aa.enc l)), (18, .sl 2 (An Aa.enc l)), (19, .val (.int .i64 (l.length : Int))), (20, vk x20_2)] [] 0) G (Ax []) ?_
 rintro x20_2 m2 o2 G hn2
 replace G : Ay.l2 n l x20_2 = some o2 := G
 show Ca _ _ _ _ (mk _ _ _)
 unfold Ay.l2 at G
 refine Bk 0 8 Ba fun B => ?_
 refine Af <| Cn rfl G (fun h9 G => ?_) fun h9 G => ?_
 refine Cp ?_
 refine Af <| Aj <| Cf 8 40 B ?_
 obtain ⟨e, he, G⟩ := Ab G
 refine A5 ?_
 refine Xt he ?_
 refine Bl fun B => ?_
 refine B0 (ι := Bool) (fun (x50_3 : Bool) => mk [(0, vk n), (1, .sl 2 (An Aa.enc l)), (18, .sl 2 (An Aa.enc l)), (19, .val (.int .i64 (l.length : Int))), (20, vk x20_2), (50, .val (.bool x50_3))] [] 0) (fun (x50_3 : Bool) => Ay.j3 x20_2 x50_3 = some o2) ?_ ?_
 refine Ak (Ce _ _ []) 40 256 B rfl rfl ?_
 refine A5 ?_
 rcases Gh G with ⟨h11, G⟩ | ⟨h11, G⟩
 refine Bl fun B => ?_
 exact ⟨true, G, Ax []⟩
 refine A5 ?_
 rcases Gh G with ⟨h13, G⟩ | ⟨h13, G⟩
 refine Bl fun B => ?_
 exact ⟨true, G, Ax []⟩
 refine A5 ?_
 rcases Gh G with ⟨h15, G⟩ | ⟨h15, G⟩
 refine Bl fun B => ?_
 exact ⟨true, G, Ax []⟩
 refine A5 ?_
 rcases Gh G with ⟨h17, G⟩ | ⟨h17, G⟩
 refine Bl fun B => ?_
 exact ⟨true, G, Ax []⟩
 refine Bl fun B => ?_
 exact ⟨decide (e.First = e.Then), G, Ax []⟩
 rintro x50_3 G
 replace G : Ay.j3 x20_2 x50_3 = some o2 := G
 show Ca _ _ _ _ (mk _ _ _)
 unfold Ay.j3 at G
 refine Cn rfl G (fun h20 G => ?_) fun h20 G => ?_
 refine Bk 0 16 Ba fun B => ?_
 refine Et ?_
 replace G := Bn G hn2
 exact Q2
 refine Cp ?_
 refine Ak (Ce _ _ []) 0 16 Ba rfl rfl ?_
 refine Bl fun B => ?_
 obtain rfl := oi_ G
 exact ⟨(W (x20_2 + 1), m2), Nat.lt_succ_self _, hn2, Ax []⟩
 refine Fl ?_
 replace G := Bn G hn2
 refine Af <| Bk 8 32 B fun B => ?_
 refine Aj <| Fq (fun (x54_4 : Int) => mk [(0, vk n), (1, .sl 2 (An Aa.enc l)), (53, .val (.int .i64 (l.length : Int))), (54, vk x54_4)] [] 0) G (Ax []) ?_
 rintro x54_4 m4 o4 G hn4
 replace G : Ay.l4 n l x54_4 = some o4 := G
 show Ca _ _ _ _ (mk _ _ _)
 unfold Ay.l4 at G
 refine Bk 0 8 Ba fun B => ?_
 refine Af <| Cn rfl G (fun h25 G => ?_) fun h25 G => ?_
 refine Cp ?_
 refine Af <| Aj <| Bk 8 24 B fun B => ?_
 refine B0 (ι := Bool) (fun (x71_5 : Bool) => mk [(0, vk n), (1, .sl 2 (An Aa.enc l)), (53, .val (.int .i64 (l.length : Int))), (54, vk x54_4), (71, .val (.bool x71_5))] [] 0) (fun (x71_5 : Bool) => Ay.j5 x54_4 x71_5 = some o4) ?_ ?_
 refine Br (Ce _ _ []) (by kernel_rfl) [0, 1, 3, 7, 7, 23, 63, 127, 7, 7, 775, 1799, 4095, 8191, 16383] 24 144 B rfl rfl (by kernel_rfl) ?_
 refine A5 ?_
 rcases Gh G with ⟨h27, G⟩ | ⟨h27, G⟩
 refine A5 ?_
 obtain ⟨e_2, he_2, G⟩ := Ab G
 refine A5 ?_
 refine Xt he_2 ?_
 refine A5 ?_
 obtain ⟨e_3, he_3, G⟩ := Ab G
 refine A5 ?_
 refine Xt he_3 ?_
 obtain ⟨y, hy, G⟩ := Ab G
 refine Dz (Sl _ _ _ hy) ?_
 refine Bl fun B => ?_
 exact ⟨decide (0 <= y), G, Ax []⟩
 refine Bl fun B => ?_
 exact ⟨false, G, Ax []⟩
 rintro x71_5 G
 replace G : Ay.j5 x54_4 x71_5 = some o4 := G
 show Ca _ _ _ _ (mk _ _ _)
 unfold Ay.j5 at G
 refine Cn rfl G (fun h30 G => ?_) fun h30 G => ?_
 refine Bk 0 16 Ba fun B => ?_
 refine Et ?_
 replace G := Bn G hn4
 exact Q2
 refine Cp ?_
 refine Ak (Ce _ _ []) 0 16 Ba rfl rfl ?_
 refine Bl fun B => ?_
 obtain rfl := oi_ G
 exact ⟨(W (x54_4 + 1), m4), Nat.lt_succ_self _, hn4, Ax []⟩
 refine Fl ?_
 replace G := Bn G hn4
 refine Cf 8 40 B ?_
 refine A5 ?_
 obtain ⟨y_2, hy_2, G⟩ := Ab G
 refine Dv (rd := []) (ps := []) (gs := []) false rfl (Sp _ _ _ hy_2) rfl rfl (.cons .val (.cons .sl .nil)) rfl rfl (by intro h; cases h) rfl (by intro h; first | (cases h; done) | exact ⟨_, _, ⟨rfl, rfl⟩, by simp, by simp⟩) ?_
 rintro _ _ ⟨rfl, rfl⟩
 refine Bl fun B => ?_
 refine Af <| Bk 40 88 B fun B => ?_
 refine Aj <| Fq (fun (x81_6 : Int) => mk [(9, .ptr 0 0), (79, .sl 1 (An (eK .u32) y_2.before)), (80, .val (.int .i64 (y_2.before.length : Int))), (81, vk x81_6)] [(0, .box (Ap.dv y_2) 71)] 1) G (Ax [(0, 24)]) ?_
 rintro x81_6 m6 o6 G hn6
 replace G : Ay.l6 y_2 x81_6 = some o6 := G
 show Ca _ _ _ _ (mk _ _ _)
 unfold Ay.l6 at G
 refine Bk 1 9 Ba fun B => ?_
 refine Af <| Cn rfl G (fun h36 G => ?_) fun h36 G => ?_
 refine Cp ?_
 refine Af <| Aj <| Cf 9 49 B ?_
 refine A5 ?_
 obtain ⟨e_4, he_4, G⟩ := Ab G
 refine A5 ?_
 refine Ei rfl rfl (D0 Cu (A9 (Bd _) (Ar he_4) (o := 0) (c := .int .u32 e_4) rfl rfl)) rfl rfl ?_
 refine Bl fun B => ?_
 refine Cf 49 73 B ?_
 refine A5 ?_
 obtain ⟨y_3, hy_3, G⟩ := Ab G
 refine Dz (H7 _ _ _ hy_3) ?_
 refine Fc fun B => ?_
 refine Cn rfl G (fun h39 G => ?_) fun h39 G => ?_
 refine Bk 73 89 B fun B => ?_
 refine Et ?_
 replace G := Bn G hn6
 exact Q2
 refine Cp ?_
 refine Ak (Ce _ _ []) 73 89 B rfl rfl ?_
 refine Bl fun B => ?_
 obtain rfl := oi_ G
 exact ⟨(W (x81_6 + 1), m6), Nat.lt_succ_self _, hn6, Ax [(0, 0)]⟩
 refine Fl ?_
 replace G := Bn G hn6
 refine Bk 9 33 B fun B => ?_
 refine Et ?_
 obtain rfl := oi_ G
 exact Fe [(0, 0)] ⟨rfl, rfl⟩
theorem Hr (o : Ap) (s : Int) (r : Int × Ap) (G : Bb o s = some r) : Fn Tryd.prog 44 1 [.ptr 0 0, .val (.int .u32 s)] [.box (Ap.dv o) 71] (fun d' b' => d' = .val (.int .u32 r.1) /\ b' = [.box (Ap.dv r.2) 71]) := by
 unfold Bb at G
 refine Fn.of Tryd.func44 rfl rfl rfl fun w0 I ρ0 => ?_
 show Ca _ ⟨w0, I, ρ0, 1, 1, 36, none⟩ _ _ _
 refine Bk 1 9 Ba fun B => ?_
 refine Bk 9 17 B fun B => ?_
 refine Af <| Bk 17 57 B fun B => ?_
 refine Aj <| Fq (fun ((out_1, x11_1) : Int × Int) => mk [(0, .ptr 0 0), (1, .val (.int .u32 s)), (5, .val (.int .u32 out_1)), (10, vk o.n), (11, vk x11_1)] [(0, .box (Ap.dv o) 71)] 1) G (Ax [(0, 0)]) ?_
 rintro ⟨out_1, x11_1⟩ m1 o1 G hn1
 replace G : Bb.l1 o s out_1 x11_1 = some o1 := G
 show Ca _ _ _ _ (mk _ _ _)
 unfold Bb.l1 at G
 refine Bk 1 9 Ba fun B => ?_
 refine Af <| Cn rfl G (fun h5 G => ?_) fun h5 G => ?_
 refine Cp ?_
 refine B0 (ι := Int) (fun (out_3 : Int) => mk [(0, .ptr 0 0), (1, .val (.int .u32 s)), (5, .val (.int .u32 out_3)), (10, vk o.n), (11, vk x11_1)] [(0, .box (Ap.dv o) 71)] 1) (fun (out_3 : Int) => Bb.j3 x11_1 out_3 = some o1) ?_ ?_
 refine Aj <| Bk 9 25 B fun B => ?_
 refine B0 (ι := Bool) (fun (x29_2 : Bool) => mk [(0, .ptr 0 0), (1, .val (.int .u32 s)), (5, .val (.int .u32 out_1)), (6, vk x11_1), (10, vk o.n), (11, vk x11_1), (29, .val (.bool x29_2))] [(0, .box (Ap.dv o) 71)] 1) (fun (x29_2 : Bool) => Bb.j2 out_1 x11_1 x29_2 = some o1) ?_ ?_
 refine Ak (Ce _ _ []) 25 153 B rfl rfl ?_
 refine A5 ?_
 obtain ⟨y, hy, G⟩ := Ab G
 refine Dz (H7 _ _ _ hy) ?_
 refine A5 ?_
 rcases Gh G with ⟨h7, G⟩ | ⟨h7, G⟩
 refine A5 ?_
 obtain ⟨e, he, G⟩ := Ab G
 refine A5 ?_
 refine Ei (Ea rfl rfl h7) rfl (D0 Cu (A9 (Bd _) (Ar he) (o := 0) (c := .int .u32 e) rfl rfl)) rfl rfl ?_
 refine A5 ?_
 refine Ei (Ea rfl rfl h7) rfl Ig rfl rfl ?_
 refine Bl fun B => ?_
 exact ⟨decide ((G4 .u32 e s) = 0), G, Ax [(0, 0)]⟩
 refine Bl fun B => ?_
 exact ⟨false, G, Ax [(0, 0)]⟩
 rintro x29_2 G
 replace G : Bb.j2 out_1 x11_1 x29_2 = some o1 := G
 show Ca _ _ _ _ (mk _ _ _)
 unfold Bb.j2 at G
 refine Cn rfl G (fun h10 G => ?_) fun h10 G => ?_
 refine Ak (Ce _ _ []) 1 41 Ba rfl rfl ?_
 refine A5 ?_
 obtain ⟨q, hq, G⟩ := Ab G
 refine Ei rfl rfl (Hu hq) rfl rfl ?_
 refine Ei rfl rfl R5 rfl rfl ?_
 refine Bl fun B => ?_
 exact ⟨Ry .u32 out_1 q, G, Ax [(0, 0)]⟩
 refine Cp ?_
 exact ⟨out_1, G, Ax [(0, 0)]⟩
 rintro out_3 G
 replace G : Bb.j3 x11_1 out_3 = some o1 := G
 show Ca _ _ _ _ (mk _ _ _)
 unfold Bb.j3 at G
 refine Ak (Ce _ _ []) 1 17 Ba rfl rfl ?_
 refine Bl fun B => ?_
 obtain rfl := oi_ G
 exact ⟨((out_3, W (x11_1 + 1)), m1), Nat.lt_succ_self _, hn1, Ax [(0, 0)]⟩
 refine Fl ?_
 replace G := Bn G hn1
 refine Bk 9 25 B fun B => ?_
 refine Et ?_
 obtain rfl := oi_ G
 exact Fe [(0, 0)] ⟨rfl, rfl⟩
theorem Lq (e : Int) (yield' : Int -> (Nat × ((List (Int × Bool)) × List Int)) -> Option (Bool × (Nat × ((List (Int × Bool)) × List Int)))) (c0 : Int) (q : (Nat × ((List (Int × Bool)) × List Int))) (r : Int × (Nat × ((List (Int × Bool)) × List Int))) (G : A1 yield' c0 q = some r) (rc : Loop) (hR : ∀ (x0 : Int) (q' : Nat × ((List (Int × Bool)) × List Int)) (y' : Bool × (Nat × ((List (Int × Bool)) × List Int))), yield' x0 q' = some y' -> Y6 Tryd.prog [10, 11, 13] [.ptr 0 0, .ptr 1 0, .ptr 2 0] 81 (Ft rc 0) 3 4 [vk x0] [.box [.row 4] 77, .box [.row 5] 69, .box [.val (.int .u32 e)] 68, .lop [10, 11, 13] [.ptr 0 0, .ptr 1 0, .ptr 2 0] 81 (Ft rc q'.1), .map (Pv (vI .u32) vB q'.2.1), .row 68 1 (An (eK .u32) q'.2.2)] (fun b1 b2 => b1 = y'.1 /\ b2 = [.box [.row 4] 77, .box [.row 5] 69, .box [.val (.int .u32 e)] 68, .lop [10, 11, 13] [.ptr 0 0, .ptr 1 0, .ptr 2 0] 81 (Ft rc y'.2.1), .map (Pv (vI .u32) vB y'.2.2.1), .row 68 1 (An (eK .u32) y'.2.2.2)])) : Y7 Tryd.prog 63 3 5 [.ptr 4 0] [.box [.row 5] 77, .box [.row 6] 69, .box [.val (.int .u32 e)] 68, .lop [10, 11, 13] [.ptr 0 0, .ptr 1 0, .ptr 2 0] 81 (Ft rc q.1), .box [.val (.int .u32 c0)] 68, .map (Pv (vI .u32) vB q.2.1), .row 68 1 (An (eK .u32) q.2.2)] (fun b' => b' = [.box [.row 5] 77, .box [.row 6] 69, .box [.val (.int .u32 e)] 68, .lop [10, 11, 13] [.ptr 0 0, .ptr 1 0, .ptr 2 0] 81 (Ft rc r.2.1), .box [.val (.int .u32 r.1)] 68, .map (Pv (vI .u32) vB r.2.2.1), .row 68 1 (An (eK .u32) r.2.2.2)]) := by
 unfold A1 at G
 refine Y7.of Tryd.func63 rfl rfl rfl rfl fun w0 I ρ0 l hl => ?_
 show Ca _ ⟨w0, I, ρ0, 5, 7, 16, none⟩ _ _ _
 refine Aj <| Fq (fun ((q_1, b_1) : (Nat × ((List (Int × Bool)) × List Int)) × Int) => mk [(0, .val (.func (.yield l) #[] #[])), (1, .ptr 4 0)] [(0, .box [.row 5] 77), (1, .box [.row 6] 69), (2, .box [.val (.int .u32 e)] 68), (3, .lop [10, 11, 13] [.ptr 0 0, .ptr 1 0, .ptr 2 0] 81 (Ft rc q_1.1)), (4, .box [.val (.int .u32 b_1)] 68), (5, .map (Pv (vI .u32) vB q_1.2.1)), (6, .row 68 1 (An (eK .u32) q_1.2.2))] 7) G (Ax [(0, 0), (1, 1), (2, 2), (3, 3), (4, 4), (5, 5), (6, 6)]) ?_
 rintro ⟨q_1, b_1⟩ m1 o1 G hn1
 replace G : A1.l1 yield' q_1 b_1 = some o1 := G
 show Ca _ _ _ _ (mk _ _ _)
 unfold A1.l1 at G
 refine Af <| Bk 7 23 Ba fun B => ?_
 refine Cn rfl G (fun h2 G => ?_) fun h2 G => ?_
 refine Cp ?_
 refine Aj <| Cf 23 47 B ?_
 refine A5 ?_
 obtain ⟨y, hy, G⟩ := Ab G
 refine Dz (Cq _ _ hy) ?_
 refine Bl fun B => ?_
 refine Af <| Br (Ce _ _ []) (by kernel_rfl) [0, 0, 2, 7, 15] 47 87 B rfl rfl (by kernel_rfl) ?_
 refine A5 ?_
 obtain ⟨q_2, hq_2, G⟩ := Ab G
 refine Ei rfl rfl (Hu hq_2) rfl rfl ?_
 refine Ei rfl rfl Ig rfl rfl ?_
 refine Bl fun B => ?_
 refine Af <| Ii ?_
 refine G6.chain (Ce _ _ []) 2 87 103 B rfl rfl ?_
 show Cs _ _ _ _ (idx 0 [_, _]) _ _ _
 refine A5 ?_
 refine Sh fun B => ?_
 obtain ⟨y_2, hy_2, G⟩ := Ab G
 refine pC 103 [0, 1, 2, 3] [5, 6] [0, 1, 2, 3, 5, 6] false B hl (hR _ _ _ hy_2) (.cons .val .nil) ⟨_, _, _, rfl, .head _, ⟨_, rfl, (by repeat' (first | exact Dw.nil | apply Dw.cons | exact Ag.val | exact Ag.sl | exact Ag.nils | exact Ag.ptr rfl | exact Ag.rowK rfl | exact Ag.elt))⟩, ⟨_, _, _, rfl, .tail _ (.head _), ⟨_, rfl, (by repeat' (first | exact Dw.nil | apply Dw.cons | exact Ag.val | exact Ag.sl | exact Ag.nils | exact Ag.ptr rfl | exact Ag.rowK rfl | exact Ag.elt))⟩, ⟨_, _, _, rfl, .tail _ (.tail _ (.head _)), ⟨_, rfl, (by repeat' (first | exact Dw.nil | apply Dw.cons | exact Ag.val | exact Ag.sl | exact Ag.nils | exact Ag.ptr rfl | exact Ag.rowK rfl | exact Ag.elt))⟩, ⟨_, _, _, rfl, .tail _ (.tail _ (.tail _ (.head _))), ⟨_, rfl, (by repeat' (first | exact Dw.nil | apply Dw.cons | exact Ag.val | exact Ag.sl | exact Ag.nils | exact Ag.ptr rfl | exact Ag.rowK rfl | exact Ag.elt))⟩, ⟨_, _, _, rfl, .tail _ (.tail _ (.tail _ (.tail _ (.head _)))), rfl, ⟨_, _, _, rfl, .tail _ (.tail _ (.tail _ (.tail _ (.tail _ (.head _))))), rfl, rfl⟩⟩⟩⟩⟩⟩ fun B => ?_
 refine G6.chain (Ce _ _ []) 1 111 119 B rfl rfl ?_
 show Cs _ _ _ _ (idx 0 [_]) _ _ _
 refine A5 ?_
 refine Sh fun B => ?_
 refine G6.fin ?_
 refine U0 ?_
 refine Cn rfl G (fun h8 G => ?_) fun h8 G => ?_
 refine J1 ?_
 refine U0 ?_
 replace G := Bn G hn1
 obtain rfl := oi_ G
 exact Fe [(0, 0), (1, 1), (2, 2), (3, 3), (4, 4), (5, 103), (6, 104)] ⟨rfl, rfl⟩
 refine Cp ?_
 obtain rfl := oi_ G
 exact ⟨((y_2.2, G4 .u32 b_1 q_2), m1), Nat.lt_succ_self _, hn1, Ax [(0, 0), (1, 1), (2, 2), (3, 3), (4, 4), (5, 103), (6, 104)]⟩
 refine Fl ?_
 replace G := Bn G hn1
 obtain rfl := oi_ G
 exact Fe [(0, 0), (1, 1), (2, 2), (3, 3), (4, 4), (5, 5), (6, 6)] ⟨rfl, rfl⟩
theorem P5 (x' : Int) (r : Int) (G : Bh x' = some r) : Fn Tryd.prog 83 0 [.val (.int .u64 x')] [] (fun d' b' => d' = vk r /\ b' = []) := by
 unfold Bh at G
 refine Fn.of Tryd.func83 rfl rfl rfl fun w0 I ρ0 => ?_
 show Ca _ ⟨w0, I, ρ0, 0, 0, 25, none⟩ _ _ _
 refine Bk 0 8 Ba fun B => ?_
 refine B0 (ι := Int × Int) (fun ((x_1, n_1) : Int × Int) => mk [(0, .val (.int .u64 x_1)), (2, vk n_1)] [] 0) (fun ((x_1, n_1) : Int × Int) => Bh.j1 x_1 n_1 = some r) ?_ ?_
 refine Bk 8 24 B fun B => ?_
 refine Cn rfl G (fun h3 G => ?_) fun h3 G => ?_
 refine Cf 24 48 B ?_
 refine A5 ?_
 obtain ⟨q, hq, G⟩ := Ab G
 refine Ei rfl rfl (M5 hq) rfl rfl ?_
 refine Bl fun B => ?_
 refine Ak (Ce _ _ []) 48 56 B rfl rfl ?_
 refine Bl fun B => ?_
 exact ⟨(q, 32), G, Ax []⟩
 refine Cp ?_
 exact ⟨(x', 0), G, Ax []⟩
 rintro ⟨x_1, n_1⟩ G
 replace G : Bh.j1 x_1 n_1 = some r := G
 show Ca _ _ _ _ (mk _ _ _)
 unfold Bh.j1 at G
 refine B0 (ι := Int × Int) (fun ((x_2, n_2) : Int × Int) => mk [(0, .val (.int .u64 x_2)), (2, vk n_2)] [] 0) (fun ((x_2, n_2) : Int × Int) => Bh.j2 x_2 n_2 = some r) ?_ ?_
 refine Bk 0 16 Ba fun B => ?_
 refine Cn rfl G (fun h7 G => ?_) fun h7 G => ?_
 refine Cf 16 40 B ?_
 refine A5 ?_
 obtain ⟨q_2, hq_2, G⟩ := Ab G
 refine Ei rfl rfl (M5 hq_2) rfl rfl ?_
 refine Bl fun B => ?_
 refine Ak (Ce _ _ []) 40 64 B rfl rfl ?_
 refine Bl fun B => ?_
 exact ⟨(q_2, W (n_1 + 16)), G, Ax []⟩
 refine Cp ?_
 exact ⟨(x_1, n_1), G, Ax []⟩
 rintro ⟨x_2, n_2⟩ G
 replace G : Bh.j2 x_2 n_2 = some r := G
 show Ca _ _ _ _ (mk _ _ _)
 unfold Bh.j2 at G
 refine B0 (ι := Int × Int) (fun ((x_3, n_3) : Int × Int) => mk [(0, .val (.int .u64 x_3)), (2, vk n_3)] [] 0) (fun ((x_3, n_3) : Int × Int) => Bh.j3 x_3 n_3 = some r) ?_ ?_
 refine Bk 0 16 Ba fun B => ?_
 refine Cn rfl G (fun h11 G => ?_) fun h11 G => ?_
 refine Cf 16 40 B ?_
 refine A5 ?_
 obtain ⟨q_3, hq_3, G⟩ := Ab G
 refine Ei rfl rfl (M5 hq_3) rfl rfl ?_
 refine Bl fun B => ?_
 refine Ak (Ce _ _ []) 40 64 B rfl rfl ?_
 refine Bl fun B => ?_
 exact ⟨(q_3, W (n_2 + 8)), G, Ax []⟩
 refine Cp ?_
 exact ⟨(x_2, n_2), G, Ax []⟩
 rintro ⟨x_3, n_3⟩ G
 replace G : Bh.j3 x_3 n_3 = some r := G
 show Ca _ _ _ _ (mk _ _ _)
 unfold Bh.j3 at G
 refine Cf 0 56 Ba ?_
 refine A5 ?_
 refine Ei rfl rfl (bZ nP Zq) rfl rfl ?_
 obtain ⟨c, hc, G⟩ := Ab G
 refine Ei rfl rfl (oB sE hc) rfl rfl ?_
 refine Ei rfl rfl (Kf (u := c) Zq Ve) rfl rfl ?_
 exact E7
theorem M6 (x' : Int) (r : Int) (G : Fg x' = some r) : Fn Tryd.prog 66 0 [.val (.int .u64 x')] [] (fun d' b' => d' = vk r /\ b' = []) := by
 unfold Fg at G
 refine Fn.of Tryd.func66 rfl rfl rfl fun w0 I ρ0 => ?_
 show Ca _ ⟨w0, I, ρ0, 0, 0, 8, none⟩ _ _ _
 refine Bk 0 8 Ba fun B => ?_
 refine Af <| cO (fun h => ?_) (fun h => ?_)
 exact absurd h (by first | decide | exact fun h => nomatch (show false = true from h) | exact fun h => nomatch (show true = false from h))
 refine Cp ?_
 refine Cf 8 32 B ?_
 refine A5 ?_
 obtain ⟨y, hy, G⟩ := Ab G
 refine Dz (P5 _ _ hy) ?_
 exact E7
theorem Ix (x' : Int) (r : Bool) (G : Ey x' = some r) : Fn Tryd.prog 67 0 [.val (.int .u32 x')] [] (fun d' b' => d' = .val (.bool r) /\ b' = []) := by
 unfold Ey at G
 refine Fn.of Tryd.func67 rfl rfl rfl fun w0 I ρ0 => ?_
 show Ca _ ⟨w0, I, ρ0, 0, 0, 6, none⟩ _ _ _
 refine Bk 0 8 Ba fun B => ?_
 refine Bk 8 40 B fun B => ?_
 exact Ng
theorem Mq (x' : Int) (y : Int) (r : Int) (G : Ee x' y = some r) : Fn Tryd.prog 48 0 [.val (.int .u32 x'), .val (.int .u32 y)] [] (fun d' b' => d' = vk r /\ b' = []) := by
 unfold Ee at G
 refine Fn.of Tryd.func48 rfl rfl rfl fun w0 I ρ0 => ?_
 show Ca _ ⟨w0, I, ρ0, 0, 0, 20, none⟩ _ _ _
 refine Bk 0 8 Ba fun B => ?_
 refine Cf 8 32 B ?_
 refine A5 ?_
 obtain ⟨y_2, hy_2, G⟩ := Ab G
 refine Dz (Ix _ _ hy_2) ?_
 refine Bl fun B => ?_
 refine Cf 32 56 B ?_
 refine A5 ?_
 obtain ⟨y_3, hy_3, G⟩ := Ab G
 refine Dz (Ix _ _ hy_3) ?_
 refine Bl fun B => ?_
 refine Af <| Bk 56 64 B fun B => ?_
 refine Cn rfl G (fun h5 G => ?_) fun h5 G => ?_
 refine Af <| Bk 64 72 B fun B => ?_
 refine Cn rfl G (fun h7 G => ?_) fun h7 G => ?_
 refine Cf 72 80 B ?_
 exact E7
 refine Cp ?_
 refine Bk 72 80 B fun B => ?_
 exact Ng
 refine Cp ?_
 refine Af <| Bk 64 72 B fun B => ?_
 refine Cn rfl G (fun h11 G => ?_) fun h11 G => ?_
 refine Cf 72 80 B ?_
 exact E7
 refine Cp ?_
 refine Af <| Bk 72 96 B fun B => ?_
 refine Cn rfl G (fun h14 G => ?_) fun h14 G => ?_
 refine Cf 96 104 B ?_
 exact E7
 refine Cp ?_
 refine Af <| Bk 96 120 B fun B => ?_
 refine Cn rfl G (fun h17 G => ?_) fun h17 G => ?_
 refine Cf 120 128 B ?_
 exact E7
 refine Cp ?_
 refine Bk 120 128 B fun B => ?_
 exact Ng
theorem Sr (a : Int) (b : Int) (r : Int) (G : Eu a b = some r) : Fn Tryd.prog 46 0 [.val (.int .u32 a), .val (.int .u32 b)] [] (fun d' b' => d' = vk r /\ b' = []) := by
 unfold Eu at G
 refine Fn.of Tryd.func46 rfl rfl rfl fun w0 I ρ0 => ?_
 show Ca _ ⟨w0, I, ρ0, 0, 0, 19, none⟩ _ _ _
 refine Bk 0 8 Ba fun B => ?_
 refine Cf 8 48 B ?_
 refine A5 ?_
 refine Ei rfl rfl Xf rfl rfl ?_
 obtain ⟨y, hy, G⟩ := Ab G
 refine Dz (Cq _ _ hy) ?_
 refine Bl fun B => ?_
 refine Af <| Br (Ce _ _ []) (by kernel_rfl) [0, 0, 3, 7, 0, 0, 48, 112, 255, 511] 48 128 B rfl rfl (by kernel_rfl) ?_
 refine A5 ?_
 obtain ⟨q, hq, G⟩ := Ab G
 refine Ei rfl rfl (M5 hq) rfl rfl ?_
 refine Ei rfl rfl Pr rfl rfl ?_
 refine A5 ?_
 obtain ⟨q_2, hq_2, G⟩ := Ab G
 refine Ei rfl rfl (M5 hq_2) rfl rfl ?_
 refine Ei rfl rfl Pr rfl rfl ?_
 obtain ⟨y_2, hy_2, G⟩ := Ab G
 refine Dz (Mq _ _ _ hy_2) ?_
 exact E7
theorem Fu (data : List Int) (a : Int) (b : Int) (cmp : Int -> Int -> Option (Int)) (hf_cmp : ∀ (x0 : Int) (x1 : Int) (y : Int), cmp x0 x1 = some y -> Fn Tryd.prog 46 0 [.val (.int .u32 x0), .val (.int .u32 x1)] [] (fun d' b' => d' = vk y /\ b' = [])) (r : (List Int)) (G : Al data a b cmp = some r) : Fn Tryd.prog 74 1 [.row 0, vk a, vk b, .clo 46 0 []] [.row 68 1 (An (eK .u32) data)] (fun d' b' => d' = .tup [] /\ b' = [.row 68 1 (An (eK .u32) r)]) := by
 unfold Al at G
 refine Fn.of Tryd.func74 rfl rfl rfl fun w0 I ρ0 => ?_
 show Ca _ ⟨w0, I, ρ0, 1, 1, 53, none⟩ _ _ _
 refine Bk 1 25 Ba fun B => ?_
 refine Aj <| Fq (fun ((i_1, data_1) : Int × List Int) => mk [(0, .row 0), (1, vk a), (2, vk b), (3, .clo 46 0 []), (8, vk i_1)] [(0, .row 68 1 (An (eK .u32) data_1))] 1) G (Ax [(0, 0)]) ?_
 rintro ⟨i_1, data_1⟩ m1 o1 G hn1
 replace G : Al.l1 a b cmp i_1 data_1 = some o1 := G
 show Ca _ _ _ _ (mk _ _ _)
 unfold Al.l1 at G
 refine Af <| Bk 1 25 Ba fun B => ?_
 refine Cn rfl G (fun h3 G => ?_) fun h3 G => ?_
 refine Cp ?_
 refine Af <| Aj <| Bk 25 41 B fun B => ?_
 refine Aj <| Fq (fun ((j_2, data_2) : Int × List Int) => mk [(0, .row 0), (1, vk a), (2, vk b), (3, .clo 46 0 []), (8, vk i_1), (9, vk j_2)] [(0, .row 68 1 (An (eK .u32) data_2))] 1) G (Ax [(0, 0)]) ?_
 rintro ⟨j_2, data_2⟩ m2 o2 G hn2
 replace G : Al.l2 a cmp i_1 j_2 data_2 = some o2 := G
 show Ca _ _ _ _ (mk _ _ _)
 unfold Al.l2 at G
 refine Af <| B0 (ι := Bool) (fun (x34_3 : Bool) => mk [(0, .row 0), (1, vk a), (2, vk b), (3, .clo 46 0 []), (8, vk i_1), (9, vk j_2), (34, .val (.bool x34_3))] [(0, .row 68 1 (An (eK .u32) data_2))] 1) (fun (x34_3 : Bool) => Al.j3 i_1 j_2 data_2 x34_3 = some o2) ?_ ?_
 refine Br (Ce _ _ []) (by kernel_rfl) [0, 0, 3, 7, 15, 15, 15, 111, 239, 15, 15, 1039, 3599, 7695, 16383, 32767, 65535] 1 137 Ba rfl rfl (by kernel_rfl) ?_
 refine A5 ?_
 rcases Gh G with ⟨h5, G⟩ | ⟨h5, G⟩
 refine A5 ?_
 obtain ⟨e, he, G⟩ := Ab G
 refine A5 ?_
 refine Ch (rd := [0]) (Ea rfl rfl h5) rfl (.loadR1 Cu (A9 (Bd _) (Ar he) (o := 0) (c := .int .u32 e) rfl rfl)) rfl rfl ?_
 refine A5 ?_
 obtain ⟨e_2, he_2, G⟩ := Ab G
 refine A5 ?_
 refine Ch (rd := [0]) (Ea rfl rfl h5) rfl (.loadR1 Cu (A9 (Bd _) (Ar he_2) (o := 0) (c := .int .u32 e_2) rfl rfl)) rfl rfl ?_
 obtain ⟨y, hy, G⟩ := Ab G
 refine E9 (rd := []) (ps := []) (gs := []) false (Ea rfl rfl h5) rfl (hf_cmp e e_2 _ hy) rfl rfl (.cons .val (.cons .val .nil)) rfl rfl (by intro h; cases h) rfl rfl rfl rfl ?_
 refine Bl fun B => ?_
 exact ⟨decide (y < 0), G, Ax [(0, 0)]⟩
 refine Bl fun B => ?_
 exact ⟨false, G, Ax [(0, 0)]⟩
 rintro x34_3 G
 replace G : Al.j3 i_1 j_2 data_2 x34_3 = some o2 := G
 show Ca _ _ _ _ (mk _ _ _)
 unfold Al.j3 at G
 refine Cn rfl G (fun h8 G => ?_) fun h8 G => ?_
 refine Cp ?_
 refine Af <| Aj <| Br (Ce _ _ []) (by kernel_rfl) [0, 0, 0, 0, 8, 0, 0, 64, 224, 480, 0, 0, 3072, 7168, 16355, 32739, 65535, 131071] 1 145 Ba rfl rfl (by kernel_rfl) ?_
 refine A5 ?_
 obtain ⟨e_3, he_3, G⟩ := Ab G
 refine A5 ?_
 refine Ch (rd := [0]) rfl rfl (.loadR1 Cu (A9 (Bd _) (Ar he_3) (o := 0) (c := .int .u32 e_3) rfl rfl)) rfl rfl ?_
 refine A5 ?_
 obtain ⟨e_4, he_4, G⟩ := Ab G
 refine A5 ?_
 refine Ch (rd := [0]) rfl rfl (.loadR1 Cu (A9 (Bd _) (Ar he_4) (o := 0) (c := .int .u32 e_4) rfl rfl)) rfl rfl ?_
 refine A5 ?_
 refine Ch (rd := [0]) rfl rfl (C2 Cu rfl (Bu (Bd _) (Ar he_4) (o := 0) (m := 1) (by decide) rfl) G1 (cs' := [.int .u32 e_3]) (.cons .int .nil) (Cd (Bd _) (Ar he_4) (o := 0) (x' := e_3) (Nat.le_of_ble_eq_true rfl) rfl rfl)) rfl rfl ?_
 obtain ⟨e_5, he_5, G⟩ := Ab G
 refine A5 ?_
 refine Ch (rd := [0]) rfl rfl (C2 Cu rfl (Bu (Bd _) (Ar he_5) (o := 0) (m := 1) (by decide) rfl) G1 (cs' := [.int .u32 e_4]) (.cons .int .nil) (Cd (Bd _) (Ar he_5) (o := 0) (x' := e_4) (Nat.le_of_ble_eq_true rfl) rfl rfl)) rfl rfl ?_
 refine Fc fun B => ?_
 refine Ak (Ce _ _ []) 145 169 B rfl rfl ?_
 refine Bl fun B => ?_
 obtain rfl := oi_ G
 exact ⟨((W (j_2 - 1), Cg (Cg data_2 ((j_2).toNat) e_3) ((W (j_2 - 1)).toNat) e_4), m2), Nat.lt_succ_self _, hn2, Ax [(0, 0)]⟩
 refine Fl ?_
 replace G := Bn G hn2
 refine Ak (Ce _ _ []) 1 25 Ba rfl rfl ?_
 refine Bl fun B => ?_
 obtain rfl := oi_ G
 exact ⟨((W (i_1 + 1), data_2), m1), Nat.lt_succ_self _, hn1, Ax [(0, 0)]⟩
 refine Fl ?_
 replace G := Bn G hn1
 obtain rfl := oi_ G
 exact Fe [(0, 0)] ⟨rfl, rfl⟩
end Go.Proofs.YtopkgllcjbpdeaaDoor
