import Derived.Test.YtopkgllcjbpdeaaDoorT1
import Derived.Test.YtopkgllcjbpdeaaDoorA1
import Derived.Test.YtopkgllcjbpdeaaDoorA3
import Derived.Test.YtopkgllcjbpdeaaDoorA4
import Derived.Test.YtopkgllcjbpdeaaDoorA5
set_option linter.unusedVariables false
set_option linter.unusedSimpArgs false
set_option maxRecDepth 100000
set_option maxHeartbeats 1600000
namespace Go.Proofs.YtopkgllcjbpdeaaDoor
open Go.RowKit
theorem P7 (n : Int) (l : (List Aa)) (s : (List Int)) (add : Bool) (r : (List Int) × Int) (G : E2 n l s add = some r) : Fn Tryd.prog 59 0 [vk n, .sl 2 (An Aa.enc l), .sl 1 (An eI s), .val (.bool add)] [] (fun d' b' => d' = .tup [.sl 1 (An eI r.1), vk r.2] /\ b' = []) := by
 unfold E2 at G
 refine Fn.of Tryd.func59 rfl rfl rfl fun w0 I ρ0 => ?_
 show Ca _ ⟨w0, I, ρ0, 0, 0, 29, none⟩ _ _ _
 refine Bk 0 16 Ba fun B => ?_
 refine Cf 16 88 B ?_
 refine A5 ?_
 obtain ⟨y, hy, G⟩ := Ab G
 refine Dz (N8 _ _ _ _ hy) ?_
 refine Bl fun B => ?_
 refine Af <| Bk 88 104 B fun B => ?_
 refine Cn rfl G (fun h4 G => ?_) fun h4 G => ?_
 refine Cf 104 128 B ?_
 exact E7
 refine Cp ?_
 refine Af <| Bk 104 120 B fun B => ?_
 refine Cn rfl G (fun h7 G => ?_) fun h7 G => ?_
 refine Cf 120 136 B ?_
 exact E7
 refine Cp ?_
 refine Cf 120 176 B ?_
 refine A5 ?_
 obtain ⟨y_2, hy_2, G⟩ := Ab G
 refine Dz (Kj _ _ _ _ _ hy_2) ?_
 exact E7
theorem Vj (n : Int) (l : (List Aa)) (s : (List Int)) (r : (List Int) × Int) (G : El n l s = some r) : Fn Tryd.prog 33 0 [vk n, .sl 2 (An Aa.enc l), .sl 1 (An eI s)] [] (fun d' b' => d' = .tup [.sl 1 (An eI r.1), vk r.2] /\ b' = []) := by
 unfold El at G
 refine Fn.of Tryd.func33 rfl rfl rfl fun w0 I ρ0 => ?_
 show Ca _ ⟨w0, I, ρ0, 0, 0, 14, none⟩ _ _ _
 refine Bk 0 16 Ba fun B => ?_
 refine Cf 16 80 B ?_
 refine A5 ?_
 obtain ⟨y, hy, G⟩ := Ab G
 refine Dz (P7 _ _ _ _ _ hy) ?_
 exact E7
theorem Lk (o : Ap) (s : Int) (yield' : Int -> (Nat × Int) -> Option (Bool × (Nat × Int))) (c0 : Int) (q : (Nat × Int)) (r : Int × (Nat × Int)) (G : A1 yield' c0 q = some r) (rc : Loop) (hR : ∀ (x0 : Int) (q' : Nat × Int) (y' : Bool × (Nat × Int)), yield' x0 q' = some y' -> Y6 Tryd.prog [2, 3, 5] [.ptr 0 0, .ptr 2 0, .ptr 3 0] 25 (Ft rc 0) 4 5 [vk x0] [.box [.ptr 1 0] 62, .box (Ap.dv o) 71, .box [.val (.int .u32 s)] 68, .box [.val (.int .u32 q'.2)] 68, .lop [2, 3, 5] [.ptr 0 0, .ptr 2 0, .ptr 3 0] 25 (Ft rc q'.1)] (fun b1 b2 => b1 = y'.1 /\ b2 = [.box [.ptr 1 0] 62, .box (Ap.dv o) 71, .box [.val (.int .u32 s)] 68, .box [.val (.int .u32 y'.2.2)] 68, .lop [2, 3, 5] [.ptr 0 0, .ptr 2 0, .ptr 3 0] 25 (Ft rc y'.2.1)])) : Y7 Tryd.prog 63 4 6 [.ptr 5 0] [.box [.ptr 1 0] 62, .box (Ap.dv o) 71, .box [.val (.int .u32 s)] 68, .box [.val (.int .u32 q.2)] 68, .lop [2, 3, 5] [.ptr 0 0, .ptr 2 0, .ptr 3 0] 25 (Ft rc q.1), .box [.val (.int .u32 c0)] 68] (fun b' => b' = [.box [.ptr 1 0] 62, .box (Ap.dv o) 71, .box [.val (.int .u32 s)] 68, .box [.val (.int .u32 r.2.2)] 68, .lop [2, 3, 5] [.ptr 0 0, .ptr 2 0, .ptr 3 0] 25 (Ft rc r.2.1), .box [.val (.int .u32 r.1)] 68]) := by
 unfold A1 at G
 refine Y7.of Tryd.func63 rfl rfl rfl rfl fun w0 I ρ0 l hl => ?_
 show Ca _ ⟨w0, I, ρ0, 6, 6, 16, none⟩ _ _ _
 refine Aj <| Fq (fun ((q_1, b_1) : (Nat × Int) × Int) => mk [(0, .val (.func (.yield l) #[] #[])), (1, .ptr 5 0)] [(0, .box [.ptr 1 0] 62), (1, .box (Ap.dv o) 71), (2, .box [.val (.int .u32 s)] 68), (3, .box [.val (.int .u32 q_1.2)] 68), (4, .lop [2, 3, 5] [.ptr 0 0, .ptr 2 0, .ptr 3 0] 25 (Ft rc q_1.1)), (5, .box [.val (.int .u32 b_1)] 68)] 6) G (Ax [(0, 0), (1, 1), (2, 2), (3, 3), (4, 4), (5, 5)]) ?_
 rintro ⟨q_1, b_1⟩ m1 o1 G hn1
 replace G : A1.l1 yield' q_1 b_1 = some o1 := G
 show Ca _ _ _ _ (mk _ _ _)
 unfold A1.l1 at G
 refine Af <| Bk 6 22 Ba fun B => ?_
 refine Cn rfl G (fun h2 G => ?_) fun h2 G => ?_
 refine Cp ?_
 refine Aj <| Cf 22 46 B ?_
 refine A5 ?_
 obtain ⟨y, hy, G⟩ := Ab G
 refine Dz (Cq _ _ hy) ?_
 refine Bl fun B => ?_
 refine Af <| Br (Ce _ _ []) (by kernel_rfl) [0, 0, 2, 7, 15] 46 86 B rfl rfl (by kernel_rfl) ?_
 refine A5 ?_
 obtain ⟨q_2, hq_2, G⟩ := Ab G
 refine Ei rfl rfl (Hu hq_2) rfl rfl ?_
 refine Ei rfl rfl Ig rfl rfl ?_
 refine Bl fun B => ?_
 refine Af <| Ii ?_
 refine G6.chain (Ce _ _ []) 2 86 102 B rfl rfl ?_
 show Cs _ _ _ _ (idx 0 [_, _]) _ _ _
 refine A5 ?_
 refine Sh fun B => ?_
 obtain ⟨y_2, hy_2, G⟩ := Ab G
 refine pC 102 [0, 1, 2, 3, 4] [] [0, 1, 2, 3, 4] false B hl (hR _ _ _ hy_2) (.cons .val .nil) ⟨_, _, _, rfl, .head _, ⟨_, rfl, (by repeat' (first | exact Dw.nil | apply Dw.cons | exact Ag.val | exact Ag.sl | exact Ag.nils | exact Ag.ptr rfl | exact Ag.rowK rfl | exact Ag.elt))⟩, ⟨_, _, _, rfl, .tail _ (.head _), ⟨_, rfl, (by repeat' (first | exact Dw.nil | apply Dw.cons | exact Ag.val | exact Ag.sl | exact Ag.nils | exact Ag.ptr rfl | exact Ag.rowK rfl | exact Ag.elt))⟩, ⟨_, _, _, rfl, .tail _ (.tail _ (.head _)), ⟨_, rfl, (by repeat' (first | exact Dw.nil | apply Dw.cons | exact Ag.val | exact Ag.sl | exact Ag.nils | exact Ag.ptr rfl | exact Ag.rowK rfl | exact Ag.elt))⟩, ⟨_, _, _, rfl, .tail _ (.tail _ (.tail _ (.head _))), ⟨_, rfl, (by repeat' (first | exact Dw.nil | apply Dw.cons | exact Ag.val | exact Ag.sl | exact Ag.nils | exact Ag.ptr rfl | exact Ag.rowK rfl | exact Ag.elt))⟩, ⟨_, _, _, rfl, .tail _ (.tail _ (.tail _ (.tail _ (.head _)))), ⟨_, rfl, (by repeat' (first | exact Dw.nil | apply Dw.cons | exact Ag.val | exact Ag.sl | exact Ag.nils | exact Ag.ptr rfl | exact Ag.rowK rfl | exact Ag.elt))⟩, rfl⟩⟩⟩⟩⟩ fun B => ?_
 refine G6.chain (Ce _ _ []) 1 110 118 B rfl rfl ?_
 show Cs _ _ _ _ (idx 0 [_]) _ _ _
 refine A5 ?_
 refine Sh fun B => ?_
 refine G6.fin ?_
 refine U0 ?_
 refine Cn rfl G (fun h8 G => ?_) fun h8 G => ?_
 refine J1 ?_
 refine U0 ?_
 replace G := Bn G hn1
 obtain rfl := oi_ G
 exact Fe [(0, 0), (1, 1), (2, 2), (3, 3), (4, 4), (5, 5)] ⟨rfl, rfl⟩
 refine Cp ?_
 obtain rfl := oi_ G
 exact ⟨((y_2.2, G4 .u32 b_1 q_2), m1), Nat.lt_succ_self _, hn1, Ax [(0, 0), (1, 1), (2, 2), (3, 3), (4, 4), (5, 5)]⟩
 refine Fl ?_
 replace G := Bn G hn1
 obtain rfl := oi_ G
 exact Fe [(0, 0), (1, 1), (2, 2), (3, 3), (4, 4), (5, 5)] ⟨rfl, rfl⟩
theorem L9 (o : Ap) (s : Int) (r : Int × Ap) (G : Bt o s = some r) : Fn Tryd.prog 53 1 [.ptr 0 0, .val (.int .u32 s)] [.box (Ap.dv o) 71] (fun d' b' => d' = .val (.int .u32 r.1) /\ b' = [.box (Ap.dv r.2) 71]) := by
 unfold Bt at G
 refine Fn.of Tryd.func53 rfl rfl rfl fun w0 I ρ0 => ?_
 show Ca _ ⟨w0, I, ρ0, 1, 1, 25, none⟩ _ _ _
 refine Bk 1 25 Ba fun B => ?_
 refine Bk 25 33 B fun B => ?_
 refine Af <| Cf 33 49 B ?_
 refine A5 ?_
 obtain ⟨y, hy, G⟩ := Ab G
 refine Dv (rd := []) (ps := []) (gs := []) false rfl (Fy _ _ hy) rfl rfl (.cons .val .nil) rfl rfl (by intro h; cases h) rfl (by intro h; first | (cases h; done) | exact ⟨_, _, ⟨rfl, rfl⟩, by simp, by simp⟩) ?_
 rintro _ _ ⟨rfl, rfl⟩
 refine Fc fun B => ?_
 refine Aj ?_
 obtain ⟨y_2, hy_2, G⟩ := Ab G
 refine It (σ' := mk [(2, .ptr 1 0), (3, .ptr 2 0), (5, .ptr 3 0), (8, .clo 63 0 [.ptr 4 0])] [(0, .box (Ap.dv o) 71), (1, .box [.ptr 0 0] 62), (2, .box [.val (.int .u32 s)] 68), (3, .box [.val (.int .u32 0)] 68), (4, .box [.val (.int .u32 y)] 68)] 5) (Ax [(0, 0), (1, 1), (2, 9), (3, 25), (4, 41)]) ?_
 refine cC (c := y_2.2.1) (ts := [2, 3, 5]) (ds := [.ptr 1 0, .ptr 2 0, .ptr 3 0]) 5 [1, 0, 2, 3, 5, 4] [] [1, 0, 2, 3, 5, 4] false Ba (Lk o s (fun a0' q' => Y5 (fun s' => Bt.r1 o s a0' s') q') y (0, 0) _ hy_2) (by repeat' first | exact trivial | refine And.intro rfl ?_) (fun _ _ => .cons (.ptr rfl) .nil) (fun _ _ => ⟨_, _, _, rfl, .head _, ⟨_, rfl, (by repeat' (first | exact Dw.nil | apply Dw.cons | exact Ag.val | exact Ag.sl | exact Ag.nils | exact Ag.ptr rfl | exact Ag.rowK rfl | exact Ag.elt))⟩, ⟨_, _, _, rfl, .tail _ (.head _), ⟨_, rfl, (by repeat' (first | exact Dw.nil | apply Dw.cons | exact Ag.val | exact Ag.sl | exact Ag.nils | exact Ag.ptr rfl | exact Ag.rowK rfl | exact Ag.elt))⟩, ⟨_, _, _, rfl, .tail _ (.tail _ (.head _)), ⟨_, rfl, (by repeat' (first | exact Dw.nil | apply Dw.cons | exact Ag.val | exact Ag.sl | exact Ag.nils | exact Ag.ptr rfl | exact Ag.rowK rfl | exact Ag.elt))⟩, ⟨_, _, _, rfl, .tail _ (.tail _ (.tail _ (.head _))), ⟨_, rfl, (by repeat' (first | exact Dw.nil | apply Dw.cons | exact Ag.val | exact Ag.sl | exact Ag.nils | exact Ag.ptr rfl | exact Ag.rowK rfl | exact Ag.elt))⟩, ⟨_, _, _, rfl, .tail _ (.tail _ (.tail _ (.tail _ (.head _)))), ⟨_, rfl, (by repeat' (first | exact Dw.nil | apply Dw.cons | exact Ag.val | exact Ag.sl | exact Ag.nils | exact Ag.ptr rfl | exact Ag.rowK rfl | exact Ag.elt))⟩, ⟨_, _, _, rfl, .tail _ (.tail _ (.tail _ (.tail _ (.tail _ (.head _))))), ⟨_, rfl, (by repeat' (first | exact Dw.nil | apply Dw.cons | exact Ag.val | exact Ag.sl | exact Ag.nils | exact Ag.ptr rfl | exact Ag.rowK rfl | exact Ag.elt))⟩, rfl⟩⟩⟩⟩⟩⟩) ?_ ?_
 intro _ _ a _ _ hq
 obtain ⟨out_1, o1, rfl, rfl, G⟩ := Mf hq
 replace G : Bt.r1 o s a out_1 = some o1 := G
 unfold Bt.r1 at G
 refine Y6.of rfl rfl (by kernel_rfl) fun w0 I ρ0 l hl => ?_
 show Ca _ ⟨w0, I, ρ0, 5, 5, 25, some l⟩ _ _ _
 refine Ak (Ce _ _ []) 5 13 Ba rfl rfl ?_
 refine Bl fun B => ?_
 refine pB B rfl rfl fun rb1 hrb1 B => ?_
 refine Aj <| Af <| Br (Ce _ _ []) (by kernel_rfl) [0, 1, 3, 7, 0, 31, 63, 0, 255, 511] 13 93 B rfl rfl (by kernel_rfl) ?_
 refine A5 ?_
 obtain ⟨e, he, G⟩ := Ab G
 refine A5 ?_
 refine Ei rfl rfl (D0 Cu (A9 (Bd _) (Ar he) (o := 0) (c := .int .u32 e) rfl rfl)) rfl rfl ?_
 refine A5 ?_
 refine Ei rfl rfl Pr rfl rfl ?_
 refine Bl fun B => ?_
 refine Cn rfl G (fun h7 G => ?_) fun h7 G => ?_
 refine Br (Ce _ _ []) (by kernel_rfl) [0, 0, 2, 7, 15] 93 133 B rfl rfl (by kernel_rfl) ?_
 refine A5 ?_
 obtain ⟨q, hq, G⟩ := Ab G
 refine Ei rfl rfl (Hu hq) rfl rfl ?_
 refine Ei rfl rfl R5 rfl rfl ?_
 refine Bl fun B => ?_
 obtain rfl := oi_ G
 exact lR (kQ 0 hrb1 [(0, 0), (1, 1), (2, 2), (3, 3), (4, 4)] rfl ⟨rfl, rfl⟩)
 refine Cp ?_
 obtain rfl := oi_ G
 exact lR (kQ 0 hrb1 [(0, 0), (1, 1), (2, 2), (3, 3), (4, 4)] rfl ⟨rfl, rfl⟩)
 intro _ _ B
 rcases oE G with ⟨hj, G⟩ | G
 refine oY hj ?_
 refine U0 ?_
 refine Bk 21 37 B fun B => ?_
 refine Et ?_
 obtain rfl := oi_ G
 exact Fe [(0, 0)] ⟨rfl, rfl⟩
 cases G
theorem Pd (n : Int) (l : (List Aa)) (s : (List Int)) (r : (List Int) × Int) (G : Cz n l s = some r) : Fn Tryd.prog 51 0 [vk n, .sl 2 (An Aa.enc l), .sl 1 (An eI s), .val (.func (.func 53) #[] #[])] [] (fun d' b' => d' = .tup [.sl 1 (An eI r.1), vk r.2] /\ b' = []) := by
 unfold Cz at G
 refine Fn.of Tryd.func51 rfl rfl rfl fun w0 I ρ0 => ?_
 show Ca _ ⟨w0, I, ρ0, 0, 0, 42, none⟩ _ _ _
 refine Bk 0 16 Ba fun B => ?_
 refine Cf 16 80 B ?_
 refine A5 ?_
 obtain ⟨y, hy, G⟩ := Ab G
 rcases y with ⟨_ | o, y_r⟩
 replace G := Nw G
 refine Dv (rd := []) (ps := []) (gs := []) false rfl (Dc _ _ _ hy) rfl rfl (.cons .val (.cons .sl .nil)) rfl rfl (by intro h; cases h) rfl (by intro h; first | (cases h; done) | exact ⟨_, _, ⟨rfl, rfl⟩, by simp, by simp⟩) ?_
 rintro _ _ ⟨rfl, rfl⟩
 refine Bl fun B => ?_
 refine Af <| Bk 80 96 B fun B => ?_
 refine Cn rfl G (fun h5 G => ?_) fun h5 G => ?_
 refine Cf 96 120 B ?_
 exact E7
 cases G
 replace G := N7 G
 refine Dv (rd := []) (ps := []) (gs := []) false rfl (Dc _ _ _ hy) rfl rfl (.cons .val (.cons .sl .nil)) rfl rfl (by intro h; cases h) rfl (by intro h; first | (cases h; done) | exact ⟨_, _, ⟨rfl, rfl⟩, by simp, by simp⟩) ?_
 rintro _ _ ⟨rfl, rfl⟩
 refine Bl fun B => ?_
 refine Af <| Bk 80 96 B fun B => ?_
 refine Cn rfl G (fun h8 G => ?_) fun h8 G => ?_
 refine Cf 96 120 B ?_
 exact E7
 refine Cp ?_
 refine Cf 96 160 B ?_
 refine A5 ?_
 obtain ⟨y_2, hy_2, G⟩ := Ab G
 refine Kg [32] [32] [] false (Gq _ _ _ hy_2) ?_
 refine Bl fun B => ?_
 refine Af <| B0 (ι := Bool × Ap) (fun ((x36_1, o_1) : Bool × Ap) => mk [(3, .val (.func (.func 53) #[] #[])), (10, .ptr 0 0), (12, .val (.int .u32 y_2.1)), (36, .val (.bool x36_1))] [(0, .box (Ap.dv o_1) 71)] 1) (fun ((x36_1, o_1) : Bool × Ap) => Cz.j1 y_2 x36_1 o_1 = some r) ?_ ?_
 refine Ak (Ce _ _ []) 160 224 B rfl rfl ?_
 refine A5 ?_
 rcases Gh G with ⟨h11, G⟩ | ⟨h11, G⟩
 refine Bl fun B => ?_
 exact ⟨(true, y_2.2.2), G, Ax [(0, 32)]⟩
 refine A5 ?_
 obtain ⟨y_3, hy_3, G⟩ := Ab G
 refine Kg [32] [32] [] false (Hf _ _ _ hy_3) ?_
 refine Bl fun B => ?_
 exact ⟨(!y_3.1, y_3.2), G, Ax [(0, 32)]⟩
 rintro ⟨x36_1, o_1⟩ G
 replace G : Cz.j1 y_2 x36_1 o_1 = some r := G
 show Ca _ _ _ _ (mk _ _ _)
 unfold Cz.j1 at G
 refine Cn rfl G (fun h14 G => ?_) fun h14 G => ?_
 refine Cf 1 17 Ba ?_
 exact E7
 refine Cp ?_
 refine Cf 1 57 Ba ?_
 refine A5 ?_
 obtain ⟨y_4, hy_4, G⟩ := Ab G
 refine Wg (rd := [0]) (ps := [0]) (gs := []) false rfl rfl (L9 _ _ _ hy_4) rfl rfl (.cons (.ptr rfl) (.cons .val .nil)) ⟨_, _, _, rfl, .head _, ⟨_, rfl, (by repeat' (first | exact Dw.nil | apply Dw.cons | exact Ag.val | exact Ag.sl | exact Ag.nils | exact Ag.ptr rfl | exact Ag.rowK rfl))⟩, rfl⟩ rfl (by intro h; cases h) rfl rfl rfl rfl ?_
 obtain ⟨y_5, hy_5, G⟩ := Ab G
 refine Dz (I5 _ _ hy_5) ?_
 exact E7
theorem Im (n : Int) (l : (List Aa)) (s : (List Int)) (r : (List Int) × Int) (G : C8 n l s = some r) : Fn Tryd.prog 25 0 [vk n, .sl 2 (An Aa.enc l), .sl 1 (An eI s)] [] (fun d' b' => d' = .tup [.sl 1 (An eI r.1), vk r.2] /\ b' = []) := by
 unfold C8 at G
 refine Fn.of Tryd.func25 rfl rfl rfl fun w0 I ρ0 => ?_
 show Ca _ ⟨w0, I, ρ0, 0, 0, 14, none⟩ _ _ _
 refine Bk 0 16 Ba fun B => ?_
 refine Cf 16 80 B ?_
 refine A5 ?_
 obtain ⟨y, hy, G⟩ := Ab G
 refine Dz (Pd _ _ _ _ hy) ?_
 exact E7
theorem Qe (n : Int) (l : (List Aa)) (s : (List Int)) (r : (List Int) × Int) (G : Dl n l s = some r) : Fn Tryd.prog 34 0 [vk n, .sl 2 (An Aa.enc l), .sl 1 (An eI s)] [] (fun d' b' => d' = .tup [.sl 1 (An eI r.1), vk r.2] /\ b' = []) := by
 unfold Dl at G
 refine Fn.of Tryd.func34 rfl rfl rfl fun w0 I ρ0 => ?_
 show Ca _ ⟨w0, I, ρ0, 0, 0, 14, none⟩ _ _ _
 refine Bk 0 16 Ba fun B => ?_
 refine Cf 16 80 B ?_
 refine A5 ?_
 obtain ⟨y, hy, G⟩ := Ab G
 refine Dz (P7 _ _ _ _ _ hy) ?_
 exact E7
theorem Qp (n : Int) (l : (List Aa)) (s : (List Int)) (r : (List Aa) × Int) (G : Bx n l s = some r) : Fn Tryd.prog 17 0 [vk n, .sl 2 (An Aa.enc l), .sl 1 (An eI s)] [] (fun d' b' => d' = .tup [.sl 2 (An Aa.enc r.1), vk r.2] /\ b' = []) := by
 unfold Bx at G
 refine Fn.of Tryd.func17 rfl rfl rfl fun w0 I ρ0 => ?_
 show Ca _ ⟨w0, I, ρ0, 0, 0, 66, none⟩ _ _ _
 refine Bk 0 16 Ba fun B => ?_
 refine Cf 16 80 B ?_
 refine A5 ?_
 obtain ⟨y, hy, G⟩ := Ab G
 rcases y with ⟨_ | o, y_r⟩
 replace G := Nw G
 refine Dv (rd := []) (ps := []) (gs := []) false rfl (Dc _ _ _ hy) rfl rfl (.cons .val (.cons .sl .nil)) rfl rfl (by intro h; cases h) rfl (by intro h; first | (cases h; done) | exact ⟨_, _, ⟨rfl, rfl⟩, by simp, by simp⟩) ?_
 rintro _ _ ⟨rfl, rfl⟩
 refine Bl fun B => ?_
 refine Af <| Bk 80 96 B fun B => ?_
 refine Cn rfl G (fun h5 G => ?_) fun h5 G => ?_
 refine Cf 96 120 B ?_
 exact E7
 cases G
 replace G := N7 G
 refine Dv (rd := []) (ps := []) (gs := []) false rfl (Dc _ _ _ hy) rfl rfl (.cons .val (.cons .sl .nil)) rfl rfl (by intro h; cases h) rfl (by intro h; first | (cases h; done) | exact ⟨_, _, ⟨rfl, rfl⟩, by simp, by simp⟩) ?_
 rintro _ _ ⟨rfl, rfl⟩
 refine Bl fun B => ?_
 refine Af <| Bk 80 96 B fun B => ?_
 refine Cn rfl G (fun h8 G => ?_) fun h8 G => ?_
 refine Cf 96 120 B ?_
 exact E7
 refine Cp ?_
 refine Af <| Cf 96 160 B ?_
 refine A5 ?_
 obtain ⟨y_2, hy_2, G⟩ := Ab G
 refine Kg [32] [32] [] false (Gq _ _ _ hy_2) ?_
 refine Bl fun B => ?_
 refine Bk 160 176 B fun B => ?_
 refine Cn rfl G (fun h12 G => ?_) fun h12 G => ?_
 refine Cf 176 192 B ?_
 exact E7
 refine Cp ?_
 refine Bk 176 184 B fun B => ?_
 refine Af <| Bk 184 208 B fun B => ?_
 refine Aj <| Fq (fun ((x36_1, out_1) : Int × List Aa) => mk [(2, .sl 1 (An eI s)), (8, .ptr 0 0), (12, .row 1), (34, .sl 1 (An eI s)), (35, .val (.int .i64 (s.length : Int))), (36, vk x36_1)] [(0, .box (Ap.dv y_2.2.2) 71), (1, .row 33 2 (An Aa.enc out_1))] 2) G (Ax [(0, 32)]) ?_
 rintro ⟨x36_1, out_1⟩ m1 o1 G hn1
 replace G : Bx.l1 s y_2 x36_1 out_1 = some o1 := G
 show Ca _ _ _ _ (mk _ _ _)
 unfold Bx.l1 at G
 refine Bk 2 10 Ba fun B => ?_
 refine Af <| Cn rfl G (fun h17 G => ?_) fun h17 G => ?_
 refine Cp ?_
 refine Af <| Aj <| Cf 10 50 B ?_
 refine A5 ?_
 obtain ⟨e, he, G⟩ := Ab G
 refine A5 ?_
 refine Ps he ?_
 refine Bl fun B => ?_
 refine Bk 50 74 B fun B => ?_
 refine Aj <| Fq (fun ((x43_2, out_2) : Int × List Aa) => mk [(2, .sl 1 (An eI s)), (8, .ptr 0 0), (12, .row 1), (13, vk x36_1), (14, vk e), (34, .sl 1 (An eI s)), (35, .val (.int .i64 (s.length : Int))), (36, vk x36_1), (41, .sl 1 (An eI s)), (42, .val (.int .i64 (s.length : Int))), (43, vk x43_2)] [(0, .box (Ap.dv y_2.2.2) 71), (1, .row 33 2 (An Aa.enc out_2))] 2) G (Ax [(0, 0), (1, 1)]) ?_
 rintro ⟨x43_2, out_2⟩ m2 o2 G hn2
 replace G : Bx.l2 s y_2 x36_1 e x43_2 out_2 = some o2 := G
 show Ca _ _ _ _ (mk _ _ _)
 unfold Bx.l2 at G
 refine Bk 2 10 Ba fun B => ?_
 refine Af <| Cn rfl G (fun h21 G => ?_) fun h21 G => ?_
 refine Cp ?_
 refine B0 (ι := List Aa) (fun (out_3 : List Aa) => mk [(2, .sl 1 (An eI s)), (8, .ptr 0 0), (12, .row 1), (13, vk x36_1), (14, vk e), (34, .sl 1 (An eI s)), (35, .val (.int .i64 (s.length : Int))), (36, vk x36_1), (41, .sl 1 (An eI s)), (42, .val (.int .i64 (s.length : Int))), (43, vk x43_2)] [(0, .box (Ap.dv y_2.2.2) 71), (1, .row 33 2 (An Aa.enc out_3))] 2) (fun (out_3 : List Aa) => Bx.j3 x43_2 out_3 = some o2) ?_ ?_
 refine Aj <| Cf 10 50 B ?_
 refine A5 ?_
 obtain ⟨e_2, he_2, G⟩ := Ab G
 refine A5 ?_
 refine Ps he_2 ?_
 refine Bl fun B => ?_
 refine Cf 50 122 B ?_
 refine A5 ?_
 obtain ⟨e_3, he_3, G⟩ := Ab G
 refine A5 ?_
 refine Ei rfl rfl (D0 Cu (A9 (Bd _) (Ar he_3) (o := 0) (c := .int .u32 e_3) rfl rfl)) rfl rfl ?_
 refine A5 ?_
 obtain ⟨y_3, hy_3, G⟩ := Ab G
 refine Dz (H7 _ _ _ hy_3) ?_
 refine Fc fun B => ?_
 refine Cn rfl G (fun h24 G => ?_) fun h24 G => ?_
 refine Ak (Ce _ _ []) 122 178 B rfl rfl ?_
 refine A5 ?_
 refine cG Mn Tt Uv ?_
 refine Pt Md Uv Vm ([(Aa.mk x36_1 x43_2)] : List Aa) Aa.enc ?_
 obtain ⟨l_2, hl_2, G⟩ := Ab G
 refine Ch (rd := [1, 154]) rfl rfl (Dr Md Aa.enc_len .row rfl .row rfl hl_2 rfl) rfl rfl ?_
 refine Bl fun B => ?_
 exact ⟨l_2, G, Ax [(0, 0), (1, 162)]⟩
 refine Cp ?_
 exact ⟨out_2, G, Ax [(0, 0), (1, 1)]⟩
 rintro out_3 G
 replace G : Bx.j3 x43_2 out_3 = some o2 := G
 show Ca _ _ _ _ (mk _ _ _)
 unfold Bx.j3 at G
 refine Ak (Ce _ _ []) 2 18 Ba rfl rfl ?_
 refine Bl fun B => ?_
 obtain rfl := oi_ G
 exact ⟨((W (x43_2 + 1), out_3), m2), Nat.lt_succ_self _, hn2, Ax [(0, 0), (1, 1)]⟩
 refine Fl ?_
 replace G := Bn G hn2
 refine Ak (Ce _ _ []) 10 26 B rfl rfl ?_
 refine Bl fun B => ?_
 obtain rfl := oi_ G
 exact ⟨((W (x36_1 + 1), out_2), m1), Nat.lt_succ_self _, hn1, Ax [(0, 0), (1, 1)]⟩
 refine Fl ?_
 replace G := Bn G hn1
 refine Bk 10 34 B fun B => ?_
 exact Ng
theorem Xl (n : Int) (l : (List Aa)) (s : (List Int)) (r : (List Aa) × Int) (G : B3 n l s = some r) : Fn Tryd.prog 35 0 [vk n, .sl 2 (An Aa.enc l), .sl 1 (An eI s)] [] (fun d' b' => d' = .tup [.sl 2 (An Aa.enc r.1), vk r.2] /\ b' = []) := by
 unfold B3 at G
 refine Fn.of Tryd.func35 rfl rfl rfl fun w0 I ρ0 => ?_
 show Ca _ ⟨w0, I, ρ0, 0, 0, 58, none⟩ _ _ _
 refine Bk 0 16 Ba fun B => ?_
 refine Af <| Cf 16 48 B ?_
 refine A5 ?_
 obtain ⟨y, hy, G⟩ := Ab G
 refine Dz (H0 _ _ _ hy) ?_
 refine Bl fun B => ?_
 refine Bk 48 64 B fun B => ?_
 refine Cn rfl G (fun h4 G => ?_) fun h4 G => ?_
 refine Cf 64 88 B ?_
 exact E7
 refine Cp ?_
 refine Af <| Cf 64 96 B ?_
 refine A5 ?_
 obtain ⟨y_2, hy_2, G⟩ := Ab G
 refine Dz (Mi _ _ _ hy_2) ?_
 refine Bl fun B => ?_
 refine Cn rfl G (fun h7 G => ?_) fun h7 G => ?_
 refine Cf 96 112 B ?_
 exact E7
 refine Cp ?_
 refine Cf 96 128 B ?_
 refine A5 ?_
 obtain ⟨y_3, hy_3, G⟩ := Ab G
 refine Dz (J5 _ _ _ hy_3) ?_
 refine Bl fun B => ?_
 refine Bk 128 136 B fun B => ?_
 refine Af <| Bk 136 160 B fun B => ?_
 refine Aj <| Fq (fun ((x30_1, out_1) : Int × List Aa) => mk [(2, .sl 1 (An eI s)), (9, .sl 1 (An (eL 1 eB) y_3)), (10, .row 0), (28, .sl 1 (An eI s)), (29, .val (.int .i64 (s.length : Int))), (30, vk x30_1)] [(0, .row 33 2 (An Aa.enc out_1))] 1) G (Ax []) ?_
 rintro ⟨x30_1, out_1⟩ m1 o1 G hn1
 replace G : B3.l1 s y_3 x30_1 out_1 = some o1 := G
 show Ca _ _ _ _ (mk _ _ _)
 unfold B3.l1 at G
 refine Bk 1 9 Ba fun B => ?_
 refine Af <| Cn rfl G (fun h13 G => ?_) fun h13 G => ?_
 refine Cp ?_
 refine Af <| Aj <| Cf 9 49 B ?_
 refine A5 ?_
 obtain ⟨e, he, G⟩ := Ab G
 refine A5 ?_
 refine Ps he ?_
 refine Bl fun B => ?_
 refine Bk 49 73 B fun B => ?_
 refine Aj <| Fq (fun ((x37_2, out_2) : Int × List Aa) => mk [(2, .sl 1 (An eI s)), (9, .sl 1 (An (eL 1 eB) y_3)), (10, .row 0), (11, vk x30_1), (12, vk e), (28, .sl 1 (An eI s)), (29, .val (.int .i64 (s.length : Int))), (30, vk x30_1), (35, .sl 1 (An eI s)), (36, .val (.int .i64 (s.length : Int))), (37, vk x37_2)] [(0, .row 33 2 (An Aa.enc out_2))] 1) G (Ax [(0, 0)]) ?_
 rintro ⟨x37_2, out_2⟩ m2 o2 G hn2
 replace G : B3.l2 s y_3 x30_1 e x37_2 out_2 = some o2 := G
 show Ca _ _ _ _ (mk _ _ _)
 unfold B3.l2 at G
 refine Bk 1 9 Ba fun B => ?_
 refine Af <| Cn rfl G (fun h17 G => ?_) fun h17 G => ?_
 refine Cp ?_
 refine B0 (ι := List Aa) (fun (out_3 : List Aa) => mk [(2, .sl 1 (An eI s)), (9, .sl 1 (An (eL 1 eB) y_3)), (10, .row 0), (11, vk x30_1), (12, vk e), (28, .sl 1 (An eI s)), (29, .val (.int .i64 (s.length : Int))), (30, vk x30_1), (35, .sl 1 (An eI s)), (36, .val (.int .i64 (s.length : Int))), (37, vk x37_2)] [(0, .row 33 2 (An Aa.enc out_3))] 1) (fun (out_3 : List Aa) => B3.j3 x37_2 out_3 = some o2) ?_ ?_
 refine Aj <| Cf 9 49 B ?_
 refine A5 ?_
 obtain ⟨e_2, he_2, G⟩ := Ab G
 refine A5 ?_
 refine Ps he_2 ?_
 refine Bl fun B => ?_
 refine Cf 49 105 B ?_
 refine A5 ?_
 obtain ⟨e_3, he_3, G⟩ := Ab G
 refine A5 ?_
 refine Ei rfl rfl (D0 Wz (A9 (Dj _ _) (Ar he_3) (o := 0) (c := .sl 1 (An eB e_3)) rfl rfl)) rfl rfl ?_
 refine A5 ?_
 obtain ⟨e_4, he_4, G⟩ := Ab G
 refine A5 ?_
 refine Ps he_4 ?_
 refine Fc fun B => ?_
 refine Cn rfl G (fun h20 G => ?_) fun h20 G => ?_
 refine Ak (Ce _ _ []) 105 161 B rfl rfl ?_
 refine A5 ?_
 refine cG Mn Tt Uv ?_
 refine Pt Md Uv Vm ([(Aa.mk x30_1 x37_2)] : List Aa) Aa.enc ?_
 obtain ⟨l_2, hl_2, G⟩ := Ab G
 refine Ch (rd := [0, 137]) rfl rfl (Dr Md Aa.enc_len .row rfl .row rfl hl_2 rfl) rfl rfl ?_
 refine Bl fun B => ?_
 exact ⟨l_2, G, Ax [(0, 145)]⟩
 refine Cp ?_
 exact ⟨out_2, G, Ax [(0, 0)]⟩
 rintro out_3 G
 replace G : B3.j3 x37_2 out_3 = some o2 := G
 show Ca _ _ _ _ (mk _ _ _)
 unfold B3.j3 at G
 refine Ak (Ce _ _ []) 1 17 Ba rfl rfl ?_
 refine Bl fun B => ?_
 obtain rfl := oi_ G
 exact ⟨((W (x37_2 + 1), out_3), m2), Nat.lt_succ_self _, hn2, Ax [(0, 0)]⟩
 refine Fl ?_
 replace G := Bn G hn2
 refine Ak (Ce _ _ []) 9 25 B rfl rfl ?_
 refine Bl fun B => ?_
 obtain rfl := oi_ G
 exact ⟨((W (x30_1 + 1), out_2), m1), Nat.lt_succ_self _, hn1, Ax [(0, 0)]⟩
 refine Fl ?_
 replace G := Bn G hn1
 refine Bk 9 33 B fun B => ?_
 exact Ng
theorem Mt (a : (List Int)) (b : (List Int)) (r : Bool) (G : Dp a b = some r) : Fn Tryd.prog 71 0 [.sl 1 (An eI a), .sl 1 (An eI b)] [] (fun d' b' => d' = .val (.bool r) /\ b' = []) := by
 unfold Dp at G
 refine Fn.of Tryd.func71 rfl rfl rfl fun w0 I ρ0 => ?_
 show Ca _ ⟨w0, I, ρ0, 0, 0, 30, none⟩ _ _ _
 refine Bk 0 8 Ba fun B => ?_
 refine Af <| Bk 8 32 B fun B => ?_
 refine Aj <| Fq (fun (x8_1 : Int) => mk [(0, .sl 1 (An eI a)), (1, .sl 1 (An eI b)), (7, .val (.int .i64 (a.length : Int))), (8, vk x8_1)] [] 0) G (Ax []) ?_
 rintro x8_1 m1 o1 G hn1
 replace G : Dp.l1 a b x8_1 = some o1 := G
 show Ca _ _ _ _ (mk _ _ _)
 unfold Dp.l1 at G
 refine Bk 0 8 Ba fun B => ?_
 refine Af <| Cn rfl G (fun h4 G => ?_) fun h4 G => ?_
 refine Cp ?_
 refine Af <| Aj <| Bk 8 24 B fun B => ?_
 refine Af <| Br (Ce _ _ []) (by kernel_rfl) [0, 0, 3, 7, 0, 0, 48, 112, 255] 24 96 B rfl rfl (by kernel_rfl) ?_
 refine A5 ?_
 obtain ⟨e, he, G⟩ := Ab G
 refine A5 ?_
 refine Ps he ?_
 refine A5 ?_
 obtain ⟨e_2, he_2, G⟩ := Ab G
 refine A5 ?_
 refine Ps he_2 ?_
 refine Bl fun B => ?_
 refine Cn rfl G (fun h7 G => ?_) fun h7 G => ?_
 refine Af <| Br (Ce _ _ []) (by kernel_rfl) [0, 0, 3, 7, 0, 0, 48, 112, 255, 511] 96 176 B rfl rfl (by kernel_rfl) ?_
 refine A5 ?_
 refine Ps he ?_
 refine A5 ?_
 refine Ps he_2 ?_
 refine Bl fun B => ?_
 refine Et ?_
 replace G := Bn G hn1
 exact Q2
 refine Cp ?_
 refine Ak (Ce _ _ []) 96 112 B rfl rfl ?_
 refine Bl fun B => ?_
 obtain rfl := oi_ G
 exact ⟨(W (x8_1 + 1), m1), Nat.lt_succ_self _, hn1, Ax []⟩
 refine Fl ?_
 replace G := Bn G hn1
 refine Bk 8 16 B fun B => ?_
 exact Ng
theorem Px (a : (List Int)) (b : (List Int)) (r : Bool) (G : Hk a b = some r) : Fn Tryd.prog 68 0 [.sl 1 (An eI a), .sl 1 (An eI b)] [] (fun d' b' => d' = .val (.bool r) /\ b' = []) := by
 unfold Hk at G
 refine Fn.of Tryd.func68 rfl rfl rfl fun w0 I ρ0 => ?_
 show Ca _ ⟨w0, I, ρ0, 0, 0, 22, none⟩ _ _ _
 refine Bk 0 8 Ba fun B => ?_
 refine Cf 8 152 B ?_
 refine A5 ?_
 rcases Gh G with ⟨h2, G⟩ | ⟨h2, G⟩
 refine A5 ?_
 obtain ⟨y, hy, G⟩ := Ab G
 refine Dz (Mt _ _ _ hy) ?_
 refine A5 ?_
 rcases Gh G with ⟨h3, G⟩ | ⟨h3, G⟩
 refine A5 ?_
 obtain ⟨y_2, hy_2, G⟩ := Ab G
 refine Dz (Mt _ _ _ hy_2) ?_
 exact E7
 exact E7
 exact E7
theorem Y0 (l : (List (List Int))) (s : (List Int)) (r : (List (List Int))) (G : C1 l s = some r) : Fn Tryd.prog 60 0 [.sl 1 (An (eL 1 eI) l), .sl 1 (An eI s)] [] (fun d' b' => d' = .sl 1 (An (eL 1 eI) r) /\ b' = []) := by
 unfold C1 at G
 refine Fn.of Tryd.func60 rfl rfl rfl fun w0 I ρ0 => ?_
 show Ca _ ⟨w0, I, ρ0, 0, 0, 53, none⟩ _ _ _
 refine Bk 0 8 Ba fun B => ?_
 refine Bk 8 40 B fun B => ?_
 refine Af <| Aj <| Fq (fun ((lo_1, hi_1) : Int × Int) => mk [(0, .sl 1 (An (eL 1 eI) l)), (1, .sl 1 (An eI s)), (5, vk lo_1), (6, vk hi_1)] [] 0) G (Ax []) ?_
 rintro ⟨lo_1, hi_1⟩ m1 o1 G hn1
 replace G : C1.l1 l s lo_1 hi_1 = some o1 := G
 show Ca _ _ _ _ (mk _ _ _)
 unfold C1.l1 at G
 refine Af <| Bk 0 24 Ba fun B => ?_
 refine Cn rfl G (fun h4 G => ?_) fun h4 G => ?_
 refine Cp ?_
 refine Aj <| Cf 24 64 B ?_
 refine A5 ?_
 obtain ⟨q, hq, G⟩ := Ab G
 refine Ei rfl rfl (Sb hq) rfl rfl ?_
 refine Bl fun B => ?_
 refine Cf 64 112 B ?_
 refine A5 ?_
 obtain ⟨e, he, G⟩ := Ab G
 refine A5 ?_
 refine Ei rfl rfl (D0 Sq (A9 (Dj _ _) (Ar he) (o := 0) (c := .sl 1 (An eI e)) rfl rfl)) rfl rfl ?_
 refine A5 ?_
 obtain ⟨y, hy, G⟩ := Ab G
 refine Dz (Mt _ _ _ hy) ?_
 refine Fc fun B => ?_
 refine Cn rfl G (fun h7 G => ?_) fun h7 G => ?_
 refine Ak (Ce _ _ []) 112 136 B rfl rfl ?_
 refine Bl fun B => ?_
 obtain rfl := oi_ G
 exact ⟨((W (q + 1), hi_1), m1), Nat.lt_succ_self _, hn1, Ax []⟩
 refine Ak (Ce _ _ []) 112 128 B rfl rfl ?_
 refine Bl fun B => ?_
 obtain rfl := oi_ G
 exact ⟨((lo_1, q), m1), Nat.lt_succ_self _, hn1, Ax []⟩
 refine Fl ?_
 replace G := Bn G hn1
 refine Af <| B0 (ι := Bool) (fun (x38_2 : Bool) => mk [(0, .sl 1 (An (eL 1 eI) l)), (1, .sl 1 (An eI s)), (5, vk lo_1), (38, .val (.bool x38_2))] [] 0) (fun (x38_2 : Bool) => C1.j2 l s lo_1 x38_2 = some r) ?_ ?_
 refine Ak (Ce _ _ []) 24 120 B rfl rfl ?_
 refine A5 ?_
 rcases Gh G with ⟨h10, G⟩ | ⟨h10, G⟩
 refine A5 ?_
 obtain ⟨e_2, he_2, G⟩ := Ab G
 refine A5 ?_
 refine Ei (Ea rfl rfl h10) rfl (D0 Sq (A9 (Dj _ _) (Ar he_2) (o := 0) (c := .sl 1 (An eI e_2)) rfl rfl)) rfl rfl ?_
 refine A5 ?_
 obtain ⟨y_2, hy_2, G⟩ := Ab G
 refine Dz (Px _ _ _ hy_2) ?_
 refine Bl fun B => ?_
 exact ⟨y_2, G, Ax []⟩
 refine Bl fun B => ?_
 exact ⟨false, G, Ax []⟩
 rintro x38_2 G
 replace G : C1.j2 l s lo_1 x38_2 = some r := G
 show Ca _ _ _ _ (mk _ _ _)
 unfold C1.j2 at G
 refine Cn rfl G (fun h13 G => ?_) fun h13 G => ?_
 refine Cf 0 16 Ba ?_
 exact E7
 refine Cp ?_
 refine Cf 0 40 Ba ?_
 refine A5 ?_
 obtain ⟨l_2, hl_2, G⟩ := Ab G
 refine Ei rfl rfl (Vu O2 (Dj _ _) hl_2) rfl rfl ?_
 obtain ⟨l_3, hl_3, G⟩ := Ab G
 refine Ei rfl rfl (Dr O2 (Dj _ _) .nil rfl .sl rfl hl_3 rfl) rfl rfl ?_
 refine Bl fun B => ?_
 refine Cf 40 80 B ?_
 refine A5 ?_
 refine Pt O2 lN Zr ([s] : List (List Int)) (eL 1 eI) ?_
 obtain ⟨l_4, hl_4, G⟩ := Ab G
 refine Ch (rd := [24, 56]) rfl rfl (Dr O2 (Dj _ _) .row rfl .row rfl hl_4 rfl) rfl rfl ?_
 refine Bl fun B => ?_
 refine Cf 80 128 B ?_
 refine A5 ?_
 obtain ⟨l_5, hl_5, G⟩ := Ab G
 refine Ei rfl rfl (Vv O2 (Dj _ _) hl_5) rfl rfl ?_
 obtain ⟨l_6, hl_6, G⟩ := Ab G
 refine Ch (rd := [64]) rfl rfl (Dr O2 (Dj _ _) .row rfl .sl rfl hl_6 rfl) rfl rfl ?_
 exact E7
theorem Qa (n : Int) (l : (List Aa)) (r : (List (List Int)) × Int) (G : By n l = some r) : Fn Tryd.prog 36 0 [vk n, .sl 2 (An Aa.enc l)] [] (fun d' b' => d' = .tup [.sl 1 (An (eL 1 eI) r.1), vk r.2] /\ b' = []) := by
 unfold By at G
 refine Fn.of Tryd.func36 rfl rfl rfl fun w0 I ρ0 => ?_
 show Ca _ ⟨w0, I, ρ0, 0, 0, 58, none⟩ _ _ _
 refine Bk 0 16 Ba fun B => ?_
 refine Af <| Cf 16 48 B ?_
 refine A5 ?_
 obtain ⟨y, hy, G⟩ := Ab G
 refine Dz (H0 _ _ _ hy) ?_
 refine Bl fun B => ?_
 refine Bk 48 64 B fun B => ?_
 refine Cn rfl G (fun h4 G => ?_) fun h4 G => ?_
 refine Cf 64 88 B ?_
 exact E7
 refine Cp ?_
 refine Cf 64 80 B ?_
 refine Pt O2 lN Zr ([([] : (List Int))] : List (List Int)) (eL 1 eI) ?_
 refine Bl fun B => ?_
 refine Cf 80 96 B ?_
 refine Pt O2 lN Zr ([([] : (List Int))] : List (List Int)) (eL 1 eI) ?_
 refine Bl fun B => ?_
 refine Af <| Aj <| Fq (fun ((level_1, out_1) : List (List Int) × List (List Int)) => mk [(0, vk n), (1, .sl 2 (An Aa.enc l)), (7, .sl 1 (An (eL 1 eI) level_1)), (8, .row 0)] [(0, .row 38 1 (An (eL 1 eI) out_1))] 1) G (Ax [(0, 80)]) ?_
 rintro ⟨level_1, out_1⟩ m1 o1 G hn1
 replace G : By.l1 n l level_1 out_1 = some o1 := G
 show Ca _ _ _ _ (mk _ _ _)
 unfold By.l1 at G
 refine Af <| Bk 1 25 Ba fun B => ?_
 refine Cn rfl G (fun h9 G => ?_) fun h9 G => ?_
 refine Cp ?_
 refine Aj <| Bk 25 33 B fun B => ?_
 refine Af <| Bk 33 57 B fun B => ?_
 refine Aj <| Fq (fun ((next_2, x27_2) : List (List Int) × Int) => mk [(0, vk n), (1, .sl 2 (An Aa.enc l)), (8, .row 0), (9, .sl 1 (An (eL 1 eI) next_2)), (25, .sl 1 (An (eL 1 eI) level_1)), (26, .val (.int .i64 (level_1.length : Int))), (27, vk x27_2)] [(0, .row 38 1 (An (eL 1 eI) out_1))] 1) G (Ax [(0, 0)]) ?_
 rintro ⟨next_2, x27_2⟩ m2 o2 G hn2
 replace G : By.l2 n l level_1 out_1 next_2 x27_2 = some o2 := G
 show Ca _ _ _ _ (mk _ _ _)
 unfold By.l2 at G
 refine Bk 1 9 Ba fun B => ?_
 refine Af <| Cn rfl G (fun h13 G => ?_) fun h13 G => ?_
 refine Cp ?_
 refine Af <| Aj <| Cf 9 33 B ?_
 obtain ⟨e, he, G⟩ := Ab G
 refine A5 ?_
 refine Ei rfl rfl (D0 Sq (A9 (Dj _ _) (Ar he) (o := 0) (c := .sl 1 (An eI e)) rfl rfl)) rfl rfl ?_
 refine Bl fun B => ?_
 refine Cf 33 81 B ?_
 refine A5 ?_
 obtain ⟨y_2, hy_2, G⟩ := Ab G
 refine Dz (Kj _ _ _ _ _ hy_2) ?_
 refine Bl fun B => ?_
 refine Aj <| Fq (fun ((next_3, x36_3) : List (List Int) × Int) => mk [(0, vk n), (1, .sl 2 (An Aa.enc l)), (8, .row 0), (9, .sl 1 (An (eL 1 eI) next_3)), (11, .sl 1 (An eI e)), (25, .sl 1 (An (eL 1 eI) level_1)), (26, .val (.int .i64 (level_1.length : Int))), (27, vk x27_2), (34, .sl 1 (An eI y_2)), (35, .val (.int .i64 (y_2.length : Int))), (36, vk x36_3)] [(0, .row 38 1 (An (eL 1 eI) out_1))] 1) G (Ax [(0, 0)]) ?_
 rintro ⟨next_3, x36_3⟩ m3 o3 G hn3
 replace G : By.l3 out_1 x27_2 e y_2 next_3 x36_3 = some o3 := G
 show Ca _ _ _ _ (mk _ _ _)
 unfold By.l3 at G
 refine Bk 1 9 Ba fun B => ?_
 refine Af <| Cn rfl G (fun h17 G => ?_) fun h17 G => ?_
 refine Cp ?_
 refine Af <| Aj <| Cf 9 33 B ?_
 obtain ⟨e_2, he_2, G⟩ := Ab G
 refine A5 ?_
 refine Ps he_2 ?_
 refine Bl fun B => ?_
 refine Cf 33 81 B ?_
 refine A5 ?_
 obtain ⟨y_3, hy_3, G⟩ := Ab G
 refine Dz (Hj _ _ _ _ hy_3) ?_
 obtain ⟨y_4, hy_4, G⟩ := Ab G
 refine Dz (Y0 _ _ _ hy_4) ?_
 refine Bl fun B => ?_
 refine Bk 81 129 B fun B => ?_
 refine Cn rfl G (fun h21 G => ?_) fun h21 G => ?_
 refine Bk 129 145 B fun B => ?_
 refine Et ?_
 replace G := Bn G hn3
 replace G := Bn G hn2
 replace G := Bn G hn1
 exact Q2
 refine Cp ?_
 refine Ak (Ce _ _ []) 129 145 B rfl rfl ?_
 refine Bl fun B => ?_
 obtain rfl := oi_ G
 exact ⟨((y_4, W (x36_3 + 1)), m3), Nat.lt_succ_self _, hn3, Ax [(0, 0)]⟩
 refine Fl ?_
 replace G := Bn G hn3
 refine Ak (Ce _ _ []) 9 25 B rfl rfl ?_
 refine Bl fun B => ?_
 obtain rfl := oi_ G
 exact ⟨((next_3, W (x27_2 + 1)), m2), Nat.lt_succ_self _, hn2, Ax [(0, 0)]⟩
 refine Fl ?_
 replace G := Bn G hn2
 refine Ak (Ce _ _ []) 9 57 B rfl rfl ?_
 refine A5 ?_
 obtain ⟨l_2, hl_2, G⟩ := Ab G
 refine Ch (rd := [0]) rfl rfl (Dr O2 (Dj _ _) .row rfl .sl rfl hl_2 rfl) rfl rfl ?_
 refine Bl fun B => ?_
 obtain rfl := oi_ G
 exact ⟨((next_2, l_2), m1), Nat.lt_succ_self _, hn1, Ax [(0, 25)]⟩
 refine Fl ?_
 replace G := Bn G hn1
 refine Bk 25 49 B fun B => ?_
 exact Ng
theorem Rv (a : (List (List Int))) (b : (List (List Int))) (r : Bool) (G : C6 a b = some r) : Fn Tryd.prog 37 0 [.sl 1 (An (eL 1 eI) a), .sl 1 (An (eL 1 eI) b)] [] (fun d' b' => d' = .val (.bool r) /\ b' = []) := by
 unfold C6 at G
 refine Fn.of Tryd.func37 rfl rfl rfl fun w0 I ρ0 => ?_
 show Ca _ ⟨w0, I, ρ0, 0, 0, 27, none⟩ _ _ _
 refine Bk 0 8 Ba fun B => ?_
 refine Af <| Bk 8 48 B fun B => ?_
 refine Cn rfl G (fun h3 G => ?_) fun h3 G => ?_
 refine Cf 48 56 B ?_
 exact E7
 refine Cp ?_
 refine Af <| Bk 48 72 B fun B => ?_
 refine Aj <| Fq (fun (x13_1 : Int) => mk [(0, .sl 1 (An (eL 1 eI) a)), (1, .sl 1 (An (eL 1 eI) b)), (12, .val (.int .i64 (a.length : Int))), (13, vk x13_1)] [] 0) G (Ax []) ?_
 rintro x13_1 m1 o1 G hn1
 replace G : C6.l1 a b x13_1 = some o1 := G
 show Ca _ _ _ _ (mk _ _ _)
 unfold C6.l1 at G
 refine Bk 0 8 Ba fun B => ?_
 refine Af <| Cn rfl G (fun h7 G => ?_) fun h7 G => ?_
 refine Cp ?_
 refine Af <| Aj <| Bk 8 24 B fun B => ?_
 refine Af <| Br (Ce _ _ []) (by kernel_rfl) [0, 0, 3, 7, 0, 0, 48, 112, 255, 511] 24 104 B rfl rfl (by kernel_rfl) ?_
 refine A5 ?_
 obtain ⟨e, he, G⟩ := Ab G
 refine A5 ?_
 refine Ei rfl rfl (D0 Sq (A9 (Dj _ _) (Ar he) (o := 0) (c := .sl 1 (An eI e)) rfl rfl)) rfl rfl ?_
 refine A5 ?_
 obtain ⟨e_2, he_2, G⟩ := Ab G
 refine A5 ?_
 refine Ei rfl rfl (D0 Sq (A9 (Dj _ _) (Ar he_2) (o := 0) (c := .sl 1 (An eI e_2)) rfl rfl)) rfl rfl ?_
 obtain ⟨y, hy, G⟩ := Ab G
 refine Dz (Hg _ _ _ hy) ?_
 refine Bl fun B => ?_
 refine Cn rfl G (fun h10 G => ?_) fun h10 G => ?_
 refine Bk 104 112 B fun B => ?_
 refine Et ?_
 replace G := Bn G hn1
 exact Q2
 refine Cp ?_
 refine Ak (Ce _ _ []) 104 120 B rfl rfl ?_
 refine Bl fun B => ?_
 obtain rfl := oi_ G
 exact ⟨(W (x13_1 + 1), m1), Nat.lt_succ_self _, hn1, Ax []⟩
 refine Fl ?_
 replace G := Bn G hn1
 refine Bk 8 16 B fun B => ?_
 exact Ng
theorem Rj (t : (List Int)) (raw : (List Aa)) (s : (List Int)) (n : Int) (r : Bool) (G : Aq t raw s n = some r) : Fn Tryd.prog 7 0 [.sl 1 (An eI t), .sl 2 (An Aa.enc raw), .sl 1 (An eI s), vk n] [] (fun d' b' => d' = .val (.bool r) /\ b' = []) := by
 unfold Aq at G
 refine Fn.of Tryd.func7 rfl rfl rfl fun w0 I ρ0 => ?_
 show Ca _ ⟨w0, I, ρ0, 0, 0, 287, none⟩ _ _ _
 refine Bk 0 8 Ba fun B => ?_
 refine Af <| B0 (ι := Bool) (fun (x61_1 : Bool) => mk [(0, .sl 1 (An eI t)), (1, .sl 2 (An Aa.enc raw)), (2, .sl 1 (An eI s)), (3, vk n), (61, .val (.bool x61_1))] [] 0) (fun (x61_1 : Bool) => Aq.j1 t raw s n x61_1 = some r) ?_ ?_
 refine Ak (Ce _ _ []) 8 112 B rfl rfl ?_
 refine A5 ?_
 obtain ⟨y, hy, G⟩ := Ab G
 refine Dz (Io _ _ hy) ?_
 refine A5 ?_
 rcases Gh G with ⟨h2, G⟩ | ⟨h2, G⟩
 refine Bl fun B => ?_
 exact ⟨true, G, Ax []⟩
 refine A5 ?_
 rcases Gh G with ⟨h4, G⟩ | ⟨h4, G⟩
 refine Bl fun B => ?_
 exact ⟨true, G, Ax []⟩
 refine Bl fun B => ?_
 exact ⟨decide (60 < (s.length : Int)), G, Ax []⟩
 rintro x61_1 G
 replace G : Aq.j1 t raw s n x61_1 = some r := G
 show Ca _ _ _ _ (mk _ _ _)
 unfold Aq.j1 at G
 refine Cn rfl G (fun h7 G => ?_) fun h7 G => ?_
 refine Cf 0 16 Ba ?_
 obtain ⟨y_2, hy_2, G⟩ := Ab G
 refine Dz (D8 _ hy_2) ?_
 exact E7
 refine Cp ?_
 refine Cf 0 24 Ba ?_
 refine A5 ?_
 obtain ⟨y_3, hy_3, G⟩ := Ab G
 refine Dv (rd := []) (ps := []) (gs := []) false rfl (Jn _ _ hy_3) rfl rfl (.cons .sl .nil) rfl rfl (by intro h; cases h) rfl (by intro h; first | (cases h; done) | exact ⟨_, _, ⟨rfl, rfl⟩, by simp, by simp⟩) ?_
 rintro _ _ ⟨rfl, rfl⟩
 refine Bl fun B => ?_
 refine Cf 24 48 B ?_
 refine A5 ?_
 obtain ⟨y_4, hy_4, G⟩ := Ab G
 refine Kg [8] [8] [] false (Iq _ _ _ hy_4) ?_
 refine Bl fun B => ?_
 refine Af <| Cf 48 104 B ?_
 refine A5 ?_
 obtain ⟨y_5, hy_5, G⟩ := Ab G
 refine Dz (Ut _ _ _ hy_5) ?_
 refine A5 ?_
 refine Pt nR z3 aE ([6, n, W (y_5 - 1)] : List Int) eI ?_
 refine Bl fun B => ?_
 refine Aj <| Fq (fun ((x73_2, d_2) : Int × Ai) => mk [(1, .sl 2 (An Aa.enc raw)), (2, .sl 1 (An eI s)), (9, .ptr 0 0), (10, .sl 2 (An Aa.enc y_4.1)), (71, .row 1), (72, .val (.int .i64 (([6, n, W (y_5 - 1)] : List Int).length : Int))), (73, vk x73_2)] [(0, .box [.sl 1 (An eI d_2.L), vk d_2.At] 61), (1, .row 3 1 (An eI ([6, n, W (y_5 - 1)] : List Int)))] 2) G (Ax [(0, 8), (1, 80)]) ?_
 rintro ⟨x73_2, d_2⟩ m2 o2 G hn2
 replace G : Aq.l2 raw s n y_4 y_5 x73_2 d_2 = some o2 := G
 show Ca _ _ _ _ (mk _ _ _)
 unfold Aq.l2 at G
 refine Bk 2 10 Ba fun B => ?_
 refine Af <| Cn rfl G (fun h13 G => ?_) fun h13 G => ?_
 refine Cp ?_
 refine Af <| Aj <| Cf 10 34 B ?_
 obtain ⟨e, he, G⟩ := Ab G
 refine A5 ?_
 refine Ch (rd := [1]) rfl rfl (.loadR1 sL (A9 G0 (Ar he) (o := 0) (c := .int .i64 e) rfl rfl)) rfl rfl ?_
 refine Bl fun B => ?_
 refine Cf 34 98 B ?_
 refine A5 ?_
 obtain ⟨y_6, hy_6, G⟩ := Ab G
 refine Dz (Hy _ _ _ hy_6) ?_
 refine Pt pK sP sA ([y_4.1, raw, y_6] : List (List Aa)) (eL 2 Aa.enc) ?_
 refine Bl fun B => ?_
 refine Aj <| Fq (fun ((x84_3, d_3) : Int × Ai) => mk [(1, .sl 2 (An Aa.enc raw)), (2, .sl 1 (An eI s)), (9, .ptr 0 0), (10, .sl 2 (An Aa.enc y_4.1)), (12, vk e), (71, .row 1), (72, .val (.int .i64 (([6, n, W (y_5 - 1)] : List Int).length : Int))), (73, vk x73_2), (82, .row 2), (83, .val (.int .i64 (([y_4.1, raw, y_6] : List (List Aa)).length : Int))), (84, vk x84_3)] [(0, .box [.sl 1 (An eI d_3.L), vk d_3.At] 61), (1, .row 3 1 (An eI ([6, n, W (y_5 - 1)] : List Int))), (2, .row 25 1 (An (eL 2 Aa.enc) ([y_4.1, raw, y_6] : List (List Aa))))] 3) G (Ax [(0, 0), (1, 1), (2, 74)]) ?_
 rintro ⟨x84_3, d_3⟩ m3 o3 G hn3
 replace G : Aq.l3 raw s y_4 x73_2 e y_6 x84_3 d_3 = some o3 := G
 show Ca _ _ _ _ (mk _ _ _)
 unfold Aq.l3 at G
 refine Bk 3 11 Ba fun B => ?_
 refine Af <| Cn rfl G (fun h17 G => ?_) fun h17 G => ?_
 refine Cp ?_
 refine Af <| Aj <| Cf 11 35 B ?_
 obtain ⟨e_2, he_2, G⟩ := Ab G
 refine A5 ?_
 refine Ch (rd := [2]) rfl rfl (.loadR1 qS (A9 (Dj _ _) (Ar he_2) (o := 0) (c := .sl 2 (An Aa.enc e_2)) rfl rfl)) rfl rfl ?_
 refine Bl fun B => ?_
 refine Cf 35 99 B ?_
 refine A5 ?_
 obtain ⟨y_7, hy_7, G⟩ := Ab G
 refine Dz (M7 _ _ _ hy_7) ?_
 refine Bl fun B => ?_
 refine Cf 99 163 B ?_
 refine A5 ?_
 obtain ⟨y_8, hy_8, G⟩ := Ab G
 refine Dz (Sg _ _ _ hy_8) ?_
 refine Bl fun B => ?_
 refine Cf 163 227 B ?_
 refine A5 ?_
 obtain ⟨y_9, hy_9, G⟩ := Ab G
 refine Dz (Lr _ _ _ hy_9) ?_
 refine Bl fun B => ?_
 refine Cf 227 291 B ?_
 refine A5 ?_
 obtain ⟨y_10, hy_10, G⟩ := Ab G
 refine Dz (U9 _ _ _ hy_10) ?_
 refine Bl fun B => ?_
 refine Af <| B0 (ι := Bool) (fun (x138_4 : Bool) => mk [(1, .sl 2 (An Aa.enc raw)), (2, .sl 1 (An eI s)), (9, .ptr 0 0), (10, .sl 2 (An Aa.enc y_4.1)), (12, vk e), (14, .sl 2 (An Aa.enc e_2)), (71, .row 1), (72, .val (.int .i64 (([6, n, W (y_5 - 1)] : List Int).length : Int))), (73, vk x73_2), (82, .row 2), (83, .val (.int .i64 (([y_4.1, raw, y_6] : List (List Aa)).length : Int))), (84, vk x84_3), (138, .val (.bool x138_4))] [(0, .box [.sl 1 (An eI d_3.L), vk d_3.At] 61), (1, .row 3 1 (An eI ([6, n, W (y_5 - 1)] : List Int))), (2, .row 25 1 (An (eL 2 Aa.enc) ([y_4.1, raw, y_6] : List (List Aa))))] 3) (fun (x138_4 : Bool) => Aq.j4 s y_4 e x84_3 d_3 e_2 x138_4 = some o3) ?_ ?_
 refine Ak (Ce _ _ []) 291 507 B rfl rfl ?_
 refine A5 ?_
 rcases Gh G with ⟨h23, G⟩ | ⟨h23, G⟩
 refine Bl fun B => ?_
 exact ⟨true, G, Ax [(0, 0), (1, 1), (2, 2)]⟩
 refine A5 ?_
 rcases Gh G with ⟨h25, G⟩ | ⟨h25, G⟩
 refine Bl fun B => ?_
 exact ⟨true, G, Ax [(0, 0), (1, 1), (2, 2)]⟩
 refine A5 ?_
 obtain ⟨y_11, hy_11, G⟩ := Ab G
 refine Dz (H1 _ _ _ hy_11) ?_
 refine A5 ?_
 rcases Gh G with ⟨h27, G⟩ | ⟨h27, G⟩
 refine Bl fun B => ?_
 exact ⟨true, G, Ax [(0, 0), (1, 1), (2, 2)]⟩
 refine A5 ?_
 obtain ⟨y_12, hy_12, G⟩ := Ab G
 refine Dz (Ql _ _ _ hy_12) ?_
 refine A5 ?_
 rcases Gh G with ⟨h29, G⟩ | ⟨h29, G⟩
 refine Bl fun B => ?_
 exact ⟨true, G, Ax [(0, 0), (1, 1), (2, 2)]⟩
 refine A5 ?_
 obtain ⟨y_13, hy_13, G⟩ := Ab G
 refine Dz (Hg _ _ _ hy_13) ?_
 refine Bl fun B => ?_
 exact ⟨!y_13, G, Ax [(0, 0), (1, 1), (2, 2)]⟩
 rintro x138_4 G
 replace G : Aq.j4 s y_4 e x84_3 d_3 e_2 x138_4 = some o3 := G
 show Ca _ _ _ _ (mk _ _ _)
 unfold Aq.j4 at G
 refine Cn rfl G (fun h32 G => ?_) fun h32 G => ?_
 refine Bk 3 11 Ba fun B => ?_
 refine Et ?_
 replace G := Bn G hn3
 replace G := Bn G hn2
 exact Q2
 refine Cp ?_
 refine Cf 3 83 Ba ?_
 refine A5 ?_
 obtain ⟨y_14, hy_14, G⟩ := Ab G
 refine Kg [0] [0] [] false (Pq _ _ _ hy_14) ?_
 refine A5 ?_
 obtain ⟨y_15, hy_15, G⟩ := Ab G
 refine Kg [0] [0] [] false (Pq _ _ _ hy_15) ?_
 obtain ⟨y_16, hy_16, G⟩ := Ab G
 refine Dz (Yn _ _ _ _ hy_16) ?_
 refine Pt O2 lN Zr ([s, y_14.1, y_16, ([] : (List Int))] : List (List Int)) (eL 1 eI) ?_
 refine Bl fun B => ?_
 refine Aj <| Fq (fun (x148_5 : Int) => mk [(1, .sl 2 (An Aa.enc raw)), (2, .sl 1 (An eI s)), (9, .ptr 0 0), (10, .sl 2 (An Aa.enc y_4.1)), (12, vk e), (14, .sl 2 (An Aa.enc e_2)), (71, .row 1), (72, .val (.int .i64 (([6, n, W (y_5 - 1)] : List Int).length : Int))), (73, vk x73_2), (82, .row 2), (83, .val (.int .i64 (([y_4.1, raw, y_6] : List (List Aa)).length : Int))), (84, vk x84_3), (146, .row 3), (147, .val (.int .i64 (([s, y_14.1, y_16, ([] : (List Int))] : List (List Int)).length : Int))), (148, vk x148_5)] [(0, .box [.sl 1 (An eI y_15.2.L), vk y_15.2.At] 61), (1, .row 3 1 (An eI ([6, n, W (y_5 - 1)] : List Int))), (2, .row 25 1 (An (eL 2 Aa.enc) ([y_4.1, raw, y_6] : List (List Aa)))), (3, .row 38 1 (An (eL 1 eI) ([s, y_14.1, y_16, ([] : (List Int))] : List (List Int))))] 4) G (Ax [(0, 0), (1, 1), (2, 2), (3, 59)]) ?_
 rintro x148_5 m5 o5 G hn5
 replace G : Aq.l5 s e x84_3 e_2 y_14 y_15 y_16 x148_5 = some o5 := G
 show Ca _ _ _ _ (mk _ _ _)
 unfold Aq.l5 at G
 refine Bk 4 12 Ba fun B => ?_
 refine Af <| Cn rfl G (fun h36 G => ?_) fun h36 G => ?_
 refine Cp ?_
 refine Af <| Aj <| Cf 12 36 B ?_
 obtain ⟨e_3, he_3, G⟩ := Ab G
 refine A5 ?_
 refine Ch (rd := [3]) rfl rfl (.loadR1 Sq (A9 (Dj _ _) (Ar he_3) (o := 0) (c := .sl 1 (An eI e_3)) rfl rfl)) rfl rfl ?_
 refine Bl fun B => ?_
 refine Cf 36 108 B ?_
 refine A5 ?_
 obtain ⟨y_17, hy_17, G⟩ := Ab G
 refine Dz (Ha _ _ _ _ hy_17) ?_
 refine Bl fun B => ?_
 refine Cf 108 180 B ?_
 refine A5 ?_
 obtain ⟨y_18, hy_18, G⟩ := Ab G
 refine Dz (N8 _ _ _ _ hy_18) ?_
 refine Bl fun B => ?_
 refine Cf 180 252 B ?_
 refine A5 ?_
 obtain ⟨y_19, hy_19, G⟩ := Ab G
 refine Dz (Lv _ _ _ _ hy_19) ?_
 refine Bl fun B => ?_
 refine Cf 252 324 B ?_
 refine A5 ?_
 obtain ⟨y_20, hy_20, G⟩ := Ab G
 refine Dz (Vj _ _ _ _ hy_20) ?_
 refine Bl fun B => ?_
 refine Cf 324 396 B ?_
 refine A5 ?_
 obtain ⟨y_21, hy_21, G⟩ := Ab G
 refine Dz (Im _ _ _ _ hy_21) ?_
 refine Bl fun B => ?_
 refine Cf 396 468 B ?_
 refine A5 ?_
 obtain ⟨y_22, hy_22, G⟩ := Ab G
 refine Dz (Qe _ _ _ _ hy_22) ?_
 refine Bl fun B => ?_
 refine Cf 468 540 B ?_
 refine A5 ?_
 obtain ⟨y_23, hy_23, G⟩ := Ab G
 refine Dz (Qp _ _ _ _ hy_23) ?_
 refine Bl fun B => ?_
 refine Cf 540 612 B ?_
 refine A5 ?_
 obtain ⟨y_24, hy_24, G⟩ := Ab G
 refine Dz (Xl _ _ _ _ hy_24) ?_
 refine Bl fun B => ?_
 refine B0 (ι := Bool) (fun (x248_6 : Bool) => mk [(1, .sl 2 (An Aa.enc raw)), (2, .sl 1 (An eI s)), (9, .ptr 0 0), (10, .sl 2 (An Aa.enc y_4.1)), (12, vk e), (14, .sl 2 (An Aa.enc e_2)), (71, .row 1), (72, .val (.int .i64 (([6, n, W (y_5 - 1)] : List Int).length : Int))), (73, vk x73_2), (82, .row 2), (83, .val (.int .i64 (([y_4.1, raw, y_6] : List (List Aa)).length : Int))), (84, vk x84_3), (146, .row 3), (147, .val (.int .i64 (([s, y_14.1, y_16, ([] : (List Int))] : List (List Int)).length : Int))), (148, vk x148_5), (248, .val (.bool x248_6))] [(0, .box [.sl 1 (An eI y_15.2.L), vk y_15.2.At] 61), (1, .row 3 1 (An eI ([6, n, W (y_5 - 1)] : List Int))), (2, .row 25 1 (An (eL 2 Aa.enc) ([y_4.1, raw, y_6] : List (List Aa)))), (3, .row 38 1 (An (eL 1 eI) ([s, y_14.1, y_16, ([] : (List Int))] : List (List Int))))] 4) (fun (x248_6 : Bool) => Aq.j6 x148_5 x248_6 = some o5) ?_ ?_
 refine Ak (Ce _ _ []) 612 940 B rfl rfl ?_
 refine A5 ?_
 refine Ei rfl rfl (W5 lA) rfl rfl ?_
 refine A5 ?_
 rcases Gh G with ⟨h46, G⟩ | ⟨h46, G⟩
 refine Bl fun B => ?_
 exact ⟨true, G, Ax [(0, 0), (1, 1), (2, 2), (3, 3)]⟩
 refine A5 ?_
 rcases Gh G with ⟨h48, G⟩ | ⟨h48, G⟩
 refine Bl fun B => ?_
 exact ⟨true, G, Ax [(0, 0), (1, 1), (2, 2), (3, 3)]⟩
 refine A5 ?_
 rcases Gh G with ⟨h50, G⟩ | ⟨h50, G⟩
 refine Bl fun B => ?_
 exact ⟨true, G, Ax [(0, 0), (1, 1), (2, 2), (3, 3)]⟩
 refine A5 ?_
 rcases Gh G with ⟨h52, G⟩ | ⟨h52, G⟩
 refine Bl fun B => ?_
 exact ⟨true, G, Ax [(0, 0), (1, 1), (2, 2), (3, 3)]⟩
 refine A5 ?_
 rcases Gh G with ⟨h54, G⟩ | ⟨h54, G⟩
 refine Bl fun B => ?_
 exact ⟨true, G, Ax [(0, 0), (1, 1), (2, 2), (3, 3)]⟩
 refine A5 ?_
 obtain ⟨y_25, hy_25, G⟩ := Ab G
 refine Dz (Hg _ _ _ hy_25) ?_
 refine A5 ?_
 rcases Gh G with ⟨h56, G⟩ | ⟨h56, G⟩
 refine Bl fun B => ?_
 exact ⟨true, G, Ax [(0, 0), (1, 1), (2, 2), (3, 3)]⟩
 refine A5 ?_
 obtain ⟨y_26, hy_26, G⟩ := Ab G
 refine Dz (Hg _ _ _ hy_26) ?_
 refine A5 ?_
 rcases Gh G with ⟨h58, G⟩ | ⟨h58, G⟩
 refine Bl fun B => ?_
 exact ⟨true, G, Ax [(0, 0), (1, 1), (2, 2), (3, 3)]⟩
 refine A5 ?_
 obtain ⟨y_27, hy_27, G⟩ := Ab G
 refine Dz (Ql _ _ _ hy_27) ?_
 refine Bl fun B => ?_
 exact ⟨!y_27, G, Ax [(0, 0), (1, 1), (2, 2), (3, 3)]⟩
 rintro x248_6 G
 replace G : Aq.j6 x148_5 x248_6 = some o5 := G
 show Ca _ _ _ _ (mk _ _ _)
 unfold Aq.j6 at G
 refine Cn rfl G (fun h61 G => ?_) fun h61 G => ?_
 refine Bk 4 12 Ba fun B => ?_
 refine Et ?_
 replace G := Bn G hn5
 replace G := Bn G hn3
 replace G := Bn G hn2
 exact Q2
 refine Cp ?_
 refine Ak (Ce _ _ []) 4 20 Ba rfl rfl ?_
 refine Bl fun B => ?_
 obtain rfl := oi_ G
 exact ⟨(W (x148_5 + 1), m5), Nat.lt_succ_self _, hn5, Ax [(0, 0), (1, 1), (2, 2), (3, 3)]⟩
 refine Fl ?_
 replace G := Bn G hn5
 refine Ak (Ce _ _ []) 12 28 B rfl rfl ?_
 refine Bl fun B => ?_
 obtain rfl := oi_ G
 exact ⟨((W (x84_3 + 1), y_15.2), m3), Nat.lt_succ_self _, hn3, Ax [(0, 0), (1, 1), (2, 2)]⟩
 refine Fl ?_
 replace G := Bn G hn3
 refine Ak (Ce _ _ []) 11 27 B rfl rfl ?_
 refine Bl fun B => ?_
 obtain rfl := oi_ G
 exact ⟨((W (x73_2 + 1), d_3), m2), Nat.lt_succ_self _, hn2, Ax [(0, 0), (1, 1)]⟩
 refine Fl ?_
 replace G := Bn G hn2
 refine Cf 10 66 B ?_
 refine A5 ?_
 obtain ⟨y_28, hy_28, G⟩ := Ab G
 refine Dz (F0 _ _ _ hy_28) ?_
 refine Bl fun B => ?_
 refine Cf 66 122 B ?_
 refine A5 ?_
 obtain ⟨y_29, hy_29, G⟩ := Ab G
 refine Dz (Qa _ _ _ hy_29) ?_
 refine Bl fun B => ?_
 refine Af <| B0 (ι := Bool) (fun (x270_7 : Bool) => mk [(10, .sl 2 (An Aa.enc y_4.1)), (270, .val (.bool x270_7))] [] 0) (fun (x270_7 : Bool) => Aq.j7 y_4 x270_7 = some r) ?_ ?_
 refine Ak (Ce _ _ []) 122 194 B rfl rfl ?_
 refine A5 ?_
 rcases Gh G with ⟨h68, G⟩ | ⟨h68, G⟩
 refine Bl fun B => ?_
 exact ⟨true, G, Ax []⟩
 refine A5 ?_
 obtain ⟨y_30, hy_30, G⟩ := Ab G
 refine Dz (Rv _ _ _ hy_30) ?_
 refine Bl fun B => ?_
 exact ⟨!y_30, G, Ax []⟩
 rintro x270_7 G
 replace G : Aq.j7 y_4 x270_7 = some r := G
 show Ca _ _ _ _ (mk _ _ _)
 unfold Aq.j7 at G
 refine Cn rfl G (fun h71 G => ?_) fun h71 G => ?_
 refine Cf 0 8 Ba ?_
 exact E7
 refine Cp ?_
 refine Cf 0 56 Ba ?_
 refine A5 ?_
 obtain ⟨y_31, hy_31, G⟩ := Ab G
 refine Dz (F0 _ _ _ hy_31) ?_
 refine Bl fun B => ?_
 refine Cf 56 112 B ?_
 refine A5 ?_
 obtain ⟨y_32, hy_32, G⟩ := Ab G
 refine Dz (Qa _ _ _ hy_32) ?_
 refine Bl fun B => ?_
 refine Cf 112 168 B ?_
 refine A5 ?_
 rcases Gh G with ⟨h75, G⟩ | ⟨h75, G⟩
 obtain ⟨y_33, hy_33, G⟩ := Ab G
 refine Dz (D8 _ hy_33) ?_
 exact E7
 exact E7
end Go.Proofs.YtopkgllcjbpdeaaDoor
