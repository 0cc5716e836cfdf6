import Derived.Test.YtopkgllcjbpdeaaDoorT1
import Derived.Test.YtopkgllcjbpdeaaDoorA1
import Derived.Test.YtopkgllcjbpdeaaDoorA3
set_option linter.unusedVariables false
set_option linter.unusedSimpArgs false
set_option maxRecDepth 100000
set_option maxHeartbeats 1600000
namespace Go.Proofs.YtopkgllcjbpdeaaDoor
open Go.RowKit
theorem Ls (o : Ap) (s : Int) (yield' : Int -> (Nat × Unit) -> Option (Bool × (Nat × Unit))) (c0 : Int) (q : (Nat × Unit)) (r : Int × (Nat × Unit)) (G : A1 yield' c0 q = some r) (rc : Loop) (hR : ∀ (x0 : Int) (q' : Nat × Unit) (y' : Bool × (Nat × Unit)), yield' x0 q' = some y' -> Y6 Tryd.prog [2, 3, 4] [.ptr 0 0, .ptr 2 0, .ptr 3 0] 19 (Ft rc 0) 4 5 [vk x0] [.box [.ptr 1 0] 62, .box (Ap.dv o) 71, .box [.val (.int .u32 s)] 68, .box [.val (.bool false)] 4, .lop [2, 3, 4] [.ptr 0 0, .ptr 2 0, .ptr 3 0] 19 (Ft rc q'.1)] (fun b1 b2 => b1 = y'.1 /\ b2 = [.box [.ptr 1 0] 62, .box (Ap.dv o) 71, .box [.val (.int .u32 s)] 68, .box [.val (.bool false)] 4, .lop [2, 3, 4] [.ptr 0 0, .ptr 2 0, .ptr 3 0] 19 (Ft rc y'.2.1)])) : Y7 Tryd.prog 63 4 6 [.ptr 5 0] [.box [.ptr 1 0] 62, .box (Ap.dv o) 71, .box [.val (.int .u32 s)] 68, .box [.val (.bool false)] 4, .lop [2, 3, 4] [.ptr 0 0, .ptr 2 0, .ptr 3 0] 19 (Ft rc q.1), .box [.val (.int .u32 c0)] 68] (fun b' => b' = [.box [.ptr 1 0] 62, .box (Ap.dv o) 71, .box [.val (.int .u32 s)] 68, .box [.val (.bool false)] 4, .lop [2, 3, 4] [.ptr 0 0, .ptr 2 0, .ptr 3 0] 19 (Ft rc r.2.1), .box [.val (.int .u32 r.1)] 68]) := by
 unfold A1 at G
 refine Y7.of Tryd.func63 rfl rfl rfl rfl fun w0 I ρ0 l hl => ?_
 show Ca _ ⟨w0, I, ρ0, 6, 6, 16, none⟩ _ _ _
 refine Aj <| Fq (fun ((q_1, b_1) : (Nat × Unit) × Int) => mk [(0, .val (.func (.yield l) #[] #[])), (1, .ptr 5 0)] [(0, .box [.ptr 1 0] 62), (1, .box (Ap.dv o) 71), (2, .box [.val (.int .u32 s)] 68), (3, .box [.val (.bool false)] 4), (4, .lop [2, 3, 4] [.ptr 0 0, .ptr 2 0, .ptr 3 0] 19 (Ft rc q_1.1)), (5, .box [.val (.int .u32 b_1)] 68)] 6) G (Ax [(0, 0), (1, 1), (2, 2), (3, 3), (4, 4), (5, 5)]) ?_
 rintro ⟨q_1, b_1⟩ m1 o1 G hn1
 replace G : A1.l1 yield' q_1 b_1 = some o1 := G
 show Ca _ _ _ _ (mk _ _ _)
 unfold A1.l1 at G
 refine Af <| Bk 6 22 Ba fun B => ?_
 refine Cn rfl G (fun h2 G => ?_) fun h2 G => ?_
 refine Cp ?_
 refine Aj <| Cf 22 46 B ?_
 refine A5 ?_
 obtain ⟨y, hy, G⟩ := Ab G
 refine Dz (Cq _ _ hy) ?_
 refine Bl fun B => ?_
 refine Af <| Br (Ce _ _ []) (by kernel_rfl) [0, 0, 2, 7, 15] 46 86 B rfl rfl (by kernel_rfl) ?_
 refine A5 ?_
 obtain ⟨q_2, hq_2, G⟩ := Ab G
 refine Ei rfl rfl (Hu hq_2) rfl rfl ?_
 refine Ei rfl rfl Ig rfl rfl ?_
 refine Bl fun B => ?_
 refine Af <| Ii ?_
 refine G6.chain (Ce _ _ []) 2 86 102 B rfl rfl ?_
 show Cs _ _ _ _ (idx 0 [_, _]) _ _ _
 refine A5 ?_
 refine Sh fun B => ?_
 obtain ⟨y_2, hy_2, G⟩ := Ab G
 refine pC 102 [0, 1, 2, 3, 4] [] [0, 1, 2, 3, 4] false B hl (hR _ _ _ hy_2) (.cons .val .nil) ⟨_, _, _, rfl, .head _, ⟨_, rfl, (by repeat' (first | exact Dw.nil | apply Dw.cons | exact Ag.val | exact Ag.sl | exact Ag.nils | exact Ag.ptr rfl | exact Ag.rowK rfl | exact Ag.elt))⟩, ⟨_, _, _, rfl, .tail _ (.head _), ⟨_, rfl, (by repeat' (first | exact Dw.nil | apply Dw.cons | exact Ag.val | exact Ag.sl | exact Ag.nils | exact Ag.ptr rfl | exact Ag.rowK rfl | exact Ag.elt))⟩, ⟨_, _, _, rfl, .tail _ (.tail _ (.head _)), ⟨_, rfl, (by repeat' (first | exact Dw.nil | apply Dw.cons | exact Ag.val | exact Ag.sl | exact Ag.nils | exact Ag.ptr rfl | exact Ag.rowK rfl | exact Ag.elt))⟩, ⟨_, _, _, rfl, .tail _ (.tail _ (.tail _ (.head _))), ⟨_, rfl, (by repeat' (first | exact Dw.nil | apply Dw.cons | exact Ag.val | exact Ag.sl | exact Ag.nils | exact Ag.ptr rfl | exact Ag.rowK rfl | exact Ag.elt))⟩, ⟨_, _, _, rfl, .tail _ (.tail _ (.tail _ (.tail _ (.head _)))), ⟨_, rfl, (by repeat' (first | exact Dw.nil | apply Dw.cons | exact Ag.val | exact Ag.sl | exact Ag.nils | exact Ag.ptr rfl | exact Ag.rowK rfl | exact Ag.elt))⟩, rfl⟩⟩⟩⟩⟩ fun B => ?_
 refine G6.chain (Ce _ _ []) 1 110 118 B rfl rfl ?_
 show Cs _ _ _ _ (idx 0 [_]) _ _ _
 refine A5 ?_
 refine Sh fun B => ?_
 refine G6.fin ?_
 refine U0 ?_
 refine Cn rfl G (fun h8 G => ?_) fun h8 G => ?_
 refine J1 ?_
 refine U0 ?_
 replace G := Bn G hn1
 obtain rfl := oi_ G
 exact Fe [(0, 0), (1, 1), (2, 2), (3, 3), (4, 4), (5, 5)] ⟨rfl, rfl⟩
 refine Cp ?_
 obtain rfl := oi_ G
 exact ⟨((y_2.2, G4 .u32 b_1 q_2), m1), Nat.lt_succ_self _, hn1, Ax [(0, 0), (1, 1), (2, 2), (3, 3), (4, 4), (5, 5)]⟩
 refine Fl ?_
 replace G := Bn G hn1
 obtain rfl := oi_ G
 exact Fe [(0, 0), (1, 1), (2, 2), (3, 3), (4, 4), (5, 5)] ⟨rfl, rfl⟩
theorem Hf (o : Ap) (s : Int) (r : Bool × Ap) (G : Bq o s = some r) : Fn Tryd.prog 52 1 [.ptr 0 0, .val (.int .u32 s)] [.box (Ap.dv o) 71] (fun d' b' => d' = .val (.bool r.1) /\ b' = [.box (Ap.dv r.2) 71]) := by
 unfold Bq at G
 refine Fn.of Tryd.func52 rfl rfl rfl fun w0 I ρ0 => ?_
 show Ca _ ⟨w0, I, ρ0, 1, 1, 19, none⟩ _ _ _
 refine Bk 1 25 Ba fun B => ?_
 refine Af <| Cf 25 41 B ?_
 refine A5 ?_
 obtain ⟨y, hy, G⟩ := Ab G
 refine Dv (rd := []) (ps := []) (gs := []) false rfl (Fy _ _ hy) rfl rfl (.cons .val .nil) rfl rfl (by intro h; cases h) rfl (by intro h; first | (cases h; done) | exact ⟨_, _, ⟨rfl, rfl⟩, by simp, by simp⟩) ?_
 rintro _ _ ⟨rfl, rfl⟩
 refine Fc fun B => ?_
 refine Aj ?_
 obtain ⟨y_2, hy_2, G⟩ := Ab G
 refine It (σ' := mk [(2, .ptr 1 0), (3, .ptr 2 0), (4, .ptr 3 0), (7, .clo 63 0 [.ptr 4 0])] [(0, .box (Ap.dv o) 71), (1, .box [.ptr 0 0] 62), (2, .box [.val (.int .u32 s)] 68), (3, .box [.val (.bool false)] 4), (4, .box [.val (.int .u32 y)] 68)] 5) (Ax [(0, 0), (1, 1), (2, 9), (3, 17), (4, 33)]) ?_
 refine cC (c := y_2.2.1) (ts := [2, 3, 4]) (ds := [.ptr 1 0, .ptr 2 0, .ptr 3 0]) 5 [1, 0, 2, 3, 5, 4] [] [1, 0, 2, 3, 5, 4] false Ba (Ls o s (fun a0' q' => Y5 (fun s' => Bq.r1 o s a0') q') y (0, ()) _ hy_2) (by repeat' first | exact trivial | refine And.intro rfl ?_) (fun _ _ => .cons (.ptr rfl) .nil) (fun _ _ => ⟨_, _, _, rfl, .head _, ⟨_, rfl, (by repeat' (first | exact Dw.nil | apply Dw.cons | exact Ag.val | exact Ag.sl | exact Ag.nils | exact Ag.ptr rfl | exact Ag.rowK rfl | exact Ag.elt))⟩, ⟨_, _, _, rfl, .tail _ (.head _), ⟨_, rfl, (by repeat' (first | exact Dw.nil | apply Dw.cons | exact Ag.val | exact Ag.sl | exact Ag.nils | exact Ag.ptr rfl | exact Ag.rowK rfl | exact Ag.elt))⟩, ⟨_, _, _, rfl, .tail _ (.tail _ (.head _)), ⟨_, rfl, (by repeat' (first | exact Dw.nil | apply Dw.cons | exact Ag.val | exact Ag.sl | exact Ag.nils | exact Ag.ptr rfl | exact Ag.rowK rfl | exact Ag.elt))⟩, ⟨_, _, _, rfl, .tail _ (.tail _ (.tail _ (.head _))), ⟨_, rfl, (by repeat' (first | exact Dw.nil | apply Dw.cons | exact Ag.val | exact Ag.sl | exact Ag.nils | exact Ag.ptr rfl | exact Ag.rowK rfl | exact Ag.elt))⟩, ⟨_, _, _, rfl, .tail _ (.tail _ (.tail _ (.tail _ (.head _)))), ⟨_, rfl, (by repeat' (first | exact Dw.nil | apply Dw.cons | exact Ag.val | exact Ag.sl | exact Ag.nils | exact Ag.ptr rfl | exact Ag.rowK rfl | exact Ag.elt))⟩, ⟨_, _, _, rfl, .tail _ (.tail _ (.tail _ (.tail _ (.tail _ (.head _))))), ⟨_, rfl, (by repeat' (first | exact Dw.nil | apply Dw.cons | exact Ag.val | exact Ag.sl | exact Ag.nils | exact Ag.ptr rfl | exact Ag.rowK rfl | exact Ag.elt))⟩, rfl⟩⟩⟩⟩⟩⟩) ?_ ?_
 intro _ _ a _ _ hq
 obtain ⟨_, o1, rfl, rfl, G⟩ := Mf hq
 replace G : Bq.r1 o s a = some o1 := G
 unfold Bq.r1 at G
 refine Y6.of rfl rfl (by kernel_rfl) fun w0 I ρ0 l hl => ?_
 show Ca _ ⟨w0, I, ρ0, 5, 5, 19, some l⟩ _ _ _
 refine Ak (Ce _ _ []) 5 13 Ba rfl rfl ?_
 refine Bl fun B => ?_
 refine pB B rfl rfl fun rb1 hrb1 B => ?_
 refine Aj <| Af <| Br (Ce _ _ []) (by kernel_rfl) [0, 1, 3, 7, 0, 31, 63, 0, 255, 511] 13 93 B rfl rfl (by kernel_rfl) ?_
 refine A5 ?_
 obtain ⟨e, he, G⟩ := Ab G
 refine A5 ?_
 refine Ei rfl rfl (D0 Cu (A9 (Bd _) (Ar he) (o := 0) (c := .int .u32 e) rfl rfl)) rfl rfl ?_
 refine A5 ?_
 refine Ei rfl rfl Ig rfl rfl ?_
 refine Bl fun B => ?_
 refine Cn rfl G (fun h6 G => ?_) fun h6 G => ?_
 refine Bk 93 101 B fun B => ?_
 refine Et ?_
 obtain rfl := oi_ G
 exact sZ (kQ 1 hrb1 [(0, 0), (1, 1), (2, 2), (3, 3), (4, 4)] rfl ⟨rfl, rfl⟩)
 refine Cp ?_
 obtain rfl := oi_ G
 exact lR (kQ 0 hrb1 [(0, 0), (1, 1), (2, 2), (3, 3), (4, 4)] rfl ⟨rfl, rfl⟩)
 intro _ _ B
 rcases oE G with ⟨hj, G⟩ | G
 refine oY hj ?_
 refine U0 ?_
 refine Bk 21 29 B fun B => ?_
 refine Et ?_
 obtain rfl := oi_ G
 exact Fe [(0, 0)] ⟨rfl, rfl⟩
 rcases oE G with ⟨hj, G⟩ | G
 refine sX hj ?_
 refine U0 ?_
 obtain rfl := oi_ G
 exact Fe [(0, 0)] ⟨rfl, rfl⟩
 cases G
theorem Ha (n : Int) (l : (List Aa)) (s : (List Int)) (r : Bool × Int) (G : Da n l s = some r) : Fn Tryd.prog 24 0 [vk n, .sl 2 (An Aa.enc l), .sl 1 (An eI s)] [] (fun d' b' => d' = .tup [.val (.bool r.1), vk r.2] /\ b' = []) := by
 unfold Da at G
 refine Fn.of Tryd.func24 rfl rfl rfl fun w0 I ρ0 => ?_
 show Ca _ ⟨w0, I, ρ0, 0, 0, 32, none⟩ _ _ _
 refine Bk 0 16 Ba fun B => ?_
 refine Cf 16 80 B ?_
 refine A5 ?_
 obtain ⟨y, hy, G⟩ := Ab G
 rcases y with ⟨_ | o, y_r⟩
 replace G := Nw G
 refine Dv (rd := []) (ps := []) (gs := []) false rfl (Dc _ _ _ hy) rfl rfl (.cons .val (.cons .sl .nil)) rfl rfl (by intro h; cases h) rfl (by intro h; first | (cases h; done) | exact ⟨_, _, ⟨rfl, rfl⟩, by simp, by simp⟩) ?_
 rintro _ _ ⟨rfl, rfl⟩
 refine Bl fun B => ?_
 refine Af <| Bk 80 96 B fun B => ?_
 refine Cn rfl G (fun h5 G => ?_) fun h5 G => ?_
 refine Cf 96 120 B ?_
 exact E7
 cases G
 replace G := N7 G
 refine Dv (rd := []) (ps := []) (gs := []) false rfl (Dc _ _ _ hy) rfl rfl (.cons .val (.cons .sl .nil)) rfl rfl (by intro h; cases h) rfl (by intro h; first | (cases h; done) | exact ⟨_, _, ⟨rfl, rfl⟩, by simp, by simp⟩) ?_
 rintro _ _ ⟨rfl, rfl⟩
 refine Bl fun B => ?_
 refine Af <| Bk 80 96 B fun B => ?_
 refine Cn rfl G (fun h8 G => ?_) fun h8 G => ?_
 refine Cf 96 120 B ?_
 exact E7
 refine Cp ?_
 refine Cf 96 160 B ?_
 refine A5 ?_
 obtain ⟨y_2, hy_2, G⟩ := Ab G
 refine Kg [32] [32] [] false (Gq _ _ _ hy_2) ?_
 refine Bl fun B => ?_
 refine Af <| Bk 160 176 B fun B => ?_
 refine Cn rfl G (fun h12 G => ?_) fun h12 G => ?_
 refine Cf 176 192 B ?_
 exact E7
 refine Cp ?_
 refine Cf 176 216 B ?_
 refine A5 ?_
 obtain ⟨y_3, hy_3, G⟩ := Ab G
 refine Kg [32] [32] [] false (Hf _ _ _ hy_3) ?_
 exact E7
theorem H1 (n : Int) (l : (List Aa)) (r : Int) (G : Ek n l = some r) : Fn Tryd.prog 14 0 [vk n, .sl 2 (An Aa.enc l)] [] (fun d' b' => d' = vk r /\ b' = []) := by
 unfold Ek at G
 refine Fn.of Tryd.func14 rfl rfl rfl fun w0 I ρ0 => ?_
 show Ca _ ⟨w0, I, ρ0, 0, 0, 14, none⟩ _ _ _
 refine Bk 0 8 Ba fun B => ?_
 refine Cf 8 72 B ?_
 refine A5 ?_
 obtain ⟨y, hy, G⟩ := Ab G
 rcases y with ⟨_ | o, y_r⟩
 replace G := Nw G
 refine Dv (rd := []) (ps := []) (gs := []) false rfl (Dc _ _ _ hy) rfl rfl (.cons .val (.cons .sl .nil)) rfl rfl (by intro h; cases h) rfl (by intro h; first | (cases h; done) | exact ⟨_, _, ⟨rfl, rfl⟩, by simp, by simp⟩) ?_
 rintro _ _ ⟨rfl, rfl⟩
 refine Bl fun B => ?_
 refine Bk 72 88 B fun B => ?_
 exact Ng
 replace G := N7 G
 refine Dv (rd := []) (ps := []) (gs := []) false rfl (Dc _ _ _ hy) rfl rfl (.cons .val (.cons .sl .nil)) rfl rfl (by intro h; cases h) rfl (by intro h; first | (cases h; done) | exact ⟨_, _, ⟨rfl, rfl⟩, by simp, by simp⟩) ?_
 rintro _ _ ⟨rfl, rfl⟩
 refine Bl fun B => ?_
 refine Bk 72 88 B fun B => ?_
 exact Ng
theorem D8  (r : Bool) (G : C5 = some r) : Fn Tryd.prog 9 0 [] [] (fun d' b' => d' = .val (.bool r) /\ b' = []) := by
 unfold C5 at G
 refine Fn.of Tryd.func9 rfl rfl rfl fun w0 I ρ0 => ?_
 show Ca _ ⟨w0, I, ρ0, 0, 0, 39, none⟩ _ _ _
 refine Bk 0 8 Ba fun B => ?_
 refine Cf 8 32 B ?_
 refine cG Mn Tt Uv ?_
 refine Pt Md Uv Vm ([(Aa.mk 0 1)] : List Aa) Aa.enc ?_
 refine Bl fun B => ?_
 refine Af <| It (σ' := mk [(1, .sl 2 (An Aa.enc ([(Aa.mk 0 1)] : List Aa)))] [] 0) (Ax []) ?_
 refine Ak (Ce _ _ []) 0 56 Ba rfl rfl ?_
 refine A5 ?_
 obtain ⟨y, hy, G⟩ := Ab G
 refine Dz (F0 _ _ _ hy) ?_
 refine Bl fun B => ?_
 refine Cf 56 120 B ?_
 refine A5 ?_
 refine Pt Ka z3 aE ([1] : List Int) eI ?_
 obtain ⟨y_2, hy_2, G⟩ := Ab G
 refine Kg [64] [] [] true (Ha _ _ _ _ hy_2) ?_
 refine Bl fun B => ?_
 refine Cf 120 288 B ?_
 refine A5 ?_
 rcases Gh G with ⟨h5, G⟩ | ⟨h5, G⟩
 refine A5 ?_
 rcases Gh G with ⟨h6, G⟩ | ⟨h6, G⟩
 refine A5 ?_
 rcases Gh G with ⟨h7, G⟩ | ⟨h7, G⟩
 refine A5 ?_
 rcases Gh G with ⟨h8, G⟩ | ⟨h8, G⟩
 refine A5 ?_
 obtain ⟨y_3, hy_3, G⟩ := Ab G
 refine Dz (H1 _ _ _ hy_3) ?_
 exact E7
 exact E7
 exact E7
 exact E7
 exact E7
theorem Jn (l : (List Int)) (r : Ai) (G : Gl l = some r) : Fn Tryd.prog 11 0 [.sl 1 (An eI l)] [] (fun d' b' => d' = .ptr 0 0 /\ b' = [.box [.sl 1 (An eI r.L), vk r.At] 61]) := by
 unfold Gl at G
 refine Fn.of Tryd.func11 rfl rfl rfl fun w0 I ρ0 => ?_
 show Ca _ ⟨w0, I, ρ0, 0, 0, 6, none⟩ _ _ _
 refine Bk 0 8 Ba fun B => ?_
 refine Cf 8 40 B ?_
 refine A5 ?_
 refine cG gC rE sQ ?_
 refine Bl fun B => ?_
 refine Et ?_
 obtain rfl := oi_ G
 exact Fe [(0, 24)] ⟨rfl, rfl⟩
theorem Ut (n : Int) (k : Int) (r : Int) (G : I8 n k = some r) : Fn Tryd.prog 26 0 [vk n, vk k] [] (fun d' b' => d' = vk r /\ b' = []) := by
 unfold I8 at G
 refine Fn.of Tryd.func26 rfl rfl rfl fun w0 I ρ0 => ?_
 show Ca _ ⟨w0, I, ρ0, 0, 0, 14, none⟩ _ _ _
 refine Bk 0 8 Ba fun B => ?_
 refine Af <| Bk 8 24 B fun B => ?_
 refine Cn rfl G (fun h3 G => ?_) fun h3 G => ?_
 refine Cf 24 32 B ?_
 exact E7
 refine Cp ?_
 refine Cf 24 88 B ?_
 refine A5 ?_
 obtain ⟨q, hq, G⟩ := Ab G
 refine Ei rfl rfl (lL hq) rfl rfl ?_
 refine A5 ?_
 obtain ⟨q_2, hq_2, G⟩ := Ab G
 refine Ei rfl rfl (lL hq_2) rfl rfl ?_
 exact E7
theorem Hp (d : Ai) (n : Int) (r : Int × Ai) (G : Ed d n = some r) : Fn Tryd.prog 38 1 [.ptr 0 0, vk n] [.box [.sl 1 (An eI d.L), vk d.At] 61] (fun d' b' => d' = vk r.1 /\ b' = [.box [.sl 1 (An eI r.2.L), vk r.2.At] 61]) := by
 unfold Ed at G
 refine Fn.of Tryd.func38 rfl rfl rfl fun w0 I ρ0 => ?_
 show Ca _ ⟨w0, I, ρ0, 1, 1, 35, none⟩ _ _ _
 refine Bk 1 9 Ba fun B => ?_
 refine Af <| Af <| Br (Ce _ _ []) (by kernel_rfl) [0, 1, 3, 7, 0, 16, 48, 112, 240, 511] 9 89 B rfl rfl (by kernel_rfl) ?_
 refine Bl fun B => ?_
 refine Cn rfl G (fun h3 G => ?_) fun h3 G => ?_
 refine Bk 89 97 B fun B => ?_
 refine Et ?_
 obtain rfl := oi_ G
 exact Fe [(0, 0)] ⟨rfl, rfl⟩
 refine Cp ?_
 refine Bk 89 153 B fun B => ?_
 refine Af <| Br (Ce _ _ []) (by kernel_rfl) [0, 1, 3, 7, 0, 16, 48, 112, 240, 511, 1023, 0, 4095, 8191] 153 265 B rfl rfl (by kernel_rfl) ?_
 refine A5 ?_
 obtain ⟨e, he, G⟩ := Ab G
 refine A5 ?_
 refine Ps he ?_
 refine A5 ?_
 obtain ⟨y, hy, G⟩ := Ab G
 refine Dz (Ut _ _ _ hy) ?_
 refine Bl fun B => ?_
 refine Et ?_
 obtain rfl := oi_ G
 exact Fe [(0, 0)] ⟨rfl, rfl⟩
theorem P0 (a : Aa) (b : Aa) (r : Bool) (G : Hi a b = some r) : Fn Tryd.prog 64 0 [.agg [vk a.First, vk a.Then], .agg [vk b.First, vk b.Then]] [] (fun d' b' => d' = .val (.bool r) /\ b' = []) := by
 unfold Hi at G
 refine Fn.of Tryd.func64 rfl rfl rfl fun w0 I ρ0 => ?_
 show Ca _ ⟨w0, I, ρ0, 0, 0, 20, none⟩ _ _ _
 refine Bk 0 24 Ba fun B => ?_
 refine Af <| Bk 24 64 B fun B => ?_
 refine Cn rfl G (fun h3 G => ?_) fun h3 G => ?_
 refine Cf 64 112 B ?_
 exact E7
 refine Cp ?_
 refine Bk 64 112 B fun B => ?_
 exact Ng
theorem R2 (l : (List Aa)) (r' : Aa) (r : (List Aa)) (G : B7 l r' = some r) : Fn Tryd.prog 41 0 [.sl 2 (An Aa.enc l), .agg [vk r'.First, vk r'.Then]] [] (fun d' b' => d' = .sl 2 (An Aa.enc r) /\ b' = []) := by
 unfold B7 at G
 refine Fn.of Tryd.func41 rfl rfl rfl fun w0 I ρ0 => ?_
 show Ca _ ⟨w0, I, ρ0, 0, 0, 47, none⟩ _ _ _
 refine Bk 0 16 Ba fun B => ?_
 refine Bk 16 24 B fun B => ?_
 refine Af <| Aj <| Fq (fun (at_1 : Int) => mk [(0, .sl 2 (An Aa.enc l)), (3, .ptr 0 0), (5, vk at_1)] [(0, .box [vk r'.First, vk r'.Then] 33)] 1) G (Ax [(0, 0)]) ?_
 rintro at_1 m1 o1 G hn1
 replace G : B7.l1 l r' at_1 = some o1 := G
 show Ca _ _ _ _ (mk _ _ _)
 unfold B7.l1 at G
 refine Af <| B0 (ι := Bool) (fun (x18_2 : Bool) => mk [(0, .sl 2 (An Aa.enc l)), (3, .ptr 0 0), (5, vk at_1), (18, .val (.bool x18_2))] [(0, .box [vk r'.First, vk r'.Then] 33)] 1) (fun (x18_2 : Bool) => B7.j2 l r' at_1 x18_2 = some o1) ?_ ?_
 refine Br (Ce _ _ []) (by kernel_rfl) [0, 0, 2, 7, 15, 31, 31, 127, 255, 31, 1023, 2047] 1 97 Ba rfl rfl (by kernel_rfl) ?_
 refine A5 ?_
 rcases Gh G with ⟨h3, G⟩ | ⟨h3, G⟩
 refine A5 ?_
 obtain ⟨e, he, G⟩ := Ab G
 refine A5 ?_
 refine Xt he ?_
 refine A5 ?_
 obtain ⟨y, hy, G⟩ := Ab G
 refine Dz (P0 _ _ _ hy) ?_
 refine Bl fun B => ?_
 exact ⟨y, G, Ax [(0, 0)]⟩
 refine Bl fun B => ?_
 exact ⟨false, G, Ax [(0, 0)]⟩
 rintro x18_2 G
 replace G : B7.j2 l r' at_1 x18_2 = some o1 := G
 show Ca _ _ _ _ (mk _ _ _)
 unfold B7.j2 at G
 refine Cn rfl G (fun h6 G => ?_) fun h6 G => ?_
 refine Cp ?_
 refine Aj <| Ak (Ce _ _ []) 1 25 Ba rfl rfl ?_
 refine Bl fun B => ?_
 obtain rfl := oi_ G
 exact ⟨(W (at_1 + 1), m1), Nat.lt_succ_self _, hn1, Ax [(0, 0)]⟩
 refine Fl ?_
 replace G := Bn G hn1
 refine Af <| B0 (ι := Bool) (fun (x32_3 : Bool) => mk [(0, .sl 2 (An Aa.enc l)), (3, .ptr 0 0), (5, vk at_1), (32, .val (.bool x32_3))] [(0, .box [vk r'.First, vk r'.Then] 33)] 1) (fun (x32_3 : Bool) => B7.j3 l r' at_1 x32_3 = some r) ?_ ?_
 refine Br (Ce _ _ []) (by kernel_rfl) [0, 0, 2, 7, 15, 31, 31, 127, 255, 31, 1023, 2047] 1 97 Ba rfl rfl (by kernel_rfl) ?_
 refine A5 ?_
 rcases Gh G with ⟨h8, G⟩ | ⟨h8, G⟩
 refine A5 ?_
 obtain ⟨e_2, he_2, G⟩ := Ab G
 refine A5 ?_
 refine Xt he_2 ?_
 refine A5 ?_
 refine Ei (Ea rfl rfl h8) rfl (Tv e_2 r') rfl rfl ?_
 refine Bl fun B => ?_
 exact ⟨decide (e_2 = r'), G, Ax [(0, 0)]⟩
 refine Bl fun B => ?_
 exact ⟨false, G, Ax [(0, 0)]⟩
 rintro x32_3 G
 replace G : B7.j3 l r' at_1 x32_3 = some r := G
 show Ca _ _ _ _ (mk _ _ _)
 unfold B7.j3 at G
 refine Cn rfl G (fun h11 G => ?_) fun h11 G => ?_
 refine Cf 1 17 Ba ?_
 exact E7
 refine Cp ?_
 refine Cf 1 41 Ba ?_
 refine A5 ?_
 obtain ⟨l_2, hl_2, G⟩ := Ab G
 refine Ei rfl rfl (Vu Md Aa.enc_len hl_2) rfl rfl ?_
 obtain ⟨l_3, hl_3, G⟩ := Ab G
 refine Ei rfl rfl (Dr Md Aa.enc_len .nil rfl .sl rfl hl_3 rfl) rfl rfl ?_
 refine Bl fun B => ?_
 refine Cf 41 81 B ?_
 refine A5 ?_
 refine Pt Md Uv Vm ([r'] : List Aa) Aa.enc ?_
 obtain ⟨l_4, hl_4, G⟩ := Ab G
 refine Ch (rd := [25, 57]) rfl rfl (Dr Md Aa.enc_len .row rfl .row rfl hl_4 rfl) rfl rfl ?_
 refine Bl fun B => ?_
 refine Cf 81 129 B ?_
 refine A5 ?_
 obtain ⟨l_5, hl_5, G⟩ := Ab G
 refine Ei rfl rfl (Vv Md Aa.enc_len hl_5) rfl rfl ?_
 obtain ⟨l_6, hl_6, G⟩ := Ab G
 refine Ch (rd := [65]) rfl rfl (Dr Md Aa.enc_len .row rfl .sl rfl hl_6 rfl) rfl rfl ?_
 exact E7
theorem Hy (a : (List Aa)) (b : (List Aa)) (r : (List Aa)) (G : B5 a b = some r) : Fn Tryd.prog 13 0 [.sl 2 (An Aa.enc a), .sl 2 (An Aa.enc b)] [] (fun d' b' => d' = .sl 2 (An Aa.enc r) /\ b' = []) := by
 unfold B5 at G
 refine Fn.of Tryd.func13 rfl rfl rfl fun w0 I ρ0 => ?_
 show Ca _ ⟨w0, I, ρ0, 0, 0, 31, none⟩ _ _ _
 refine Bk 0 8 Ba fun B => ?_
 refine Bk 8 16 B fun B => ?_
 refine Af <| Bk 16 40 B fun B => ?_
 refine Aj <| Fq (fun ((out_1, x12_1) : List Aa × Int) => mk [(1, .sl 2 (An Aa.enc b)), (5, .sl 2 (An Aa.enc out_1)), (10, .sl 2 (An Aa.enc a)), (11, .val (.int .i64 (a.length : Int))), (12, vk x12_1)] [] 0) G (Ax []) ?_
 rintro ⟨out_1, x12_1⟩ m1 o1 G hn1
 replace G : B5.l1 a b out_1 x12_1 = some o1 := G
 show Ca _ _ _ _ (mk _ _ _)
 unfold B5.l1 at G
 refine Bk 0 8 Ba fun B => ?_
 refine Af <| Cn rfl G (fun h5 G => ?_) fun h5 G => ?_
 refine Cp ?_
 refine Af <| Aj <| Cf 8 40 B ?_
 obtain ⟨e, he, G⟩ := Ab G
 refine A5 ?_
 refine Xt he ?_
 refine Bl fun B => ?_
 refine Ak (Ce _ _ []) 40 72 B rfl rfl ?_
 refine A5 ?_
 obtain ⟨y, hy, G⟩ := Ab G
 refine Dz (R2 _ _ _ hy) ?_
 refine Bl fun B => ?_
 refine Ak (Ce _ _ []) 72 88 B rfl rfl ?_
 refine Bl fun B => ?_
 obtain rfl := oi_ G
 exact ⟨((y, W (x12_1 + 1)), m1), Nat.lt_succ_self _, hn1, Ax []⟩
 refine Fl ?_
 replace G := Bn G hn1
 refine Af <| Bk 8 32 B fun B => ?_
 refine Aj <| Fq (fun ((out_2, x22_2) : List Aa × Int) => mk [(5, .sl 2 (An Aa.enc out_2)), (20, .sl 2 (An Aa.enc b)), (21, .val (.int .i64 (b.length : Int))), (22, vk x22_2)] [] 0) G (Ax []) ?_
 rintro ⟨out_2, x22_2⟩ m2 o2 G hn2
 replace G : B5.l2 b out_2 x22_2 = some o2 := G
 show Ca _ _ _ _ (mk _ _ _)
 unfold B5.l2 at G
 refine Bk 0 8 Ba fun B => ?_
 refine Af <| Cn rfl G (fun h11 G => ?_) fun h11 G => ?_
 refine Cp ?_
 refine Af <| Aj <| Cf 8 40 B ?_
 obtain ⟨e_2, he_2, G⟩ := Ab G
 refine A5 ?_
 refine Xt he_2 ?_
 refine Bl fun B => ?_
 refine Ak (Ce _ _ []) 40 72 B rfl rfl ?_
 refine A5 ?_
 obtain ⟨y_2, hy_2, G⟩ := Ab G
 refine Dz (R2 _ _ _ hy_2) ?_
 refine Bl fun B => ?_
 refine Ak (Ce _ _ []) 72 88 B rfl rfl ?_
 refine Bl fun B => ?_
 obtain rfl := oi_ G
 exact ⟨((y_2, W (x22_2 + 1)), m2), Nat.lt_succ_self _, hn2, Ax []⟩
 refine Fl ?_
 replace G := Bn G hn2
 refine Bk 8 24 B fun B => ?_
 exact Ng
theorem Iq (d : Ai) (n : Int) (r : (List Aa) × Ai) (G : B9 d n = some r) : Fn Tryd.prog 10 1 [.ptr 0 0, vk n] [.box [.sl 1 (An eI d.L), vk d.At] 61] (fun d' b' => d' = .sl 2 (An Aa.enc r.1) /\ b' = [.box [.sl 1 (An eI r.2.L), vk r.2.At] 61]) := by
 unfold B9 at G
 refine Fn.of Tryd.func10 rfl rfl rfl fun w0 I ρ0 => ?_
 show Ca _ ⟨w0, I, ρ0, 1, 1, 38, none⟩ _ _ _
 refine Bk 1 9 Ba fun B => ?_
 refine Bk 9 17 B fun B => ?_
 refine Af <| Cf 17 65 B ?_
 refine A5 ?_
 obtain ⟨y, hy, G⟩ := Ab G
 refine Kg [0] [0] [] false (Hp _ _ _ hy) ?_
 refine Bl fun B => ?_
 refine Aj <| Fq (fun ((l_1, k_1, d_1) : List Aa × Int × Ai) => mk [(0, .ptr 0 0), (1, vk n), (5, .sl 2 (An Aa.enc l_1)), (6, vk k_1)] [(0, .box [.sl 1 (An eI d_1.L), vk d_1.At] 61)] 1) G (Ax [(0, 0)]) ?_
 rintro ⟨l_1, k_1, d_1⟩ m1 o1 G hn1
 replace G : B9.l1 n l_1 k_1 d_1 = some o1 := G
 show Ca _ _ _ _ (mk _ _ _)
 unfold B9.l1 at G
 refine Af <| B0 (ι := Bool) (fun (x19_2 : Bool) => mk [(0, .ptr 0 0), (1, vk n), (5, .sl 2 (An Aa.enc l_1)), (6, vk k_1), (19, .val (.bool x19_2))] [(0, .box [.sl 1 (An eI d_1.L), vk d_1.At] 61)] 1) (fun (x19_2 : Bool) => B9.j2 n l_1 k_1 d_1 x19_2 = some o1) ?_ ?_
 refine Ak (Ce _ _ []) 1 49 Ba rfl rfl ?_
 refine A5 ?_
 rcases Gh G with ⟨h4, G⟩ | ⟨h4, G⟩
 refine Bl fun B => ?_
 exact ⟨decide (1 < n), G, Ax [(0, 0)]⟩
 refine Bl fun B => ?_
 exact ⟨false, G, Ax [(0, 0)]⟩
 rintro x19_2 G
 replace G : B9.j2 n l_1 k_1 d_1 x19_2 = some o1 := G
 show Ca _ _ _ _ (mk _ _ _)
 unfold B9.j2 at G
 refine Cn rfl G (fun h7 G => ?_) fun h7 G => ?_
 refine Cp ?_
 refine B0 (ι := List Aa × Ai) (fun ((l_3, d_3) : List Aa × Ai) => mk [(0, .ptr 0 0), (1, vk n), (5, .sl 2 (An Aa.enc l_3)), (6, vk k_1)] [(0, .box [.sl 1 (An eI d_3.L), vk d_3.At] 61)] 1) (fun ((l_3, d_3) : List Aa × Ai) => B9.j3 k_1 l_3 d_3 = some o1) ?_ ?_
 refine Aj <| Cf 1 65 Ba ?_
 refine A5 ?_
 obtain ⟨y_2, hy_2, G⟩ := Ab G
 refine Kg [0] [0] [] false (Hp _ _ _ hy_2) ?_
 refine A5 ?_
 obtain ⟨y_3, hy_3, G⟩ := Ab G
 refine Kg [0] [0] [] false (Hp _ _ _ hy_3) ?_
 refine Bl fun B => ?_
 refine Bk 65 89 B fun B => ?_
 refine Cn rfl G (fun h10 G => ?_) fun h10 G => ?_
 refine Ak (Ce _ _ [121]) 89 145 B rfl rfl ?_
 refine A5 ?_
 refine cG Mn Tt Uv ?_
 refine rC Md Uv Vm ([(Aa.mk y_2.1 y_3.1)] : List Aa) Aa.enc ?_
 obtain ⟨y_4, hy_4, G⟩ := Ab G
 refine Dz (Hy _ _ _ hy_4) ?_
 refine Bl fun B => ?_
 exact ⟨(y_4, y_3.2), G, Ax [(0, 0)]⟩
 refine Cp ?_
 exact ⟨(l_1, y_3.2), G, Ax [(0, 0)]⟩
 rintro ⟨l_3, d_3⟩ G
 replace G : B9.j3 k_1 l_3 d_3 = some o1 := G
 show Ca _ _ _ _ (mk _ _ _)
 unfold B9.j3 at G
 refine Ak (Ce _ _ []) 1 25 Ba rfl rfl ?_
 refine Bl fun B => ?_
 obtain rfl := oi_ G
 exact ⟨((l_3, W (k_1 - 1), d_3), m1), Nat.lt_succ_self _, hn1, Ax [(0, 0)]⟩
 refine Fl ?_
 replace G := Bn G hn1
 refine Bk 1 17 Ba fun B => ?_
 refine Et ?_
 obtain rfl := oi_ G
 exact Fe [(0, 0)] ⟨rfl, rfl⟩
theorem Lw (x21_1 : Int) (yield' : Int -> (Nat × (List Aa)) -> Option (Bool × (Nat × (List Aa)))) (c0 : Int) (q : (Nat × (List Aa))) (r : Int × (Nat × (List Aa))) (G : A1 yield' c0 q = some r) (rc : Loop) (hR : ∀ (x0 : Int) (q' : Nat × (List Aa)) (y' : Bool × (Nat × (List Aa))), yield' x0 q' = some y' -> Y6 Tryd.prog [8, 9] [.ptr 0 0, .ptr 1 0] 41 (Ft rc 0) 2 3 [vk x0] [.box [.row 3] 25, .box [vk x21_1] 3, .lop [8, 9] [.ptr 0 0, .ptr 1 0] 41 (Ft rc q'.1), .row 33 2 (An Aa.enc q'.2)] (fun b1 b2 => b1 = y'.1 /\ b2 = [.box [.row 3] 25, .box [vk x21_1] 3, .lop [8, 9] [.ptr 0 0, .ptr 1 0] 41 (Ft rc y'.2.1), .row 33 2 (An Aa.enc y'.2.2)])) : Y7 Tryd.prog 63 2 4 [.ptr 3 0] [.box [.row 4] 25, .box [vk x21_1] 3, .lop [8, 9] [.ptr 0 0, .ptr 1 0] 41 (Ft rc q.1), .box [.val (.int .u32 c0)] 68, .row 33 2 (An Aa.enc q.2)] (fun b' => b' = [.box [.row 4] 25, .box [vk x21_1] 3, .lop [8, 9] [.ptr 0 0, .ptr 1 0] 41 (Ft rc r.2.1), .box [.val (.int .u32 r.1)] 68, .row 33 2 (An Aa.enc r.2.2)]) := by
 unfold A1 at G
 refine Y7.of Tryd.func63 rfl rfl rfl rfl fun w0 I ρ0 l hl => ?_
 show Ca _ ⟨w0, I, ρ0, 4, 5, 16, none⟩ _ _ _
 refine Aj <| Fq (fun ((q_1, b_1) : (Nat × (List Aa)) × Int) => mk [(0, .val (.func (.yield l) #[] #[])), (1, .ptr 3 0)] [(0, .box [.row 4] 25), (1, .box [vk x21_1] 3), (2, .lop [8, 9] [.ptr 0 0, .ptr 1 0] 41 (Ft rc q_1.1)), (3, .box [.val (.int .u32 b_1)] 68), (4, .row 33 2 (An Aa.enc q_1.2))] 5) G (Ax [(0, 0), (1, 1), (2, 2), (3, 3), (4, 4)]) ?_
 rintro ⟨q_1, b_1⟩ m1 o1 G hn1
 replace G : A1.l1 yield' q_1 b_1 = some o1 := G
 show Ca _ _ _ _ (mk _ _ _)
 unfold A1.l1 at G
 refine Af <| Bk 5 21 Ba fun B => ?_
 refine Cn rfl G (fun h2 G => ?_) fun h2 G => ?_
 refine Cp ?_
 refine Aj <| Cf 21 45 B ?_
 refine A5 ?_
 obtain ⟨y, hy, G⟩ := Ab G
 refine Dz (Cq _ _ hy) ?_
 refine Bl fun B => ?_
 refine Af <| Br (Ce _ _ []) (by kernel_rfl) [0, 0, 2, 7, 15] 45 85 B rfl rfl (by kernel_rfl) ?_
 refine A5 ?_
 obtain ⟨q_2, hq_2, G⟩ := Ab G
 refine Ei rfl rfl (Hu hq_2) rfl rfl ?_
 refine Ei rfl rfl Ig rfl rfl ?_
 refine Bl fun B => ?_
 refine Af <| Ii ?_
 refine G6.chain (Ce _ _ []) 2 85 101 B rfl rfl ?_
 show Cs _ _ _ _ (idx 0 [_, _]) _ _ _
 refine A5 ?_
 refine Sh fun B => ?_
 obtain ⟨y_2, hy_2, G⟩ := Ab G
 refine pC 101 [0, 1, 2] [4] [0, 1, 2, 4] false B hl (hR _ _ _ hy_2) (.cons .val .nil) ⟨_, _, _, rfl, .head _, ⟨_, rfl, (by repeat' (first | exact Dw.nil | apply Dw.cons | exact Ag.val | exact Ag.sl | exact Ag.nils | exact Ag.ptr rfl | exact Ag.rowK rfl | exact Ag.elt))⟩, ⟨_, _, _, rfl, .tail _ (.head _), ⟨_, rfl, (by repeat' (first | exact Dw.nil | apply Dw.cons | exact Ag.val | exact Ag.sl | exact Ag.nils | exact Ag.ptr rfl | exact Ag.rowK rfl | exact Ag.elt))⟩, ⟨_, _, _, rfl, .tail _ (.tail _ (.head _)), ⟨_, rfl, (by repeat' (first | exact Dw.nil | apply Dw.cons | exact Ag.val | exact Ag.sl | exact Ag.nils | exact Ag.ptr rfl | exact Ag.rowK rfl | exact Ag.elt))⟩, ⟨_, _, _, rfl, .tail _ (.tail _ (.tail _ (.head _))), rfl, rfl⟩⟩⟩⟩ fun B => ?_
 refine G6.chain (Ce _ _ []) 1 109 117 B rfl rfl ?_
 show Cs _ _ _ _ (idx 0 [_]) _ _ _
 refine A5 ?_
 refine Sh fun B => ?_
 refine G6.fin ?_
 refine U0 ?_
 refine Cn rfl G (fun h8 G => ?_) fun h8 G => ?_
 refine J1 ?_
 refine U0 ?_
 replace G := Bn G hn1
 obtain rfl := oi_ G
 exact Fe [(0, 0), (1, 1), (2, 2), (3, 3), (4, 101)] ⟨rfl, rfl⟩
 refine Cp ?_
 obtain rfl := oi_ G
 exact ⟨((y_2.2, G4 .u32 b_1 q_2), m1), Nat.lt_succ_self _, hn1, Ax [(0, 0), (1, 1), (2, 2), (3, 3), (4, 101)]⟩
 refine Fl ?_
 replace G := Bn G hn1
 obtain rfl := oi_ G
 exact Fe [(0, 0), (1, 1), (2, 2), (3, 3), (4, 4)] ⟨rfl, rfl⟩
theorem M7 (n : Int) (l : (List Aa)) (r : (List Aa) × Int) (G : B4 n l = some r) : Fn Tryd.prog 12 0 [vk n, .sl 2 (An Aa.enc l)] [] (fun d' b' => d' = .tup [.sl 2 (An Aa.enc r.1), vk r.2] /\ b' = []) := by
 unfold B4 at G
 refine Fn.of Tryd.func12 rfl rfl rfl fun w0 I ρ0 => ?_
 show Ca _ ⟨w0, I, ρ0, 0, 0, 41, none⟩ _ _ _
 refine Bk 0 16 Ba fun B => ?_
 refine Cf 16 80 B ?_
 refine A5 ?_
 obtain ⟨y, hy, G⟩ := Ab G
 rcases y with ⟨_ | o, y_r⟩
 replace G := Nw G
 refine Dv (rd := []) (ps := []) (gs := []) false rfl (Dc _ _ _ hy) rfl rfl (.cons .val (.cons .sl .nil)) rfl rfl (by intro h; cases h) rfl (by intro h; first | (cases h; done) | exact ⟨_, _, ⟨rfl, rfl⟩, by simp, by simp⟩) ?_
 rintro _ _ ⟨rfl, rfl⟩
 refine Bl fun B => ?_
 refine Af <| Bk 80 96 B fun B => ?_
 refine Cn rfl G (fun h5 G => ?_) fun h5 G => ?_
 refine Cf 96 120 B ?_
 exact E7
 cases G
 replace G := N7 G
 refine Dv (rd := []) (ps := []) (gs := []) false rfl (Dc _ _ _ hy) rfl rfl (.cons .val (.cons .sl .nil)) rfl rfl (by intro h; cases h) rfl (by intro h; first | (cases h; done) | exact ⟨_, _, ⟨rfl, rfl⟩, by simp, by simp⟩) ?_
 rintro _ _ ⟨rfl, rfl⟩
 refine Bl fun B => ?_
 refine Af <| Bk 80 96 B fun B => ?_
 refine Cn rfl G (fun h8 G => ?_) fun h8 G => ?_
 refine Cf 96 120 B ?_
 exact E7
 refine Cp ?_
 refine Bk 96 104 B fun B => ?_
 refine Af <| Bk 104 120 B fun B => ?_
 refine Aj <| Fq (fun ((x21_1, l_1) : Int × List Aa) => mk [(6, .ptr 0 0), (8, .ptr 1 0), (20, vk n), (21, vk x21_1)] [(0, .box (Ap.dv o) 71), (1, .box [.row 2] 25), (2, .row 33 2 (An Aa.enc l_1))] 3) G (Ax [(0, 32), (1, 96)]) ?_
 rintro ⟨x21_1, l_1⟩ m1 o1 G hn1
 replace G : B4.l1 n o x21_1 l_1 = some o1 := G
 show Ca _ _ _ _ (mk _ _ _)
 unfold B4.l1 at G
 refine Bk 3 11 Ba fun B => ?_
 refine Af <| Cn rfl G (fun h13 G => ?_) fun h13 G => ?_
 refine Cp ?_
 refine Af <| Aj <| Bk 11 35 B fun B => ?_
 refine Af <| Br (Ce _ _ []) (by kernel_rfl) [0, 1, 3, 7, 0, 31, 63, 127] 35 99 B rfl rfl (by kernel_rfl) ?_
 refine A5 ?_
 obtain ⟨e, he, G⟩ := Ab G
 refine A5 ?_
 refine Ei rfl rfl (D0 Cu (A9 (Bd _) (Ar he) (o := 0) (c := .int .u32 e) rfl rfl)) rfl rfl ?_
 obtain ⟨y_2, hy_2, G⟩ := Ab G
 refine Dv (rd := []) (ps := []) (gs := []) false rfl (Fy _ _ hy_2) rfl rfl (.cons .val .nil) rfl rfl (by intro h; cases h) rfl (by intro h; first | (cases h; done) | exact ⟨_, _, ⟨rfl, rfl⟩, by simp, by simp⟩) ?_
 rintro _ _ ⟨rfl, rfl⟩
 refine Fc fun B => ?_
 refine Aj ?_
 obtain ⟨y_3, hy_3, G⟩ := Ab G
 refine It (σ' := mk [(6, .ptr 0 0), (8, .ptr 1 0), (9, .ptr 2 0), (20, vk n), (21, vk x21_1), (31, .clo 63 0 [.ptr 3 0])] [(0, .box (Ap.dv o) 71), (1, .box [.row 4] 25), (2, .box [vk x21_1] 3), (3, .box [.val (.int .u32 y_2)] 68), (4, .row 33 2 (An Aa.enc l_1))] 5) (Ax [(0, 0), (1, 1), (2, 19), (3, 91), (4, 2)]) ?_
 refine cC (c := y_3.2.1) (ts := [8, 9]) (ds := [.ptr 1 0, .ptr 2 0]) 5 [1, 2, 5, 3] [4] [1, 2, 5, 3, 4] false Ba (Lw x21_1 (fun a0' q' => Y5 (fun s' => B4.r2 x21_1 a0' s') q') y_2 (0, l_1) _ hy_3) (by repeat' first | exact trivial | refine And.intro rfl ?_) (fun _ _ => .cons (.ptr rfl) .nil) (fun _ _ => ⟨_, _, _, rfl, .head _, ⟨_, rfl, (by repeat' (first | exact Dw.nil | apply Dw.cons | exact Ag.val | exact Ag.sl | exact Ag.nils | exact Ag.ptr rfl | exact Ag.rowK rfl | exact Ag.elt))⟩, ⟨_, _, _, rfl, .tail _ (.head _), ⟨_, rfl, (by repeat' (first | exact Dw.nil | apply Dw.cons | exact Ag.val | exact Ag.sl | exact Ag.nils | exact Ag.ptr rfl | exact Ag.rowK rfl | exact Ag.elt))⟩, ⟨_, _, _, rfl, .tail _ (.tail _ (.head _)), ⟨_, rfl, (by repeat' (first | exact Dw.nil | apply Dw.cons | exact Ag.val | exact Ag.sl | exact Ag.nils | exact Ag.ptr rfl | exact Ag.rowK rfl | exact Ag.elt))⟩, ⟨_, _, _, rfl, .tail _ (.tail _ (.tail _ (.head _))), ⟨_, rfl, (by repeat' (first | exact Dw.nil | apply Dw.cons | exact Ag.val | exact Ag.sl | exact Ag.nils | exact Ag.ptr rfl | exact Ag.rowK rfl | exact Ag.elt))⟩, ⟨_, _, _, rfl, .tail _ (.tail _ (.tail _ (.tail _ (.head _)))), rfl, rfl⟩⟩⟩⟩⟩) ?_ ?_
 intro _ _ a _ _ hq
 obtain ⟨l_2, o2, rfl, rfl, G⟩ := Mf hq
 replace G : B4.r2 x21_1 a l_2 = some o2 := G
 unfold B4.r2 at G
 refine Y6.of rfl rfl (by kernel_rfl) fun w0 I ρ0 l hl => ?_
 show Ca _ ⟨w0, I, ρ0, 3, 4, 41, some l⟩ _ _ _
 refine Ak (Ce _ _ []) 4 12 Ba rfl rfl ?_
 refine Bl fun B => ?_
 refine pB B rfl rfl fun rb2 hrb2 B => ?_
 refine Aj <| Ak (Ce _ _ []) 12 68 B rfl rfl ?_
 refine A5 ?_
 refine cG Mn Tt Uv ?_
 refine Pt Md Uv Vm ([(Aa.mk x21_1 a)] : List Aa) Aa.enc ?_
 obtain ⟨l_3, hl_3, G⟩ := Ab G
 refine Ch (rd := [3, 44]) rfl rfl (Dr Md Aa.enc_len .row rfl .row rfl hl_3 rfl) rfl rfl ?_
 refine Bl fun B => ?_
 obtain rfl := oi_ G
 exact lR (kQ 0 hrb2 [(0, 0), (1, 1), (2, 2), (3, 52)] rfl ⟨rfl, rfl⟩)
 intro _ _ B
 rcases oE G with ⟨hj, G⟩ | G
 refine oY hj ?_
 refine U0 ?_
 refine Ak (Ce _ _ []) 21 37 B rfl rfl ?_
 refine Bl fun B => ?_
 obtain rfl := oi_ G
 exact ⟨((W (x21_1 + 1), y_3.2.2), m1), Nat.lt_succ_self _, hn1, Ax [(0, 0), (1, 1), (2, 13)]⟩
 cases G
 refine Fl ?_
 replace G := Bn G hn1
 refine Bk 11 35 B fun B => ?_
 exact Ng
theorem J5 (n : Int) (l : (List Aa)) (r : (List (List Bool))) (G : A7 n l = some r) : Fn Tryd.prog 55 0 [vk n, .sl 2 (An Aa.enc l)] [] (fun d' b' => d' = .sl 1 (An (eL 1 eB) r) /\ b' = []) := by
 unfold A7 at G
 refine Fn.of Tryd.func55 rfl rfl rfl fun w0 I ρ0 => ?_
 show Ca _ ⟨w0, I, ρ0, 0, 0, 73, none⟩ _ _ _
 refine Bk 0 8 Ba fun B => ?_
 refine Bk 8 16 B fun B => ?_
 refine Af <| Af <| It (σ' := mk [(0, vk n), (1, .sl 2 (An Aa.enc l)), (5, .val (.slice none 0 0))] [] 0) (Ax []) ?_
 refine It (rZ 5 89 1 0 4 1 (An (eL 1 eB) ([] : List (List Bool))) rfl rfl (by decide)) ?_
 refine Ak (Ce _ _ []) 2 18 Ba rfl rfl ?_
 refine Bl fun B => ?_
 refine Aj <| Fq (fun ((x12_2, out_2) : Int × List (List Bool)) => mk [(0, vk n), (1, .sl 2 (An Aa.enc l)), (5, .row 0), (11, vk n), (12, vk x12_2)] [(0, .tree 89 1 0 4 1 1 none (An (eL 1 eB) out_2)), (1, .gho)] 2) G (Ax [(0, 0), (1, 1)]) ?_
 rintro ⟨x12_2, out_2⟩ m2 o2 G hn2
 replace G : A7.l2 n l x12_2 out_2 = some o2 := G
 show Ca _ _ _ _ (mk _ _ _)
 unfold A7.l2 at G
 refine Bk 2 10 Ba fun B => ?_
 refine Af <| Cn rfl G (fun h5 G => ?_) fun h5 G => ?_
 refine Cp ?_
 refine Af <| Aj <| Ak (Ce _ _ []) 10 58 B rfl rfl ?_
 refine A5 ?_
 obtain ⟨m, hm, G⟩ := Ab G
 refine Ei rfl rfl (Ue (f := eB) cV z4 sW (.cons .bool .nil) rfl hm rfl) rfl rfl ?_
 refine Yp (rd := [26]) rfl rfl (gP (o := 0) (r := [.row 26]) (pre := []) (post := []) (ck1 := []) (ck2 := []) (cs1 := An (eL 1 eB) ([m] : List (List Bool))) Zx sM (by decide) (by kernel_rfl) rfl rfl rfl .nil .nil (List.Mem.head _) rfl rfl) rfl rfl (fun _ => ⟨_, rfl⟩) ?_
 rintro _ rfl
 obtain ⟨l_2, hl_2, G⟩ := Ab G
 refine Yp (rd := [0, 34]) rfl rfl (oO Zx (Dj _ _) (List.Mem.head _) (List.Mem.tail _ (List.Mem.head _)) rfl hl_2 rfl rfl rfl) rfl rfl (fun _ => ⟨_, rfl⟩) ?_
 rintro _ rfl
 refine Bl fun B => ?_
 refine Ak (Ce _ _ []) 58 74 B rfl rfl ?_
 refine Bl fun B => ?_
 obtain rfl := oi_ G
 exact ⟨((W (x12_2 + 1), l_2), m2), Nat.lt_succ_self _, hn2, Ax [(0, 42), (1, 43)]⟩
 refine Fl ?_
 replace G := Bn G hn2
 refine Af <| Bk 10 34 B fun B => ?_
 refine Aj <| Fq (fun ((x22_3, out_3) : Int × List (List Bool)) => mk [(0, vk n), (5, .row 0), (20, .sl 2 (An Aa.enc l)), (21, .val (.int .i64 (l.length : Int))), (22, vk x22_3)] [(0, .tree 89 1 0 4 1 1 none (An (eL 1 eB) out_3)), (1, .gho)] 2) G (Ax [(0, 0), (1, 1)]) ?_
 rintro ⟨x22_3, out_3⟩ m3 o3 G hn3
 replace G : A7.l3 n l x22_3 out_3 = some o3 := G
 show Ca _ _ _ _ (mk _ _ _)
 unfold A7.l3 at G
 refine Bk 2 10 Ba fun B => ?_
 refine Af <| Cn rfl G (fun h10 G => ?_) fun h10 G => ?_
 refine Cp ?_
 refine Af <| Aj <| Cf 10 42 B ?_
 obtain ⟨e, he, G⟩ := Ab G
 refine A5 ?_
 refine Xt he ?_
 refine Bl fun B => ?_
 refine Br (Ce _ _ []) (by kernel_rfl) [0, 0, 2, 7, 15, 0, 32, 127, 255] 42 114 B rfl rfl (by kernel_rfl) ?_
 refine A5 ?_
 obtain ⟨e_2, he_2, G⟩ := Ab G
 refine Ch (rd := [0]) rfl rfl (.idxT Zx (Iv he_2) (Ju (Dj _ _) (Ar he_2))) rfl rfl ?_
 refine Ch (rd := [0]) rfl rfl (.loadTN Wz (by decide) rfl Je (Ud (Dj _ _) (Ar he_2) (o := 0) (by decide) rfl)) rfl rfl ?_
 refine A5 ?_
 obtain ⟨e_3, he_3, G⟩ := Ab G
 refine Ch (rd := [0]) rfl rfl (.idxN cV (A9 (Dj _ _) (Ar he_2) (o := 0) (c := .sl 1 (An eB e_2)) rfl rfl) Je (Iv he_3) (Ju Kk (Ar he_3))) rfl rfl ?_
 refine Yp (rd := [0, 1]) rfl rfl (Ym pS (A9 (Dj _ _) (Ar he_2) (o := 0) (c := .sl 1 (An eB e_2)) rfl rfl) rfl (Bu Kk (Ar he_3) (o := 0) (m := 1) (by decide) rfl) (ck := [none]) (cs' := [.bool true]) (.cons .bool .nil) (List.Mem.head _) (Cd Kk (Ar he_3) (o := 0) (x' := true) (Nat.le_of_ble_eq_true rfl) rfl rfl) (bA (Dj _ _) (Ar he_2) (o := 0) (x' := (Cg e_2 ((e.Then).toNat) true)) (by decide) rfl rfl)) rfl rfl (fun _ => ⟨_, rfl⟩) ?_
 rintro _ rfl
 refine Fc fun B => ?_
 refine Ak (Ce _ _ []) 114 130 B rfl rfl ?_
 refine Bl fun B => ?_
 obtain rfl := oi_ G
 exact ⟨((W (x22_3 + 1), Cg out_3 ((e.First).toNat) (Cg e_2 ((e.Then).toNat) true)), m3), Nat.lt_succ_self _, hn3, Ax [(0, 0), (1, 1)]⟩
 refine Fl ?_
 replace G := Bn G hn3
 refine Af <| Bk 10 26 B fun B => ?_
 refine Aj <| Fq (fun ((x36_4, out_4) : Int × List (List Bool)) => mk [(0, vk n), (5, .row 0), (35, vk n), (36, vk x36_4)] [(0, .tree 89 1 0 4 1 1 none (An (eL 1 eB) out_4)), (1, .gho)] 2) G (Ax [(0, 0), (1, 1)]) ?_
 rintro ⟨x36_4, out_4⟩ m4 o4 G hn4
 replace G : A7.l4 n x36_4 out_4 = some o4 := G
 show Ca _ _ _ _ (mk _ _ _)
 unfold A7.l4 at G
 refine Bk 2 10 Ba fun B => ?_
 refine Af <| Cn rfl G (fun h16 G => ?_) fun h16 G => ?_
 refine Cp ?_
 refine Af <| Aj <| Bk 10 26 B fun B => ?_
 refine Bk 26 42 B fun B => ?_
 refine Aj <| Fq (fun ((x40_5, out_5) : Int × List (List Bool)) => mk [(0, vk n), (5, .row 0), (8, vk x36_4), (35, vk n), (36, vk x36_4), (39, vk n), (40, vk x40_5)] [(0, .tree 89 1 0 4 1 1 none (An (eL 1 eB) out_5)), (1, .gho)] 2) G (Ax [(0, 0), (1, 1)]) ?_
 rintro ⟨x40_5, out_5⟩ m5 o5 G hn5
 replace G : A7.l5 n x36_4 x40_5 out_5 = some o5 := G
 show Ca _ _ _ _ (mk _ _ _)
 unfold A7.l5 at G
 refine Bk 2 10 Ba fun B => ?_
 refine Af <| Cn rfl G (fun h20 G => ?_) fun h20 G => ?_
 refine Cp ?_
 refine Af <| Aj <| Bk 10 26 B fun B => ?_
 refine Bk 26 42 B fun B => ?_
 refine Aj <| Fq (fun ((x44_6, out_6) : Int × List (List Bool)) => mk [(0, vk n), (5, .row 0), (8, vk x36_4), (9, vk x40_5), (35, vk n), (36, vk x36_4), (39, vk n), (40, vk x40_5), (43, vk n), (44, vk x44_6)] [(0, .tree 89 1 0 4 1 1 none (An (eL 1 eB) out_6)), (1, .gho)] 2) G (Ax [(0, 0), (1, 1)]) ?_
 rintro ⟨x44_6, out_6⟩ m6 o6 G hn6
 replace G : A7.l6 n x36_4 x40_5 x44_6 out_6 = some o6 := G
 show Ca _ _ _ _ (mk _ _ _)
 unfold A7.l6 at G
 refine Bk 2 10 Ba fun B => ?_
 refine Af <| Cn rfl G (fun h24 G => ?_) fun h24 G => ?_
 refine Cp ?_
 refine B0 (ι := List (List Bool)) (fun (out_8 : List (List Bool)) => mk [(0, vk n), (5, .row 0), (8, vk x36_4), (9, vk x40_5), (35, vk n), (36, vk x36_4), (39, vk n), (40, vk x40_5), (43, vk n), (44, vk x44_6)] [(0, .tree 89 1 0 4 1 1 none (An (eL 1 eB) out_8)), (1, .gho)] 2) (fun (out_8 : List (List Bool)) => A7.j8 x44_6 out_8 = some o6) ?_ ?_
 refine Aj <| Bk 10 26 B fun B => ?_
 refine B0 (ι := Bool) (fun (x62_7 : Bool) => mk [(0, vk n), (5, .row 0), (8, vk x36_4), (9, vk x40_5), (10, vk x44_6), (35, vk n), (36, vk x36_4), (39, vk n), (40, vk x40_5), (43, vk n), (44, vk x44_6), (62, .val (.bool x62_7))] [(0, .tree 89 1 0 4 1 1 none (An (eL 1 eB) out_6)), (1, .gho)] 2) (fun (x62_7 : Bool) => A7.j7 x40_5 x44_6 out_6 x62_7 = some o6) ?_ ?_
 refine Ak (Ce _ _ []) 26 154 B rfl rfl ?_
 refine A5 ?_
 obtain ⟨e_4, he_4, G⟩ := Ab G
 refine Ch (rd := [0]) rfl rfl (.idxT Zx (Iv he_4) (Ju (Dj _ _) (Ar he_4))) rfl rfl ?_
 refine Ch (rd := [0]) rfl rfl (.loadTN Wz (by decide) rfl Je (Ud (Dj _ _) (Ar he_4) (o := 0) (by decide) rfl)) rfl rfl ?_
 refine A5 ?_
 obtain ⟨e_5, he_5, G⟩ := Ab G
 refine Ch (rd := [0]) rfl rfl (.idxN cV (A9 (Dj _ _) (Ar he_4) (o := 0) (c := .sl 1 (An eB e_4)) rfl rfl) Je (Iv he_5) (Ju Kk (Ar he_5))) rfl rfl ?_
 refine Ch (rd := [0]) rfl rfl (.loadN1 pS (A9 (Dj _ _) (Ar he_4) (o := 0) (c := .sl 1 (An eB e_4)) rfl rfl) Je (A9 Kk (Ar he_5) (o := 0) (c := .bool e_5) rfl rfl)) rfl rfl ?_
 refine A5 ?_
 rcases Gh G with ⟨h26, G⟩ | ⟨h26, G⟩
 refine A5 ?_
 obtain ⟨e_6, he_6, G⟩ := Ab G
 refine Ch (rd := [0]) (Ea rfl rfl h26) rfl (.idxT Zx (Iv he_6) (Ju (Dj _ _) (Ar he_6))) rfl rfl ?_
 refine Ch (rd := [0]) (Ea rfl rfl h26) rfl (.loadTN Wz (by decide) rfl Je (Ud (Dj _ _) (Ar he_6) (o := 0) (by decide) rfl)) rfl rfl ?_
 refine A5 ?_
 obtain ⟨e_7, he_7, G⟩ := Ab G
 refine Ch (rd := [0]) (Ea rfl rfl h26) rfl (.idxN cV (A9 (Dj _ _) (Ar he_6) (o := 0) (c := .sl 1 (An eB e_6)) rfl rfl) Je (Iv he_7) (Ju Kk (Ar he_7))) rfl rfl ?_
 refine Ch (rd := [0]) (Ea rfl rfl h26) rfl (.loadN1 pS (A9 (Dj _ _) (Ar he_6) (o := 0) (c := .sl 1 (An eB e_6)) rfl rfl) Je (A9 Kk (Ar he_7) (o := 0) (c := .bool e_7) rfl rfl)) rfl rfl ?_
 refine Bl fun B => ?_
 exact ⟨e_7, G, Ax [(0, 0), (1, 1)]⟩
 refine Bl fun B => ?_
 exact ⟨false, G, Ax [(0, 0), (1, 1)]⟩
 rintro x62_7 G
 replace G : A7.j7 x40_5 x44_6 out_6 x62_7 = some o6 := G
 show Ca _ _ _ _ (mk _ _ _)
 unfold A7.j7 at G
 refine Cn rfl G (fun h29 G => ?_) fun h29 G => ?_
 refine Ak (Ce _ _ []) 2 58 Ba rfl rfl ?_
 refine A5 ?_
 obtain ⟨e_8, he_8, G⟩ := Ab G
 refine Ch (rd := [0]) rfl rfl (.idxT Zx (Iv he_8) (Ju (Dj _ _) (Ar he_8))) rfl rfl ?_
 refine Ch (rd := [0]) rfl rfl (.loadTN Wz (by decide) rfl Je (Ud (Dj _ _) (Ar he_8) (o := 0) (by decide) rfl)) rfl rfl ?_
 refine A5 ?_
 obtain ⟨e_9, he_9, G⟩ := Ab G
 refine Ch (rd := [0]) rfl rfl (.idxN cV (A9 (Dj _ _) (Ar he_8) (o := 0) (c := .sl 1 (An eB e_8)) rfl rfl) Je (Iv he_9) (Ju Kk (Ar he_9))) rfl rfl ?_
 refine Yp (rd := [0, 1]) rfl rfl (Ym pS (A9 (Dj _ _) (Ar he_8) (o := 0) (c := .sl 1 (An eB e_8)) rfl rfl) rfl (Bu Kk (Ar he_9) (o := 0) (m := 1) (by decide) rfl) (ck := [none]) (cs' := [.bool true]) (.cons .bool .nil) (List.Mem.head _) (Cd Kk (Ar he_9) (o := 0) (x' := true) (Nat.le_of_ble_eq_true rfl) rfl rfl) (bA (Dj _ _) (Ar he_8) (o := 0) (x' := (Cg e_8 ((x44_6).toNat) true)) (by decide) rfl rfl)) rfl rfl (fun _ => ⟨_, rfl⟩) ?_
 rintro _ rfl
 refine Fc fun B => ?_
 exact ⟨Cg out_6 ((x40_5).toNat) (Cg e_8 ((x44_6).toNat) true), G, Ax [(0, 0), (1, 1)]⟩
 refine Cp ?_
 exact ⟨out_6, G, Ax [(0, 0), (1, 1)]⟩
 rintro out_8 G
 replace G : A7.j8 x44_6 out_8 = some o6 := G
 show Ca _ _ _ _ (mk _ _ _)
 unfold A7.j8 at G
 refine Ak (Ce _ _ []) 2 18 Ba rfl rfl ?_
 refine Bl fun B => ?_
 obtain rfl := oi_ G
 exact ⟨((W (x44_6 + 1), out_8), m6), Nat.lt_succ_self _, hn6, Ax [(0, 0), (1, 1)]⟩
 refine Fl ?_
 replace G := Bn G hn6
 refine Ak (Ce _ _ []) 10 26 B rfl rfl ?_
 refine Bl fun B => ?_
 obtain rfl := oi_ G
 exact ⟨((W (x40_5 + 1), out_6), m5), Nat.lt_succ_self _, hn5, Ax [(0, 0), (1, 1)]⟩
 refine Fl ?_
 replace G := Bn G hn5
 refine Ak (Ce _ _ []) 10 26 B rfl rfl ?_
 refine Bl fun B => ?_
 obtain rfl := oi_ G
 exact ⟨((W (x36_4 + 1), out_5), m4), Nat.lt_succ_self _, hn4, Ax [(0, 0), (1, 1)]⟩
 refine Fl ?_
 replace G := Bn G hn4
 refine Bk 10 26 B fun B => ?_
 exact Ng
theorem Vc (n : Int) (l : (List Aa)) (r : Int) (G : Bf n l = some r) : Fn Tryd.prog 69 0 [vk n, .sl 2 (An Aa.enc l)] [] (fun d' b' => d' = vk r /\ b' = []) := by
 unfold Bf at G
 refine Fn.of Tryd.func69 rfl rfl rfl fun w0 I ρ0 => ?_
 show Ca _ ⟨w0, I, ρ0, 0, 0, 82, none⟩ _ _ _
 refine Bk 0 8 Ba fun B => ?_
 refine Af <| B0 (ι := Bool) (fun (x15_1 : Bool) => mk [(0, vk n), (1, .sl 2 (An Aa.enc l)), (15, .val (.bool x15_1))] [] 0) (fun (x15_1 : Bool) => Bf.j1 n l x15_1 = some r) ?_ ?_
 refine Ak (Ce _ _ []) 8 56 B rfl rfl ?_
 refine A5 ?_
 rcases Gh G with ⟨h2, G⟩ | ⟨h2, G⟩
 refine Bl fun B => ?_
 exact ⟨true, G, Ax []⟩
 refine Bl fun B => ?_
 exact ⟨decide (24 < n), G, Ax []⟩
 rintro x15_1 G
 replace G : Bf.j1 n l x15_1 = some r := G
 show Ca _ _ _ _ (mk _ _ _)
 unfold Bf.j1 at G
 refine Cn rfl G (fun h5 G => ?_) fun h5 G => ?_
 refine Cf 0 8 Ba ?_
 exact E7
 refine Cp ?_
 refine Af <| Bk 0 24 Ba fun B => ?_
 refine Aj <| Fq (fun (x18_2 : Int) => mk [(0, vk n), (1, .sl 2 (An Aa.enc l)), (16, .sl 2 (An Aa.enc l)), (17, .val (.int .i64 (l.length : Int))), (18, vk x18_2)] [] 0) G (Ax []) ?_
 rintro x18_2 m2 o2 G hn2
 replace G : Bf.l2 n l x18_2 = some o2 := G
 show Ca _ _ _ _ (mk _ _ _)
 unfold Bf.l2 at G
 refine Bk 0 8 Ba fun B => ?_
 refine Af <| Cn rfl G (fun h9 G => ?_) fun h9 G => ?_
 refine Cp ?_
 refine Af <| Aj <| Cf 8 40 B ?_
 obtain ⟨e, he, G⟩ := Ab G
 refine A5 ?_
 refine Xt he ?_
 refine Bl fun B => ?_
 refine B0 (ι := Bool) (fun (x48_3 : Bool) => mk [(0, vk n), (1, .sl 2 (An Aa.enc l)), (16, .sl 2 (An Aa.enc l)), (17, .val (.int .i64 (l.length : Int))), (18, vk x18_2), (48, .val (.bool x48_3))] [] 0) (fun (x48_3 : Bool) => Bf.j3 x18_2 x48_3 = some o2) ?_ ?_
 refine Ak (Ce _ _ []) 40 256 B rfl rfl ?_
 refine A5 ?_
 rcases Gh G with ⟨h11, G⟩ | ⟨h11, G⟩
 refine Bl fun B => ?_
 exact ⟨true, G, Ax []⟩
 refine A5 ?_
 rcases Gh G with ⟨h13, G⟩ | ⟨h13, G⟩
 refine Bl fun B => ?_
 exact ⟨true, G, Ax []⟩
 refine A5 ?_
 rcases Gh G with ⟨h15, G⟩ | ⟨h15, G⟩
 refine Bl fun B => ?_
 exact ⟨true, G, Ax []⟩
 refine A5 ?_
 rcases Gh G with ⟨h17, G⟩ | ⟨h17, G⟩
 refine Bl fun B => ?_
 exact ⟨true, G, Ax []⟩
 refine Bl fun B => ?_
 exact ⟨decide (e.First = e.Then), G, Ax []⟩
 rintro x48_3 G
 replace G : Bf.j3 x18_2 x48_3 = some o2 := G
 show Ca _ _ _ _ (mk _ _ _)
 unfold Bf.j3 at G
 refine Cn rfl G (fun h20 G => ?_) fun h20 G => ?_
 refine Bk 0 8 Ba fun B => ?_
 refine Et ?_
 replace G := Bn G hn2
 exact Q2
 refine Cp ?_
 refine Ak (Ce _ _ []) 0 16 Ba rfl rfl ?_
 refine Bl fun B => ?_
 obtain rfl := oi_ G
 exact ⟨(W (x18_2 + 1), m2), Nat.lt_succ_self _, hn2, Ax []⟩
 refine Fl ?_
 replace G := Bn G hn2
 refine Af <| Bk 8 16 B fun B => ?_
 refine Aj <| Fq (fun (i_4 : Int) => mk [(0, vk n), (1, .sl 2 (An Aa.enc l)), (7, vk i_4)] [] 0) G (Ax []) ?_
 rintro i_4 m4 o4 G hn4
 replace G : Bf.l4 n l i_4 = some o4 := G
 show Ca _ _ _ _ (mk _ _ _)
 unfold Bf.l4 at G
 refine Af <| Bk 0 32 Ba fun B => ?_
 refine Cn rfl G (fun h25 G => ?_) fun h25 G => ?_
 refine Cp ?_
 refine Af <| Aj <| Af <| Br (Ce _ _ []) (by kernel_rfl) [0, 0, 2, 7, 15, 0, 0, 96, 224, 511, 1023] 32 120 B rfl rfl (by kernel_rfl) ?_
 refine A5 ?_
 obtain ⟨e_2, he_2, G⟩ := Ab G
 refine A5 ?_
 refine Xt he_2 ?_
 refine A5 ?_
 obtain ⟨e_3, he_3, G⟩ := Ab G
 refine A5 ?_
 refine Xt he_3 ?_
 obtain ⟨y, hy, G⟩ := Ab G
 refine Dz (P0 _ _ _ hy) ?_
 refine Bl fun B => ?_
 refine Cn rfl G (fun h27 G => ?_) fun h27 G => ?_
 refine Bk 120 128 B fun B => ?_
 refine Et ?_
 replace G := Bn G hn4
 exact Q2
 refine Cp ?_
 refine Ak (Ce _ _ []) 120 144 B rfl rfl ?_
 refine Bl fun B => ?_
 obtain rfl := oi_ G
 exact ⟨(W (i_4 + 1), m4), Nat.lt_succ_self _, hn4, Ax []⟩
 refine Fl ?_
 replace G := Bn G hn4
 refine Cf 32 64 B ?_
 refine A5 ?_
 obtain ⟨y_2, hy_2, G⟩ := Ab G
 refine Dz (J5 _ _ _ hy_2) ?_
 refine Bl fun B => ?_
 refine Af <| Bk 64 80 B fun B => ?_
 refine Aj <| Fq (fun (x71_5 : Int) => mk [(8, .sl 1 (An (eL 1 eB) y_2)), (70, vk n), (71, vk x71_5)] [] 0) G (Ax []) ?_
 rintro x71_5 m5 o5 G hn5
 replace G : Bf.l5 n y_2 x71_5 = some o5 := G
 show Ca _ _ _ _ (mk _ _ _)
 unfold Bf.l5 at G
 refine Bk 0 8 Ba fun B => ?_
 refine Af <| Cn rfl G (fun h33 G => ?_) fun h33 G => ?_
 refine Cp ?_
 refine Af <| Aj <| Bk 8 24 B fun B => ?_
 refine Cf 24 80 B ?_
 refine A5 ?_
 obtain ⟨e_4, he_4, G⟩ := Ab G
 refine A5 ?_
 refine Ei rfl rfl (D0 Wz (A9 (Dj _ _) (Ar he_4) (o := 0) (c := .sl 1 (An eB e_4)) rfl rfl)) rfl rfl ?_
 refine A5 ?_
 obtain ⟨e_5, he_5, G⟩ := Ab G
 refine A5 ?_
 refine Ps he_5 ?_
 refine Fc fun B => ?_
 refine Cn rfl G (fun h36 G => ?_) fun h36 G => ?_
 refine Bk 80 88 B fun B => ?_
 refine Et ?_
 replace G := Bn G hn5
 exact Q2
 refine Cp ?_
 refine Ak (Ce _ _ []) 80 96 B rfl rfl ?_
 refine Bl fun B => ?_
 obtain rfl := oi_ G
 exact ⟨(W (x71_5 + 1), m5), Nat.lt_succ_self _, hn5, Ax []⟩
 refine Fl ?_
 replace G := Bn G hn5
 refine Bk 8 16 B fun B => ?_
 exact Ng
end Go.Proofs.YtopkgllcjbpdeaaDoor
