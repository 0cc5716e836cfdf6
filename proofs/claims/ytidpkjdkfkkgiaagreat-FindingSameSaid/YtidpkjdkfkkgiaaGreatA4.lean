import Derived.Test.YtidpkjdkfkkgiaaGreatT1
import Derived.Test.YtidpkjdkfkkgiaaGreatA2
import Derived.Test.YtidpkjdkfkkgiaaGreatA3
set_option linter.unusedVariables false
set_option linter.unusedSimpArgs false
set_option maxRecDepth 100000
set_option maxHeartbeats 1600000
namespace Go.Proofs.YtidpkjdkfkkgiaaGreat
open Go.RowKit
theorem Hp (data : List Aa) (a : Int) (b : Int) (cmp : Aa -> Aa -> Option (Int)) (hf_cmp : ∀ (x0 : Aa) (x1 : Aa) (y : Int), cmp x0 x1 = some y -> Fn Tryz.prog 73 0 [.agg (Aa.dv x0), .agg (Aa.dv x1)] [] (fun d' b' => d' = vk y /\ b' = [])) (r : (List Aa)) (G : Am data a b cmp = some r) : Fn Tryz.prog 131 1 [.row 0, vk a, vk b, .clo 73 0 []] [.row 30 11 (Aq Aa.enc data)] (fun d' b' => d' = .tup [] /\ b' = [.row 30 11 (Aq Aa.enc r)]) := by
 unfold Am at G
 refine Fn.of Tryz.func131 rfl rfl rfl fun w0 I ρ0 => ?_
 show B2 _ ⟨w0, I, ρ0, 1, 1, 53⟩ _ _ _
 refine Bh 1 25 A5 fun B => ?_
 refine Ap <| Jy (fun ((i_1, data_1) : Int × List Aa) => mk [(0, .row 0), (1, vk a), (2, vk b), (3, .clo 73 0 []), (8, vk i_1)] [(0, .row 30 11 (Aq Aa.enc data_1))] 1) G (A1 [(0, 0)]) ?_
 rintro ⟨i_1, data_1⟩ m1 o1 G hn1
 replace G : Am.l1 a b cmp i_1 data_1 = some o1 := G
 show B2 _ _ _ _ (mk _ _ _)
 unfold Am.l1 at G
 refine Aj <| Bh 1 25 A5 fun B => ?_
 refine C4 rfl G (fun h3 G => ?_) fun h3 G => ?_
 refine Dg ?_
 refine Aj <| Ap <| Bh 25 41 B fun B => ?_
 refine Ap <| Jy (fun ((j_2, data_2) : Int × List Aa) => mk [(0, .row 0), (1, vk a), (2, vk b), (3, .clo 73 0 []), (8, vk i_1), (9, vk j_2)] [(0, .row 30 11 (Aq Aa.enc data_2))] 1) G (A1 [(0, 0)]) ?_
 rintro ⟨j_2, data_2⟩ m2 o2 G hn2
 replace G : Am.l2 a cmp i_1 j_2 data_2 = some o2 := G
 show B2 _ _ _ _ (mk _ _ _)
 unfold Am.l2 at G
 refine Aj <| Bo (ι := Bool) (fun (x34_3 : Bool) => mk [(0, .row 0), (1, vk a), (2, vk b), (3, .clo 73 0 []), (8, vk i_1), (9, vk j_2), (34, .val (.bool x34_3))] [(0, .row 30 11 (Aq Aa.enc data_2))] 1) (fun (x34_3 : Bool) => Am.j3 i_1 j_2 data_2 x34_3 = some o2) ?_ ?_
 refine Bq (B8 _ _ []) (by kernel_rfl) [0, 0, 3, 7, 15, 15, 15, 111, 239, 15, 15, 1039, 3599, 7695, 16383, 32767, 65535] 1 137 A5 rfl rfl (by kernel_rfl) ?_
 refine Aw ?_
 rcases D9 G with ⟨h5, G⟩ | ⟨h5, G⟩
 refine Aw ?_
 obtain ⟨e, he, G⟩ := Ab G
 refine Aw ?_
 refine Ks he ?_
 refine Aw ?_
 obtain ⟨e_2, he_2, G⟩ := Ab G
 refine Aw ?_
 refine Ks he_2 ?_
 obtain ⟨y, hy, G⟩ := Ab G
 refine Cy (rd := []) (ps := []) (gs := []) false (E5 rfl rfl h5) rfl (hf_cmp e e_2 _ hy) rfl rfl (.cons (.agg (.cons .val (.cons .val (.cons .val (.cons .val (.cons .val (.cons .val (.cons .val (.cons .val (.cons .val (.cons .val (.cons .val .nil)))))))))))) (.cons (.agg (.cons .val (.cons .val (.cons .val (.cons .val (.cons .val (.cons .val (.cons .val (.cons .val (.cons .val (.cons .val (.cons .val .nil)))))))))))) .nil)) rfl rfl (by intro h; cases h) rfl rfl rfl rfl ?_
 refine Bj fun B => ?_
 exact ⟨decide (y < 0), G, A1 [(0, 0)]⟩
 refine Bj fun B => ?_
 exact ⟨false, G, A1 [(0, 0)]⟩
 rintro x34_3 G
 replace G : Am.j3 i_1 j_2 data_2 x34_3 = some o2 := G
 show B2 _ _ _ _ (mk _ _ _)
 unfold Am.j3 at G
 refine C4 rfl G (fun h8 G => ?_) fun h8 G => ?_
 refine Dg ?_
 refine Aj <| Ap <| Bq (B8 _ _ []) (by kernel_rfl) [0, 0, 0, 0, 8, 0, 0, 64, 224, 480, 0, 0, 3072, 7168, 16355, 32739, 65535, 131071] 1 145 A5 rfl rfl (by kernel_rfl) ?_
 refine Aw ?_
 obtain ⟨e_3, he_3, G⟩ := Ab G
 refine Aw ?_
 refine Ks he_3 ?_
 refine Aw ?_
 obtain ⟨e_4, he_4, G⟩ := Ab G
 refine Aw ?_
 refine Ks he_4 ?_
 refine Aw ?_
 refine S5 J7 he_4 (x' := e_3) ?_
 obtain ⟨e_5, he_5, G⟩ := Ab G
 refine Aw ?_
 refine S5 J7 he_5 (x' := e_4) ?_
 refine Gk fun B => ?_
 refine Ak (B8 _ _ []) 145 169 B rfl rfl ?_
 refine Bj fun B => ?_
 obtain rfl := oi_ G
 exact ⟨((W (j_2 - 1), Cs (Cs data_2 ((j_2).toNat) e_3) ((W (j_2 - 1)).toNat) e_4), m2), Nat.lt_succ_self _, hn2, A1 [(0, 0)]⟩
 refine Jl ?_
 replace G := Cn G hn2
 refine Ak (B8 _ _ []) 1 25 A5 rfl rfl ?_
 refine Bj fun B => ?_
 obtain rfl := oi_ G
 exact ⟨((W (i_1 + 1), data_2), m1), Nat.lt_succ_self _, hn1, A1 [(0, 0)]⟩
 refine Jl ?_
 replace G := Cn G hn1
 obtain rfl := oi_ G
 exact Gr [(0, 0)] ⟨rfl, rfl⟩
theorem Fc (data : List Aa) (lo : Int) (hi : Int) (first : Int) (cmp : Aa -> Aa -> Option (Int)) (hf_cmp : ∀ (x0 : Aa) (x1 : Aa) (y : Int), cmp x0 x1 = some y -> Fn Tryz.prog 73 0 [.agg (Aa.dv x0), .agg (Aa.dv x1)] [] (fun d' b' => d' = vk y /\ b' = [])) (r : (List Aa)) (G : An data lo hi first cmp = some r) : Fn Tryz.prog 152 1 [.row 0, vk lo, vk hi, vk first, .clo 73 0 []] [.row 30 11 (Aq Aa.enc data)] (fun d' b' => d' = .tup [] /\ b' = [.row 30 11 (Aq Aa.enc r)]) := by
 unfold An at G
 refine Fn.of Tryz.func152 rfl rfl rfl fun w0 I ρ0 => ?_
 show B2 _ ⟨w0, I, ρ0, 1, 1, 82⟩ _ _ _
 refine Bh 1 17 A5 fun B => ?_
 refine Ap <| Jy (fun ((root_1, data_1) : Int × List Aa) => mk [(0, .row 0), (2, vk hi), (3, vk first), (4, .clo 73 0 []), (10, vk root_1)] [(0, .row 30 11 (Aq Aa.enc data_1))] 1) G (A1 [(0, 0)]) ?_
 rintro ⟨root_1, data_1⟩ m1 o1 G hn1
 replace G : An.l1 hi first cmp root_1 data_1 = some o1 := G
 show B2 _ _ _ _ (mk _ _ _)
 unfold An.l1 at G
 refine Ap <| Bh 1 33 A5 fun B => ?_
 refine Aj <| Bh 33 57 B fun B => ?_
 refine C4 rfl G (fun h4 G => ?_) fun h4 G => ?_
 refine Jl ?_
 replace G := Cn G hn1
 obtain rfl := oi_ G
 exact Gr [(0, 0)] ⟨rfl, rfl⟩
 refine Dg ?_
 refine Bo (ι := Int) (fun (child_3 : Int) => mk [(0, .row 0), (2, vk hi), (3, vk first), (4, .clo 73 0 []), (10, vk root_1), (11, vk child_3)] [(0, .row 30 11 (Aq Aa.enc data_1))] 1) (fun (child_3 : Int) => An.j3 first cmp root_1 data_1 child_3 = some o1) ?_ ?_
 refine Bo (ι := Bool) (fun (x40_2 : Bool) => mk [(0, .row 0), (2, vk hi), (3, vk first), (4, .clo 73 0 []), (10, vk root_1), (11, .val (.int .i64 (W ((W (2 * root_1)) + 1)))), (40, .val (.bool x40_2))] [(0, .row 30 11 (Aq Aa.enc data_1))] 1) (fun (x40_2 : Bool) => An.j2 first cmp root_1 data_1 x40_2 = some o1) ?_ ?_
 refine Bq (B8 _ _ []) (by kernel_rfl) [0, 1, 0, 7, 15, 31, 31, 31, 31, 415, 991, 2015, 31, 31, 31, 24607, 57375, 127007, 258079, 524287, 1048575, 2097151] 57 233 B rfl rfl (by kernel_rfl) ?_
 refine Aw ?_
 rcases D9 G with ⟨h5, G⟩ | ⟨h5, G⟩
 refine Aw ?_
 obtain ⟨e, he, G⟩ := Ab G
 refine Aw ?_
 refine Ks he ?_
 refine Aw ?_
 obtain ⟨e_2, he_2, G⟩ := Ab G
 refine Aw ?_
 refine Ks he_2 ?_
 obtain ⟨y, hy, G⟩ := Ab G
 refine Cy (rd := []) (ps := []) (gs := []) false (E5 rfl rfl h5) rfl (hf_cmp e e_2 _ hy) rfl rfl (.cons (.agg (.cons .val (.cons .val (.cons .val (.cons .val (.cons .val (.cons .val (.cons .val (.cons .val (.cons .val (.cons .val (.cons .val .nil)))))))))))) (.cons (.agg (.cons .val (.cons .val (.cons .val (.cons .val (.cons .val (.cons .val (.cons .val (.cons .val (.cons .val (.cons .val (.cons .val .nil)))))))))))) .nil)) rfl rfl (by intro h; cases h) rfl rfl rfl rfl ?_
 refine Bj fun B => ?_
 exact ⟨decide (y < 0), G, A1 [(0, 0)]⟩
 refine Bj fun B => ?_
 exact ⟨false, G, A1 [(0, 0)]⟩
 rintro x40_2 G
 replace G : An.j2 first cmp root_1 data_1 x40_2 = some o1 := G
 show B2 _ _ _ _ (mk _ _ _)
 unfold An.j2 at G
 refine C4 rfl G (fun h8 G => ?_) fun h8 G => ?_
 refine Ak (B8 _ _ []) 1 25 A5 rfl rfl ?_
 refine Bj fun B => ?_
 exact ⟨W ((W ((W (2 * root_1)) + 1)) + 1), G, A1 [(0, 0)]⟩
 refine Dg ?_
 exact ⟨W ((W (2 * root_1)) + 1), G, A1 [(0, 0)]⟩
 rintro child_3 G
 replace G : An.j3 first cmp root_1 data_1 child_3 = some o1 := G
 show B2 _ _ _ _ (mk _ _ _)
 unfold An.j3 at G
 refine Aj <| Aj <| Bq (B8 _ _ []) (by kernel_rfl) [0, 0, 0, 0, 12, 30, 62, 0, 0, 0, 768, 1920, 3968, 8191, 16383, 32767] 1 129 A5 rfl rfl (by kernel_rfl) ?_
 refine Aw ?_
 obtain ⟨e_3, he_3, G⟩ := Ab G
 refine Aw ?_
 refine Ks he_3 ?_
 refine Aw ?_
 obtain ⟨e_4, he_4, G⟩ := Ab G
 refine Aw ?_
 refine Ks he_4 ?_
 obtain ⟨y_2, hy_2, G⟩ := Ab G
 refine Cy (rd := []) (ps := []) (gs := []) false rfl rfl (hf_cmp e_3 e_4 _ hy_2) rfl rfl (.cons (.agg (.cons .val (.cons .val (.cons .val (.cons .val (.cons .val (.cons .val (.cons .val (.cons .val (.cons .val (.cons .val (.cons .val .nil)))))))))))) (.cons (.agg (.cons .val (.cons .val (.cons .val (.cons .val (.cons .val (.cons .val (.cons .val (.cons .val (.cons .val (.cons .val (.cons .val .nil)))))))))))) .nil)) rfl rfl (by intro h; cases h) rfl rfl rfl rfl ?_
 refine Bj fun B => ?_
 refine C4 rfl G (fun h11 G => ?_) fun h11 G => ?_
 refine bP ?_
 refine rp_ ?_
 replace G := Cn G hn1
 obtain rfl := oi_ G
 exact Gr [(0, 0)] ⟨rfl, rfl⟩
 refine Dg ?_
 refine Aj <| Bq (B8 _ _ []) (by kernel_rfl) [0, 0, 0, 6, 0, 0, 0, 96, 0, 0, 0, 1536, 3840, 7936, 0, 0, 0, 98304, 245760, 507904, 1048335, 2096911, 4194303, 8388607] 129 321 B rfl rfl (by kernel_rfl) ?_
 refine Aw ?_
 refine Ks he_4 ?_
 refine Aw ?_
 refine Ks he_3 ?_
 refine Aw ?_
 refine S5 J7 he_3 (x' := e_4) ?_
 obtain ⟨e_5, he_5, G⟩ := Ab G
 refine Aw ?_
 refine S5 J7 he_5 (x' := e_3) ?_
 refine Gk fun B => ?_
 refine Ak (B8 _ _ []) 321 337 B rfl rfl ?_
 refine Bj fun B => ?_
 obtain rfl := oi_ G
 exact ⟨((child_3, Cs (Cs data_1 ((W (first + root_1)).toNat) e_4) ((W (first + child_3)).toNat) e_3), m1), Nat.lt_succ_self _, hn1, A1 [(0, 0)]⟩
theorem Ih (data : List Aa) (a : Int) (b : Int) (cmp : Aa -> Aa -> Option (Int)) (hf_cmp : ∀ (x0 : Aa) (x1 : Aa) (y : Int), cmp x0 x1 = some y -> Fn Tryz.prog 73 0 [.agg (Aa.dv x0), .agg (Aa.dv x1)] [] (fun d' b' => d' = vk y /\ b' = [])) (r : (List Aa)) (G : Ax data a b cmp = some r) : Fn Tryz.prog 132 1 [.row 0, vk a, vk b, .clo 73 0 []] [.row 30 11 (Aq Aa.enc data)] (fun d' b' => d' = .tup [] /\ b' = [.row 30 11 (Aq Aa.enc r)]) := by
 unfold Ax at G
 refine Fn.of Tryz.func132 rfl rfl rfl fun w0 I ρ0 => ?_
 show B2 _ ⟨w0, I, ρ0, 1, 1, 60⟩ _ _ _
 refine Bh 1 17 A5 fun B => ?_
 refine Bh 17 25 B fun B => ?_
 refine Bh 25 57 B fun B => ?_
 refine Aj <| B9 57 89 B ?_
 refine Aw ?_
 obtain ⟨q, hq, G⟩ := Ab G
 refine C0 rfl rfl (Rw hq) rfl rfl ?_
 refine Bj fun B => ?_
 refine Ap <| Jy (fun ((i_1, data_1) : Int × List Aa) => mk [(0, .row 0), (3, .clo 73 0 []), (8, vk a), (9, .val (.int .i64 0)), (10, .val (.int .i64 (W (b - a)))), (11, vk i_1)] [(0, .row 30 11 (Aq Aa.enc data_1))] 1) G (A1 [(0, 0)]) ?_
 rintro ⟨i_1, data_1⟩ m1 o1 G hn1
 replace G : Ax.l1 a b cmp i_1 data_1 = some o1 := G
 show B2 _ _ _ _ (mk _ _ _)
 unfold Ax.l1 at G
 refine Aj <| Bh 1 17 A5 fun B => ?_
 refine C4 rfl G (fun h6 G => ?_) fun h6 G => ?_
 refine Dg ?_
 refine Aj <| Ap <| Ak (B8 _ _ []) 17 65 B rfl rfl ?_
 refine Aw ?_
 obtain ⟨y, hy, G⟩ := Ab G
 refine Ig [0] [0] [] false (Fc data_1 i_1 (W (b - a)) a cmp hf_cmp _ hy) ?_
 refine Gk fun B => ?_
 refine Ak (B8 _ _ []) 65 89 B rfl rfl ?_
 refine Bj fun B => ?_
 obtain rfl := oi_ G
 exact ⟨((W (i_1 - 1), y), m1), Nat.lt_succ_self _, hn1, A1 [(0, 0)]⟩
 refine Jl ?_
 replace G := Cn G hn1
 refine Bh 17 41 B fun B => ?_
 refine Ap <| Jy (fun ((i_2, data_2) : Int × List Aa) => mk [(0, .row 0), (3, .clo 73 0 []), (8, vk a), (9, .val (.int .i64 0)), (12, vk i_2)] [(0, .row 30 11 (Aq Aa.enc data_2))] 1) G (A1 [(0, 0)]) ?_
 rintro ⟨i_2, data_2⟩ m2 o2 G hn2
 replace G : Ax.l2 a cmp i_2 data_2 = some o2 := G
 show B2 _ _ _ _ (mk _ _ _)
 unfold Ax.l2 at G
 refine Aj <| Bh 1 17 A5 fun B => ?_
 refine C4 rfl G (fun h11 G => ?_) fun h11 G => ?_
 refine Dg ?_
 refine Aj <| Ap <| Aj <| Bq (B8 _ _ []) (by kernel_rfl) [0, 0, 0, 0, 0, 24, 0, 0, 0, 384, 960, 1984, 0, 0, 12288, 28672, 65475, 131011, 262143, 524287] 17 177 B rfl rfl (by kernel_rfl) ?_
 refine Aw ?_
 obtain ⟨e, he, G⟩ := Ab G
 refine Aw ?_
 refine Ks he ?_
 refine Aw ?_
 obtain ⟨e_2, he_2, G⟩ := Ab G
 refine Aw ?_
 refine Ks he_2 ?_
 refine Aw ?_
 refine S5 J7 he_2 (x' := e) ?_
 obtain ⟨e_3, he_3, G⟩ := Ab G
 refine Aw ?_
 refine S5 J7 he_3 (x' := e_2) ?_
 refine Gk fun B => ?_
 refine Ak (B8 _ _ []) 177 225 B rfl rfl ?_
 refine Aw ?_
 obtain ⟨y_2, hy_2, G⟩ := Ab G
 refine Ig [0] [0] [] false (Fc (Cs (Cs data_2 ((a).toNat) e) ((W (a + i_2)).toNat) e_2) 0 i_2 a cmp hf_cmp _ hy_2) ?_
 refine Gk fun B => ?_
 refine Ak (B8 _ _ []) 225 249 B rfl rfl ?_
 refine Bj fun B => ?_
 obtain rfl := oi_ G
 exact ⟨((W (i_2 - 1), y_2), m2), Nat.lt_succ_self _, hn2, A1 [(0, 0)]⟩
 refine Jl ?_
 replace G := Cn G hn2
 obtain rfl := oi_ G
 exact Gr [(0, 0)] ⟨rfl, rfl⟩
theorem Pn (length : Int) (r : Int) (G : Fl length = some r) : Fn Tryz.prog 153 0 [vk length] [] (fun d' b' => d' = .val (.int .u64 r) /\ b' = []) := by
 unfold Fl at G
 refine Fn.of Tryz.func153 rfl rfl rfl fun w0 I ρ0 => ?_
 show B2 _ ⟨w0, I, ρ0, 0, 0, 7⟩ _ _ _
 refine Bh 0 8 A5 fun B => ?_
 refine B9 8 48 B ?_
 refine Aw ?_
 refine C0 rfl rfl (Xf L5 iB) rfl rfl ?_
 obtain ⟨y, hy, G⟩ := Ab G
 refine Do (Qr _ _ hy) ?_
 obtain ⟨q, hq, G⟩ := Ab G
 refine C0 rfl rfl (iH hq) rfl rfl ?_
 exact De
theorem Qf (r' : Int) (r : Int × Int) (G : F1 r' = some r) : Fn Tryz.prog 154 1 [.ptr 0 0] [.box [.val (.int .u64 r')] 175] (fun d' b' => d' = .val (.int .u64 r.1) /\ b' = [.box [.val (.int .u64 r.2)] 175]) := by
 unfold F1 at G
 refine Fn.of Tryz.func154 rfl rfl rfl fun w0 I ρ0 => ?_
 show B2 _ ⟨w0, I, ρ0, 1, 1, 33⟩ _ _ _
 refine Bh 1 9 A5 fun B => ?_
 refine Aj <| Bq (B8 _ _ []) (by kernel_rfl) [0, 1, 3, 0, 8, 24, 56, 127, 255, 511] 9 89 B rfl rfl (by kernel_rfl) ?_
 refine Aw ?_
 obtain ⟨q, hq, G⟩ := Ab G
 refine C0 rfl rfl (iH hq) rfl rfl ?_
 refine C0 rfl rfl bU rfl rfl ?_
 refine Bj fun B => ?_
 refine Aj <| Bq (B8 _ _ []) (by kernel_rfl) [0, 1, 3, 0, 8, 24, 56, 127, 255, 511] 89 169 B rfl rfl (by kernel_rfl) ?_
 refine Aw ?_
 obtain ⟨q_2, hq_2, G⟩ := Ab G
 refine C0 rfl rfl (Nu hq_2) rfl rfl ?_
 refine C0 rfl rfl bU rfl rfl ?_
 refine Bj fun B => ?_
 refine Aj <| Bq (B8 _ _ []) (by kernel_rfl) [0, 1, 3, 0, 8, 24, 56, 127, 255, 511] 169 249 B rfl rfl (by kernel_rfl) ?_
 refine Aw ?_
 obtain ⟨q_3, hq_3, G⟩ := Ab G
 refine C0 rfl rfl (iH hq_3) rfl rfl ?_
 refine C0 rfl rfl bU rfl rfl ?_
 refine Bj fun B => ?_
 refine Bh 249 281 B fun B => ?_
 refine Fg ?_
 obtain rfl := oi_ G
 exact Gr [(0, 0)] ⟨rfl, rfl⟩
theorem Hr (data : List Aa) (a : Int) (b : Int) (cmp : Aa -> Aa -> Option (Int)) (hf_cmp : ∀ (x0 : Aa) (x1 : Aa) (y : Int), cmp x0 x1 = some y -> Fn Tryz.prog 73 0 [.agg (Aa.dv x0), .agg (Aa.dv x1)] [] (fun d' b' => d' = vk y /\ b' = [])) (r : (List Aa)) (G : Av data a b cmp = some r) : Fn Tryz.prog 133 1 [.row 0, vk a, vk b, .clo 73 0 []] [.row 30 11 (Aq Aa.enc data)] (fun d' b' => d' = .tup [] /\ b' = [.row 30 11 (Aq Aa.enc r)]) := by
 unfold Av at G
 refine Fn.of Tryz.func133 rfl rfl rfl fun w0 I ρ0 => ?_
 show B2 _ ⟨w0, I, ρ0, 1, 1, 67⟩ _ _ _
 refine Bh 1 33 A5 fun B => ?_
 refine Bh 33 49 B fun B => ?_
 refine C4 rfl G (fun h3 G => ?_) fun h3 G => ?_
 refine B9 49 81 B ?_
 refine Aw ?_
 refine C0 rfl rfl (Xf L5 aA2) rfl rfl ?_
 refine Bj fun B => ?_
 refine B9 81 105 B ?_
 refine Aw ?_
 obtain ⟨y, hy, G⟩ := Ab G
 refine Do (Pn _ _ hy) ?_
 refine Bj fun B => ?_
 refine B9 105 161 B ?_
 refine Aw ?_
 obtain ⟨q, hq, G⟩ := Ab G
 refine C0 rfl rfl (Rw hq) rfl rfl ?_
 refine Bj fun B => ?_
 refine Ap <| Jy (fun ((idx_1, data_1, random_1) : Int × List Aa × Int) => mk [(0, .row 0), (1, vk a), (8, .val (.int .i64 (W (b - a)))), (9, .ptr 1 0), (10, .val (.int .u64 y)), (11, vk idx_1)] [(0, .row 30 11 (Aq Aa.enc data_1)), (1, .box [.val (.int .u64 random_1)] 175)] 2) G (A1 [(0, 0), (1, 65)]) ?_
 rintro ⟨idx_1, data_1, random_1⟩ m1 o1 G hn1
 replace G : Av.l1 a b y idx_1 data_1 random_1 = some o1 := G
 show B2 _ _ _ _ (mk _ _ _)
 unfold Av.l1 at G
 refine Aj <| B9 2 66 A5 ?_
 refine Aw ?_
 obtain ⟨q_2, hq_2, G⟩ := Ab G
 refine C0 rfl rfl (Rw hq_2) rfl rfl ?_
 refine Bj fun B => ?_
 refine C4 rfl G (fun h8 G => ?_) fun h8 G => ?_
 refine Dg ?_
 refine Aj <| Ap <| B9 66 114 B ?_
 obtain ⟨y_2, hy_2, G⟩ := Ab G
 refine Ig [1] [1] [] false (Qf _ _ hy_2) ?_
 refine Aw ?_
 refine C0 rfl rfl wS rfl rfl ?_
 refine C0 rfl rfl wZ rfl rfl ?_
 refine C0 rfl rfl (Y7 iB L5) rfl rfl ?_
 refine Bj fun B => ?_
 refine Bo (ι := Int) (fun (other_2 : Int) => mk [(0, .row 0), (1, vk a), (8, .val (.int .i64 (W (b - a)))), (9, .ptr 1 0), (10, .val (.int .u64 y)), (11, vk idx_1), (12, vk other_2)] [(0, .row 30 11 (Aq Aa.enc data_1)), (1, .box [.val (.int .u64 y_2.2)] 175)] 2) (fun (other_2 : Int) => Av.j2 a idx_1 data_1 y_2 other_2 = some o1) ?_ ?_
 refine Bh 114 138 B fun B => ?_
 refine C4 rfl G (fun h11 G => ?_) fun h11 G => ?_
 refine Ak (B8 _ _ []) 138 170 B rfl rfl ?_
 refine Bj fun B => ?_
 exact ⟨W ((W (fD .u64 y_2.1 (IntKind.wrap .u64 (y - 1)))) - (W (b - a))), G, A1 [(0, 0), (1, 1)]⟩
 refine Dg ?_
 exact ⟨W (fD .u64 y_2.1 (IntKind.wrap .u64 (y - 1))), G, A1 [(0, 0), (1, 1)]⟩
 rintro other_2 G
 replace G : Av.j2 a idx_1 data_1 y_2 other_2 = some o1 := G
 show B2 _ _ _ _ (mk _ _ _)
 unfold Av.j2 at G
 refine Bq (B8 _ _ []) (by kernel_rfl) [0, 0, 0, 0, 0, 24, 0, 0, 0, 384, 960, 1984, 0, 0, 12288, 28672, 65475, 131011, 262143, 524287] 2 162 A5 rfl rfl (by kernel_rfl) ?_
 refine Aw ?_
 obtain ⟨e, he, G⟩ := Ab G
 refine Aw ?_
 refine Ks he ?_
 refine Aw ?_
 obtain ⟨e_2, he_2, G⟩ := Ab G
 refine Aw ?_
 refine Ks he_2 ?_
 refine Aw ?_
 refine S5 J7 he_2 (x' := e) ?_
 obtain ⟨e_3, he_3, G⟩ := Ab G
 refine Aw ?_
 refine S5 J7 he_3 (x' := e_2) ?_
 refine Gk fun B => ?_
 refine Ak (B8 _ _ []) 162 186 B rfl rfl ?_
 refine Bj fun B => ?_
 obtain rfl := oi_ G
 exact ⟨((W (idx_1 + 1), Cs (Cs data_1 ((idx_1).toNat) e) ((W (a + other_2)).toNat) e_2, y_2.2), m1), Nat.lt_succ_self _, hn1, A1 [(0, 0), (1, 1)]⟩
 refine Jl ?_
 replace G := Cn G hn1
 obtain rfl := oi_ G
 exact Gr [(0, 0)] ⟨rfl, rfl⟩
 refine Dg ?_
 obtain rfl := oi_ G
 exact Gr [(0, 0)] ⟨rfl, rfl⟩
theorem Eh (data : (List Aa)) (a : Int) (b : Int) (swaps : Int) (cmp : Aa -> Aa -> Option (Int)) (hf_cmp : ∀ (x0 : Aa) (x1 : Aa) (y : Int), cmp x0 x1 = some y -> Fn Tryz.prog 73 0 [.agg (Aa.dv x0), .agg (Aa.dv x1)] [] (fun d' b' => d' = vk y /\ b' = [])) (r : Int × Int × Int) (G : C5 data a b swaps cmp = some r) : Fn Tryz.prog 167 1 [.sl 11 (Aq Aa.enc data), vk a, vk b, .ptr 0 0, .clo 73 0 []] [.box [vk swaps] 3] (fun d' b' => d' = .tup [vk r.1, vk r.2.1] /\ b' = [.box [vk r.2.2] 3]) := by
 unfold C5 at G
 refine Fn.of Tryz.func167 rfl rfl rfl fun w0 I ρ0 => ?_
 show B2 _ ⟨w0, I, ρ0, 1, 1, 32⟩ _ _ _
 refine Bh 1 17 A5 fun B => ?_
 refine Aj <| Aj <| Bq (B8 _ _ []) (by kernel_rfl) [0, 0, 0, 6, 14, 0, 0, 96, 224, 511, 1023] 17 105 B rfl rfl (by kernel_rfl) ?_
 refine Aw ?_
 obtain ⟨e, he, G⟩ := Ab G
 refine Aw ?_
 refine dF he ?_
 refine Aw ?_
 obtain ⟨e_2, he_2, G⟩ := Ab G
 refine Aw ?_
 refine dF he_2 ?_
 obtain ⟨y, hy, G⟩ := Ab G
 refine Cy (rd := []) (ps := []) (gs := []) false rfl rfl (hf_cmp e e_2 _ hy) rfl rfl (.cons (.agg (.cons .val (.cons .val (.cons .val (.cons .val (.cons .val (.cons .val (.cons .val (.cons .val (.cons .val (.cons .val (.cons .val .nil)))))))))))) (.cons (.agg (.cons .val (.cons .val (.cons .val (.cons .val (.cons .val (.cons .val (.cons .val (.cons .val (.cons .val (.cons .val (.cons .val .nil)))))))))))) .nil)) rfl rfl (by intro h; cases h) rfl rfl rfl rfl ?_
 refine Bj fun B => ?_
 refine C4 rfl G (fun h3 G => ?_) fun h3 G => ?_
 refine Bh 105 153 B fun B => ?_
 refine Bh 153 185 B fun B => ?_
 refine Fg ?_
 obtain rfl := oi_ G
 exact Gr [(0, 0)] ⟨rfl, rfl⟩
 refine Dg ?_
 refine Bh 105 137 B fun B => ?_
 refine Fg ?_
 obtain rfl := oi_ G
 exact Gr [(0, 0)] ⟨rfl, rfl⟩
theorem Fk (data : (List Aa)) (a : Int) (b : Int) (c : Int) (swaps : Int) (cmp : Aa -> Aa -> Option (Int)) (hf_cmp : ∀ (x0 : Aa) (x1 : Aa) (y : Int), cmp x0 x1 = some y -> Fn Tryz.prog 73 0 [.agg (Aa.dv x0), .agg (Aa.dv x1)] [] (fun d' b' => d' = vk y /\ b' = [])) (r : Int × Int) (G : Dl data a b c swaps cmp = some r) : Fn Tryz.prog 156 1 [.sl 11 (Aq Aa.enc data), vk a, vk b, vk c, .ptr 0 0, .clo 73 0 []] [.box [vk swaps] 3] (fun d' b' => d' = vk r.1 /\ b' = [.box [vk r.2] 3]) := by
 unfold Dl at G
 refine Fn.of Tryz.func156 rfl rfl rfl fun w0 I ρ0 => ?_
 show B2 _ ⟨w0, I, ρ0, 1, 1, 41⟩ _ _ _
 refine Bh 1 9 A5 fun B => ?_
 refine B9 9 97 B ?_
 refine Aw ?_
 obtain ⟨y, hy, G⟩ := Ab G
 refine Ig [0] [0] [] false (Eh data a b swaps cmp hf_cmp _ hy) ?_
 refine Bj fun B => ?_
 refine B9 97 185 B ?_
 refine Aw ?_
 obtain ⟨y_2, hy_2, G⟩ := Ab G
 refine Ig [0] [0] [] false (Eh data y.2.1 c y.2.2 cmp hf_cmp _ hy_2) ?_
 refine Bj fun B => ?_
 refine B9 185 273 B ?_
 refine Aw ?_
 obtain ⟨y_3, hy_3, G⟩ := Ab G
 refine Ig [0] [0] [] false (Eh data y.1 y_2.1 y_2.2.2 cmp hf_cmp _ hy_3) ?_
 refine Bj fun B => ?_
 refine Bh 273 289 B fun B => ?_
 refine Fg ?_
 obtain rfl := oi_ G
 exact Gr [(0, 0)] ⟨rfl, rfl⟩
theorem Du (data : (List Aa)) (a : Int) (swaps : Int) (cmp : Aa -> Aa -> Option (Int)) (hf_cmp : ∀ (x0 : Aa) (x1 : Aa) (y : Int), cmp x0 x1 = some y -> Fn Tryz.prog 73 0 [.agg (Aa.dv x0), .agg (Aa.dv x1)] [] (fun d' b' => d' = vk y /\ b' = [])) (r : Int × Int) (G : Cc data a swaps cmp = some r) : Fn Tryz.prog 155 1 [.sl 11 (Aq Aa.enc data), vk a, .ptr 0 0, .clo 73 0 []] [.box [vk swaps] 3] (fun d' b' => d' = vk r.1 /\ b' = [.box [vk r.2] 3]) := by
 unfold Cc at G
 refine Fn.of Tryz.func155 rfl rfl rfl fun w0 I ρ0 => ?_
 show B2 _ ⟨w0, I, ρ0, 1, 1, 18⟩ _ _ _
 refine Bh 1 9 A5 fun B => ?_
 refine B9 9 89 B ?_
 refine Aw ?_
 obtain ⟨y, hy, G⟩ := Ab G
 refine Ig [0] [0] [] false (Fk data (W (a - 1)) a (W (a + 1)) swaps cmp hf_cmp _ hy) ?_
 refine Bj fun B => ?_
 refine Fg ?_
 obtain rfl := oi_ G
 exact Gr [(0, 0)] ⟨rfl, rfl⟩
theorem H4 (data : (List Aa)) (a : Int) (b : Int) (cmp : Aa -> Aa -> Option (Int)) (hf_cmp : ∀ (x0 : Aa) (x1 : Aa) (y : Int), cmp x0 x1 = some y -> Fn Tryz.prog 73 0 [.agg (Aa.dv x0), .agg (Aa.dv x1)] [] (fun d' b' => d' = vk y /\ b' = [])) (r : Int × Int) (G : Az data a b cmp = some r) : Fn Tryz.prog 134 0 [.sl 11 (Aq Aa.enc data), vk a, vk b, .clo 73 0 []] [] (fun d' b' => d' = .tup [vk r.1, vk r.2] /\ b' = []) := by
 unfold Az at G
 refine Fn.of Tryz.func134 rfl rfl rfl fun w0 I ρ0 => ?_
 show B2 _ ⟨w0, I, ρ0, 0, 0, 63⟩ _ _ _
 refine Bh 0 16 A5 fun B => ?_
 refine Bh 16 48 B fun B => ?_
 refine Bh 48 56 B fun B => ?_
 refine B9 56 104 B ?_
 refine Aw ?_
 obtain ⟨q, hq, G⟩ := Ab G
 refine C0 rfl rfl (Rw hq) rfl rfl ?_
 refine Bj fun B => ?_
 refine B9 104 152 B ?_
 refine Aw ?_
 obtain ⟨q_2, hq_2, G⟩ := Ab G
 refine C0 rfl rfl (Rw hq_2) rfl rfl ?_
 refine Bj fun B => ?_
 refine B9 152 200 B ?_
 refine Aw ?_
 obtain ⟨q_3, hq_3, G⟩ := Ab G
 refine C0 rfl rfl (Rw hq_3) rfl rfl ?_
 refine Bj fun B => ?_
 refine Bo (ι := Int × Int) (fun ((j_2, swaps_2) : Int × Int) => mk [(11, .ptr 0 0), (13, vk j_2)] [(0, .box [vk swaps_2] 3)] 1) (fun ((j_2, swaps_2) : Int × Int) => Az.j2 j_2 swaps_2 = some r) ?_ ?_
 refine Bh 200 216 B fun B => ?_
 refine C4 rfl G (fun h8 G => ?_) fun h8 G => ?_
 refine Bo (ι := Int × Int × Int × Int) (fun ((i_1, j_1, k_1, swaps_1) : Int × Int × Int × Int) => mk [(0, .sl 11 (Aq Aa.enc data)), (3, .clo 73 0 []), (11, .ptr 0 0), (12, vk i_1), (13, vk j_1), (14, vk k_1)] [(0, .box [vk swaps_1] 3)] 1) (fun ((i_1, j_1, k_1, swaps_1) : Int × Int × Int × Int) => Az.j1 data cmp i_1 j_1 k_1 swaps_1 = some r) ?_ ?_
 refine Bh 216 232 B fun B => ?_
 refine C4 rfl G (fun h10 G => ?_) fun h10 G => ?_
 refine B9 232 272 B ?_
 refine Aw ?_
 obtain ⟨y, hy, G⟩ := Ab G
 refine Ig [48] [48] [] false (Du data (W (a + (W (q * 1)))) 0 cmp hf_cmp _ hy) ?_
 refine Bj fun B => ?_
 refine B9 272 312 B ?_
 refine Aw ?_
 obtain ⟨y_2, hy_2, G⟩ := Ab G
 refine Ig [48] [48] [] false (Du data (W (a + (W (q_2 * 2)))) y.2 cmp hf_cmp _ hy_2) ?_
 refine Bj fun B => ?_
 refine Ak (B8 _ _ []) 312 352 B rfl rfl ?_
 refine Aw ?_
 obtain ⟨y_3, hy_3, G⟩ := Ab G
 refine Ig [48] [48] [] false (Du data (W (a + (W (q_3 * 3)))) y_2.2 cmp hf_cmp _ hy_3) ?_
 refine Bj fun B => ?_
 exact ⟨(y.1, y_2.1, y_3.1, y_3.2), G, A1 [(0, 48)]⟩
 refine Dg ?_
 exact ⟨(W (a + (W (q * 1))), W (a + (W (q_2 * 2))), W (a + (W (q_3 * 3))), 0), G, A1 [(0, 48)]⟩
 rintro ⟨i_1, j_1, k_1, swaps_1⟩ G
 replace G : Az.j1 data cmp i_1 j_1 k_1 swaps_1 = some r := G
 show B2 _ _ _ _ (mk _ _ _)
 unfold Az.j1 at G
 refine Ak (B8 _ _ []) 1 57 A5 rfl rfl ?_
 refine Aw ?_
 obtain ⟨y_4, hy_4, G⟩ := Ab G
 refine Ig [0] [0] [] false (Fk data i_1 j_1 k_1 swaps_1 cmp hf_cmp _ hy_4) ?_
 refine Bj fun B => ?_
 exact ⟨(y_4.1, y_4.2), G, A1 [(0, 0)]⟩
 refine Dg ?_
 exact ⟨(W (a + (W (q_2 * 2))), 0), G, A1 [(0, 48)]⟩
 rintro ⟨j_2, swaps_2⟩ G
 replace G : Az.j2 j_2 swaps_2 = some r := G
 show B2 _ _ _ _ (mk _ _ _)
 unfold Az.j2 at G
 refine Bh 1 9 A5 fun B => ?_
 refine Ap <| Bh 9 25 B fun B => ?_
 refine C4 rfl G (fun h17 G => ?_) fun h17 G => ?_
 refine B9 25 49 B ?_
 exact De
 refine Bh 25 41 B fun B => ?_
 refine C4 rfl G (fun h20 G => ?_) fun h20 G => ?_
 refine B9 41 65 B ?_
 exact De
 refine B9 41 65 B ?_
 exact De
theorem Hs (data : List Aa) (a : Int) (b : Int) (cmp : Aa -> Aa -> Option (Int)) (hf_cmp : ∀ (x0 : Aa) (x1 : Aa) (y : Int), cmp x0 x1 = some y -> Fn Tryz.prog 73 0 [.agg (Aa.dv x0), .agg (Aa.dv x1)] [] (fun d' b' => d' = vk y /\ b' = [])) (r : (List Aa)) (G : Bb data a b cmp = some r) : Fn Tryz.prog 135 1 [.row 0, vk a, vk b, .clo 73 0 []] [.row 30 11 (Aq Aa.enc data)] (fun d' b' => d' = .tup [] /\ b' = [.row 30 11 (Aq Aa.enc r)]) := by
 unfold Bb at G
 refine Fn.of Tryz.func135 rfl rfl rfl fun w0 I ρ0 => ?_
 show B2 _ ⟨w0, I, ρ0, 1, 1, 34⟩ _ _ _
 refine Bh 1 17 A5 fun B => ?_
 refine Bh 17 41 B fun B => ?_
 refine Ap <| Jy (fun ((i_1, j_1, data_1) : Int × Int × List Aa) => mk [(0, .row 0), (8, vk i_1), (9, vk j_1)] [(0, .row 30 11 (Aq Aa.enc data_1))] 1) G (A1 [(0, 0)]) ?_
 rintro ⟨i_1, j_1, data_1⟩ m1 o1 G hn1
 replace G : Bb.l1 i_1 j_1 data_1 = some o1 := G
 show B2 _ _ _ _ (mk _ _ _)
 unfold Bb.l1 at G
 refine Aj <| Bh 1 25 A5 fun B => ?_
 refine C4 rfl G (fun h4 G => ?_) fun h4 G => ?_
 refine Dg ?_
 refine Ap <| Aj <| Bq (B8 _ _ []) (by kernel_rfl) [0, 0, 0, 0, 0, 0, 48, 112, 0, 0, 768, 1792, 4083, 8179, 16383, 32767] 25 153 B rfl rfl (by kernel_rfl) ?_
 refine Aw ?_
 obtain ⟨e, he, G⟩ := Ab G
 refine Aw ?_
 refine Ks he ?_
 refine Aw ?_
 obtain ⟨e_2, he_2, G⟩ := Ab G
 refine Aw ?_
 refine Ks he_2 ?_
 refine Aw ?_
 refine S5 J7 he_2 (x' := e) ?_
 obtain ⟨e_3, he_3, G⟩ := Ab G
 refine Aw ?_
 refine S5 J7 he_3 (x' := e_2) ?_
 refine Gk fun B => ?_
 refine Bh 153 177 B fun B => ?_
 refine Ak (B8 _ _ []) 177 201 B rfl rfl ?_
 refine Bj fun B => ?_
 obtain rfl := oi_ G
 exact ⟨((W (i_1 + 1), W (j_1 - 1), Cs (Cs data_1 ((i_1).toNat) e) ((j_1).toNat) e_2), m1), Nat.lt_succ_self _, hn1, A1 [(0, 0)]⟩
 refine Jl ?_
 replace G := Cn G hn1
 obtain rfl := oi_ G
 exact Gr [(0, 0)] ⟨rfl, rfl⟩
theorem Gi (data : List Aa) (a : Int) (b : Int) (cmp : Aa -> Aa -> Option (Int)) (hf_cmp : ∀ (x0 : Aa) (x1 : Aa) (y : Int), cmp x0 x1 = some y -> Fn Tryz.prog 73 0 [.agg (Aa.dv x0), .agg (Aa.dv x1)] [] (fun d' b' => d' = vk y /\ b' = [])) (r : Bool × (List Aa)) (G : Ac data a b cmp = some r) : Fn Tryz.prog 136 1 [.row 0, vk a, vk b, .clo 73 0 []] [.row 30 11 (Aq Aa.enc data)] (fun d' b' => d' = .val (.bool r.1) /\ b' = [.row 30 11 (Aq Aa.enc r.2)]) := by
 unfold Ac at G
 refine Fn.of Tryz.func136 rfl rfl rfl fun w0 I ρ0 => ?_
 show B2 _ ⟨w0, I, ρ0, 1, 1, 141⟩ _ _ _
 refine Bh 1 9 A5 fun B => ?_
 refine Bh 9 33 B fun B => ?_
 refine Aj <| Bh 33 41 B fun B => ?_
 refine Ap <| Jy (fun ((i_1, j_1, data_1) : Int × Int × List Aa) => mk [(0, .row 0), (1, vk a), (2, vk b), (3, .clo 73 0 []), (9, vk i_1), (10, vk j_1)] [(0, .row 30 11 (Aq Aa.enc data_1))] 1) G (A1 [(0, 0)]) ?_
 rintro ⟨i_1, j_1, data_1⟩ m1 o1 G hn1
 replace G : Ac.l1 a b cmp i_1 j_1 data_1 = some o1 := G
 show B2 _ _ _ _ (mk _ _ _)
 unfold Ac.l1 at G
 refine Aj <| Bh 1 17 A5 fun B => ?_
 refine C4 rfl G (fun h5 G => ?_) fun h5 G => ?_
 refine Dg ?_
 refine Bo (ι := Int × List Aa) (fun ((i_7, data_7) : Int × List Aa) => mk [(0, .row 0), (1, vk a), (2, vk b), (3, .clo 73 0 []), (9, vk i_7), (10, vk j_1)] [(0, .row 30 11 (Aq Aa.enc data_7))] 1) (fun ((i_7, data_7) : Int × List Aa) => Ac.j7 j_1 i_7 data_7 = some o1) ?_ ?_
 refine Ap <| Aj <| Ap <| Jy (fun (i_2 : Int) => mk [(0, .row 0), (1, vk a), (2, vk b), (3, .clo 73 0 []), (9, vk i_2), (10, vk j_1)] [(0, .row 30 11 (Aq Aa.enc data_1))] 1) G (A1 [(0, 0)]) ?_
 rintro i_2 m2 o2 G hn2
 replace G : Ac.l2 a b cmp j_1 data_1 i_2 = some o2 := G
 show B2 _ _ _ _ (mk _ _ _)
 unfold Ac.l2 at G
 refine Aj <| Bo (ι := Bool) (fun (x36_3 : Bool) => mk [(0, .row 0), (1, vk a), (2, vk b), (3, .clo 73 0 []), (9, vk i_2), (10, vk j_1), (36, .val (.bool x36_3))] [(0, .row 30 11 (Aq Aa.enc data_1))] 1) (fun (x36_3 : Bool) => Ac.j3 a b cmp j_1 data_1 i_2 x36_3 = some o2) ?_ ?_
 refine Bq (B8 _ _ []) (by kernel_rfl) [0, 0, 3, 7, 15, 15, 15, 111, 239, 15, 15, 1039, 3599, 7695, 16383, 32767, 65535, 131071] 1 145 A5 rfl rfl (by kernel_rfl) ?_
 refine Aw ?_
 rcases D9 G with ⟨h6, G⟩ | ⟨h6, G⟩
 refine Aw ?_
 obtain ⟨e, he, G⟩ := Ab G
 refine Aw ?_
 refine Ks he ?_
 refine Aw ?_
 obtain ⟨e_2, he_2, G⟩ := Ab G
 refine Aw ?_
 refine Ks he_2 ?_
 obtain ⟨y, hy, G⟩ := Ab G
 refine Cy (rd := []) (ps := []) (gs := []) false (E5 rfl rfl h6) rfl (hf_cmp e e_2 _ hy) rfl rfl (.cons (.agg (.cons .val (.cons .val (.cons .val (.cons .val (.cons .val (.cons .val (.cons .val (.cons .val (.cons .val (.cons .val (.cons .val .nil)))))))))))) (.cons (.agg (.cons .val (.cons .val (.cons .val (.cons .val (.cons .val (.cons .val (.cons .val (.cons .val (.cons .val (.cons .val (.cons .val .nil)))))))))))) .nil)) rfl rfl (by intro h; cases h) rfl rfl rfl rfl ?_
 refine Bj fun B => ?_
 exact ⟨!(decide (y < 0)), G, A1 [(0, 0)]⟩
 refine Bj fun B => ?_
 exact ⟨false, G, A1 [(0, 0)]⟩
 rintro x36_3 G
 replace G : Ac.j3 a b cmp j_1 data_1 i_2 x36_3 = some o2 := G
 show B2 _ _ _ _ (mk _ _ _)
 unfold Ac.j3 at G
 refine C4 rfl G (fun h9 G => ?_) fun h9 G => ?_
 refine Dg ?_
 refine Ap <| Ak (B8 _ _ []) 1 25 A5 rfl rfl ?_
 refine Bj fun B => ?_
 obtain rfl := oi_ G
 exact ⟨(W (i_2 + 1), m2), Nat.lt_succ_self _, hn2, A1 [(0, 0)]⟩
 refine Jl ?_
 replace G := Cn G hn2
 refine Aj <| Bh 1 25 A5 fun B => ?_
 refine C4 rfl G (fun h12 G => ?_) fun h12 G => ?_
 refine Bh 25 33 B fun B => ?_
 refine Fg ?_
 replace G := Cn G hn1
 obtain rfl := oi_ G
 exact Gr [(0, 0)] ⟨rfl, rfl⟩
 refine Dg ?_
 refine Aj <| Bh 25 57 B fun B => ?_
 refine C4 rfl G (fun h15 G => ?_) fun h15 G => ?_
 refine Bh 57 65 B fun B => ?_
 refine Fg ?_
 replace G := Cn G hn1
 obtain rfl := oi_ G
 exact Gr [(0, 0)] ⟨rfl, rfl⟩
 refine Dg ?_
 refine Aj <| Bq (B8 _ _ []) (by kernel_rfl) [0, 0, 0, 0, 8, 0, 0, 64, 224, 480, 0, 0, 3072, 7168, 16355, 32739, 65535, 131071] 57 201 B rfl rfl (by kernel_rfl) ?_
 refine Aw ?_
 obtain ⟨e_3, he_3, G⟩ := Ab G
 refine Aw ?_
 refine Ks he_3 ?_
 refine Aw ?_
 obtain ⟨e_4, he_4, G⟩ := Ab G
 refine Aw ?_
 refine Ks he_4 ?_
 refine Aw ?_
 refine S5 J7 he_4 (x' := e_3) ?_
 obtain ⟨e_5, he_5, G⟩ := Ab G
 refine Aw ?_
 refine S5 J7 he_5 (x' := e_4) ?_
 refine Gk fun B => ?_
 refine Bo (ι := List Aa) (fun (data_5 : List Aa) => mk [(0, .row 0), (1, vk a), (2, vk b), (3, .clo 73 0 []), (9, vk i_2), (10, vk j_1)] [(0, .row 30 11 (Aq Aa.enc data_5))] 1) (fun (data_5 : List Aa) => Ac.j5 b cmp j_1 i_2 data_5 = some o1) ?_ ?_
 refine Bh 201 233 B fun B => ?_
 refine C4 rfl G (fun h19 G => ?_) fun h19 G => ?_
 refine Bh 233 257 B fun B => ?_
 refine Ap <| Jy (fun ((j_4, data_4) : Int × List Aa) => mk [(0, .row 0), (1, vk a), (2, vk b), (3, .clo 73 0 []), (9, vk i_2), (10, vk j_1), (11, vk j_4)] [(0, .row 30 11 (Aq Aa.enc data_4))] 1) G (A1 [(0, 0)]) ?_
 rintro ⟨j_4, data_4⟩ m4 o4 G hn4
 replace G : Ac.l4 b cmp j_1 i_2 j_4 data_4 = some o4 := G
 show B2 _ _ _ _ (mk _ _ _)
 unfold Ac.l4 at G
 refine Aj <| Bh 1 17 A5 fun B => ?_
 refine C4 rfl G (fun h22 G => ?_) fun h22 G => ?_
 refine Dg ?_
 refine Aj <| Ap <| Aj <| Aj <| Bq (B8 _ _ []) (by kernel_rfl) [0, 0, 0, 6, 14, 0, 0, 64, 224, 480, 1023, 2047, 4095] 17 121 B rfl rfl (by kernel_rfl) ?_
 refine Aw ?_
 obtain ⟨e_6, he_6, G⟩ := Ab G
 refine Aw ?_
 refine Ks he_6 ?_
 refine Aw ?_
 obtain ⟨e_7, he_7, G⟩ := Ab G
 refine Aw ?_
 refine Ks he_7 ?_
 obtain ⟨y_2, hy_2, G⟩ := Ab G
 refine Cy (rd := []) (ps := []) (gs := []) false rfl rfl (hf_cmp e_6 e_7 _ hy_2) rfl rfl (.cons (.agg (.cons .val (.cons .val (.cons .val (.cons .val (.cons .val (.cons .val (.cons .val (.cons .val (.cons .val (.cons .val (.cons .val .nil)))))))))))) (.cons (.agg (.cons .val (.cons .val (.cons .val (.cons .val (.cons .val (.cons .val (.cons .val (.cons .val (.cons .val (.cons .val (.cons .val .nil)))))))))))) .nil)) rfl rfl (by intro h; cases h) rfl rfl rfl rfl ?_
 refine Bj fun B => ?_
 refine C4 rfl G (fun h24 G => ?_) fun h24 G => ?_
 refine Jl ?_
 replace G := Cn G hn4
 exact ⟨data_4, G, A1 [(0, 0)]⟩
 refine Dg ?_
 refine Bq (B8 _ _ []) (by kernel_rfl) [0, 0, 0, 0, 8, 0, 0, 64, 224, 480, 0, 0, 3072, 7168, 16355, 32739, 65535, 131071] 121 265 B rfl rfl (by kernel_rfl) ?_
 refine Aw ?_
 refine Ks he_7 ?_
 refine Aw ?_
 refine Ks he_6 ?_
 refine Aw ?_
 refine S5 J7 he_6 (x' := e_7) ?_
 obtain ⟨e_8, he_8, G⟩ := Ab G
 refine Aw ?_
 refine S5 J7 he_8 (x' := e_6) ?_
 refine Gk fun B => ?_
 refine Ak (B8 _ _ []) 265 289 B rfl rfl ?_
 refine Bj fun B => ?_
 obtain rfl := oi_ G
 exact ⟨((W (j_4 - 1), Cs (Cs data_4 ((j_4).toNat) e_7) ((W (j_4 - 1)).toNat) e_6), m4), Nat.lt_succ_self _, hn4, A1 [(0, 0)]⟩
 refine Jl ?_
 replace G := Cn G hn4
 exact ⟨data_4, G, A1 [(0, 0)]⟩
 refine Dg ?_
 exact ⟨Cs (Cs data_1 ((i_2).toNat) e_3) ((W (i_2 - 1)).toNat) e_4, G, A1 [(0, 0)]⟩
 rintro data_5 G
 replace G : Ac.j5 b cmp j_1 i_2 data_5 = some o1 := G
 show B2 _ _ _ _ (mk _ _ _)
 unfold Ac.j5 at G
 refine Bh 1 33 A5 fun B => ?_
 refine C4 rfl G (fun h28 G => ?_) fun h28 G => ?_
 refine Bh 33 57 B fun B => ?_
 refine Ap <| Jy (fun ((j_6, data_6) : Int × List Aa) => mk [(0, .row 0), (1, vk a), (2, vk b), (3, .clo 73 0 []), (9, vk i_2), (10, vk j_1), (12, vk j_6)] [(0, .row 30 11 (Aq Aa.enc data_6))] 1) G (A1 [(0, 0)]) ?_
 rintro ⟨j_6, data_6⟩ m6 o6 G hn6
 replace G : Ac.l6 b cmp j_1 i_2 j_6 data_6 = some o6 := G
 show B2 _ _ _ _ (mk _ _ _)
 unfold Ac.l6 at G
 refine Aj <| Bh 1 25 A5 fun B => ?_
 refine C4 rfl G (fun h31 G => ?_) fun h31 G => ?_
 refine Dg ?_
 refine Aj <| Ap <| Aj <| Aj <| Bq (B8 _ _ []) (by kernel_rfl) [0, 0, 0, 6, 14, 0, 0, 64, 224, 480, 1023, 2047, 4095] 25 129 B rfl rfl (by kernel_rfl) ?_
 refine Aw ?_
 obtain ⟨e_9, he_9, G⟩ := Ab G
 refine Aw ?_
 refine Ks he_9 ?_
 refine Aw ?_
 obtain ⟨e_10, he_10, G⟩ := Ab G
 refine Aw ?_
 refine Ks he_10 ?_
 obtain ⟨y_3, hy_3, G⟩ := Ab G
 refine Cy (rd := []) (ps := []) (gs := []) false rfl rfl (hf_cmp e_9 e_10 _ hy_3) rfl rfl (.cons (.agg (.cons .val (.cons .val (.cons .val (.cons .val (.cons .val (.cons .val (.cons .val (.cons .val (.cons .val (.cons .val (.cons .val .nil)))))))))))) (.cons (.agg (.cons .val (.cons .val (.cons .val (.cons .val (.cons .val (.cons .val (.cons .val (.cons .val (.cons .val (.cons .val (.cons .val .nil)))))))))))) .nil)) rfl rfl (by intro h; cases h) rfl rfl rfl rfl ?_
 refine Bj fun B => ?_
 refine C4 rfl G (fun h33 G => ?_) fun h33 G => ?_
 refine Jl ?_
 replace G := Cn G hn6
 exact ⟨(i_2, data_6), G, A1 [(0, 0)]⟩
 refine Dg ?_
 refine Bq (B8 _ _ []) (by kernel_rfl) [0, 0, 0, 0, 8, 0, 0, 64, 224, 480, 0, 0, 3072, 7168, 16355, 32739, 65535, 131071] 129 273 B rfl rfl (by kernel_rfl) ?_
 refine Aw ?_
 refine Ks he_10 ?_
 refine Aw ?_
 refine Ks he_9 ?_
 refine Aw ?_
 refine S5 J7 he_9 (x' := e_10) ?_
 obtain ⟨e_11, he_11, G⟩ := Ab G
 refine Aw ?_
 refine S5 J7 he_11 (x' := e_9) ?_
 refine Gk fun B => ?_
 refine Ak (B8 _ _ []) 273 297 B rfl rfl ?_
 refine Bj fun B => ?_
 obtain rfl := oi_ G
 exact ⟨((W (j_6 + 1), Cs (Cs data_6 ((j_6).toNat) e_10) ((W (j_6 - 1)).toNat) e_9), m6), Nat.lt_succ_self _, hn6, A1 [(0, 0)]⟩
 refine Jl ?_
 replace G := Cn G hn6
 exact ⟨(i_2, data_6), G, A1 [(0, 0)]⟩
 refine Dg ?_
 exact ⟨(i_2, data_5), G, A1 [(0, 0)]⟩
 rintro ⟨i_7, data_7⟩ G
 replace G : Ac.j7 j_1 i_7 data_7 = some o1 := G
 show B2 _ _ _ _ (mk _ _ _)
 unfold Ac.j7 at G
 refine Ak (B8 _ _ []) 1 25 A5 rfl rfl ?_
 refine Bj fun B => ?_
 obtain rfl := oi_ G
 exact ⟨((i_7, W (j_1 + 1), data_7), m1), Nat.lt_succ_self _, hn1, A1 [(0, 0)]⟩
 refine Jl ?_
 replace G := Cn G hn1
 refine Bh 17 25 B fun B => ?_
 refine Fg ?_
 obtain rfl := oi_ G
 exact Gr [(0, 0)] ⟨rfl, rfl⟩
end Go.Proofs.YtidpkjdkfkkgiaaGreat
