import Derived.Test.YtidpkjdkfkkgiaaGreatT1
import Derived.Test.YtidpkjdkfkkgiaaGreatA1
import Derived.Test.YtidpkjdkfkkgiaaGreatA2
import Derived.Test.YtidpkjdkfkkgiaaGreatA6
import Derived.Test.YtidpkjdkfkkgiaaGreatA9
import Derived.Test.YtidpkjdkfkkgiaaGreatA10
set_option linter.unusedVariables false
set_option linter.unusedSimpArgs false
set_option maxRecDepth 100000
set_option maxHeartbeats 1600000
namespace Go.Proofs.YtidpkjdkfkkgiaaGreat
open Go.RowKit
theorem Pb (h' : C7) (r : (List UInt8) × Int) (G : Bw h' = some r) : Fn Tryz.prog 39 0 [.agg (C7.dv h')] [] (fun d' b' => d' = .tup [.sl 1 (Aq e8 r.1), vk r.2] /\ b' = []) := by
 unfold Bw at G
 refine Fn.of Tryz.func39 rfl rfl rfl fun w0 I ρ0 => ?_
 show B2 _ ⟨w0, I, ρ0, 0, 0, 57⟩ _ _ _
 refine Bh 0 24 A5 fun B => ?_
 refine Aj <| B9 24 48 B ?_
 refine Aw ?_
 obtain ⟨y, hy, G⟩ := Ab G
 refine Do (P4 _ _ hy) ?_
 refine Bj fun B => ?_
 refine C4 rfl G (fun h3 G => ?_) fun h3 G => ?_
 refine B9 48 64 B ?_
 exact De
 refine Dg ?_
 refine B9 48 120 B ?_
 refine Aw ?_
 refine C0 rfl rfl (E2 L5 Mc) rfl rfl ?_
 refine Aw ?_
 refine C0 rfl rfl (E2 L5 Mc) rfl rfl ?_
 refine Kh Lg z5 iR ([(1 : UInt8), (u8 h'.Most), (u8 (h'.Suites.length : Int))] : List UInt8) e8 ?_
 refine Bj fun B => ?_
 refine Aj <| Bh 120 152 B fun B => ?_
 refine Ap <| Jy (fun ((x23_1, b_1) : Int × List UInt8) => mk [(1, .ptr 0 0), (4, .row 1), (21, .sl 1 (Aq eI h'.Suites)), (22, .val (.int .i64 (h'.Suites.length : Int))), (23, vk x23_1)] [(0, .box (C7.dv h') 48), (1, .row 5 1 (Aq e8 b_1))] 2) G (A1 [(0, 0), (1, 104)]) ?_
 rintro ⟨x23_1, b_1⟩ m1 o1 G hn1
 replace G : Bw.l1 h' x23_1 b_1 = some o1 := G
 show B2 _ _ _ _ (mk _ _ _)
 unfold Bw.l1 at G
 refine Bh 2 10 A5 fun B => ?_
 refine Aj <| C4 rfl G (fun h8 G => ?_) fun h8 G => ?_
 refine Dg ?_
 refine Aj <| Ap <| B9 10 34 B ?_
 obtain ⟨e, he, G⟩ := Ab G
 refine Aw ?_
 refine Ra he ?_
 refine Bj fun B => ?_
 refine Ak (B8 _ _ []) 34 106 B rfl rfl ?_
 refine Aw ?_
 obtain ⟨q, hq, G⟩ := Ab G
 refine C0 rfl rfl (Nu hq) rfl rfl ?_
 refine C0 rfl rfl (E2 L5 Mc) rfl rfl ?_
 refine Aw ?_
 refine C0 rfl rfl (E2 L5 Mc) rfl rfl ?_
 refine Kh Lg z5 iR ([(u8 q), (u8 e)] : List UInt8) e8 ?_
 obtain ⟨l, hl, G⟩ := Ab G
 refine Gd (rd := [1, 82]) rfl rfl (D5 Lg Jb .row rfl .row rfl hl rfl) rfl rfl ?_
 refine Bj fun B => ?_
 refine Ak (B8 _ _ []) 106 122 B rfl rfl ?_
 refine Bj fun B => ?_
 obtain rfl := oi_ G
 exact ⟨((W (x23_1 + 1), l), m1), Nat.lt_succ_self _, hn1, A1 [(0, 0), (1, 90)]⟩
 refine Jl ?_
 replace G := Cn G hn1
 refine B9 10 74 B ?_
 refine Aw ?_
 refine C0 rfl rfl (E2 L5 Mc) rfl rfl ?_
 refine Kh Lg z5 iR ([(u8 (h'.Hashes.length : Int))] : List UInt8) e8 ?_
 obtain ⟨l_2, hl_2, G⟩ := Ab G
 refine Gd (rd := [1, 50]) rfl rfl (D5 Lg Jb .row rfl .row rfl hl_2 rfl) rfl rfl ?_
 refine Bj fun B => ?_
 refine Aj <| Bh 74 106 B fun B => ?_
 refine Ap <| Jy (fun ((x46_2, b_2) : Int × List UInt8) => mk [(4, .row 0), (44, .sl 1 (Aq eI h'.Hashes)), (45, .val (.int .i64 (h'.Hashes.length : Int))), (46, vk x46_2)] [(0, .row 5 1 (Aq e8 b_2))] 1) G (A1 [(0, 58)]) ?_
 rintro ⟨x46_2, b_2⟩ m2 o2 G hn2
 replace G : Bw.l2 h' x46_2 b_2 = some o2 := G
 show B2 _ _ _ _ (mk _ _ _)
 unfold Bw.l2 at G
 refine Bh 1 9 A5 fun B => ?_
 refine Aj <| C4 rfl G (fun h15 G => ?_) fun h15 G => ?_
 refine Dg ?_
 refine Aj <| Ap <| B9 9 33 B ?_
 obtain ⟨e_2, he_2, G⟩ := Ab G
 refine Aw ?_
 refine Ra he_2 ?_
 refine Bj fun B => ?_
 refine Ak (B8 _ _ []) 33 81 B rfl rfl ?_
 refine Aw ?_
 refine C0 rfl rfl (E2 L5 Mc) rfl rfl ?_
 refine Kh Lg z5 iR ([(u8 e_2)] : List UInt8) e8 ?_
 obtain ⟨l_3, hl_3, G⟩ := Ab G
 refine Gd (rd := [0, 57]) rfl rfl (D5 Lg Jb .row rfl .row rfl hl_3 rfl) rfl rfl ?_
 refine Bj fun B => ?_
 refine Ak (B8 _ _ []) 81 97 B rfl rfl ?_
 refine Bj fun B => ?_
 obtain rfl := oi_ G
 exact ⟨((W (x46_2 + 1), l_3), m2), Nat.lt_succ_self _, hn2, A1 [(0, 65)]⟩
 refine Jl ?_
 replace G := Cn G hn2
 refine Bh 9 33 B fun B => ?_
 exact La
theorem Pd (c : Cz) (r : Bool) (G : Fo c = some r) : Fn Tryz.prog 76 0 [.agg (Cz.dv c)] [] (fun d' b' => d' = .val (.bool r) /\ b' = []) := by
 unfold Fo at G
 refine Fn.of Tryz.func76 rfl rfl rfl fun w0 I ρ0 => ?_
 show B2 _ ⟨w0, I, ρ0, 0, 0, 31⟩ _ _ _
 refine Bh 0 16 A5 fun B => ?_
 refine B9 16 248 B ?_
 refine Aw ?_
 rcases D9 G with ⟨h2, G⟩ | ⟨h2, G⟩
 refine Aw ?_
 rcases D9 G with ⟨h3, G⟩ | ⟨h3, G⟩
 refine Aw ?_
 rcases D9 G with ⟨h4, G⟩ | ⟨h4, G⟩
 refine Aw ?_
 rcases D9 G with ⟨h5, G⟩ | ⟨h5, G⟩
 refine Aw ?_
 rcases D9 G with ⟨h6, G⟩ | ⟨h6, G⟩
 exact De
 exact De
 exact De
 exact De
 exact De
 exact De
theorem Ow (c : Cz) (r : (List UInt8) × Int) (G : Fb c = some r) : Fn Tryz.prog 40 0 [.agg (Cz.dv c)] [] (fun d' b' => d' = .tup [.sl 1 (Aq e8 r.1), vk r.2] /\ b' = []) := by
 unfold Fb at G
 refine Fn.of Tryz.func40 rfl rfl rfl fun w0 I ρ0 => ?_
 show B2 _ ⟨w0, I, ρ0, 0, 0, 32⟩ _ _ _
 refine Bh 0 24 A5 fun B => ?_
 refine Aj <| B9 24 48 B ?_
 refine Aw ?_
 obtain ⟨y, hy, G⟩ := Ab G
 refine Do (Pd _ _ hy) ?_
 refine Bj fun B => ?_
 refine C4 rfl G (fun h3 G => ?_) fun h3 G => ?_
 refine B9 48 64 B ?_
 exact De
 refine Dg ?_
 refine Bh 48 72 B fun B => ?_
 refine B9 72 264 B ?_
 refine Aw ?_
 refine C0 rfl rfl (E2 L5 Mc) rfl rfl ?_
 refine Aw ?_
 obtain ⟨q, hq, G⟩ := Ab G
 refine C0 rfl rfl (Nu hq) rfl rfl ?_
 refine C0 rfl rfl (E2 L5 Mc) rfl rfl ?_
 refine Aw ?_
 refine C0 rfl rfl (E2 L5 Mc) rfl rfl ?_
 refine Aw ?_
 obtain ⟨q_2, hq_2, G⟩ := Ab G
 refine C0 rfl rfl (Nu hq_2) rfl rfl ?_
 refine C0 rfl rfl (E2 L5 Mc) rfl rfl ?_
 refine Aw ?_
 obtain ⟨q_3, hq_3, G⟩ := Ab G
 refine C0 rfl rfl (Nu hq_3) rfl rfl ?_
 refine C0 rfl rfl (E2 L5 Mc) rfl rfl ?_
 refine Aw ?_
 obtain ⟨q_4, hq_4, G⟩ := Ab G
 refine C0 rfl rfl (Nu hq_4) rfl rfl ?_
 refine C0 rfl rfl (E2 L5 Mc) rfl rfl ?_
 refine Aw ?_
 refine C0 rfl rfl (E2 L5 Mc) rfl rfl ?_
 refine Kh Lg z5 iR ([(2 : UInt8), (u8 c.Version), (u8 q), (u8 c.Suite), (u8 q_2), (u8 q_3), (u8 q_4), (u8 c.KeyId)] : List UInt8) e8 ?_
 exact De
theorem Q9 (at' : Aa) (h' : C7) (c : Cz) (r : (List Aa) × Int) (G : C1 at' h' c = some r) : Fn Tryz.prog 13 0 [.agg (Aa.dv at'), .agg (C7.dv h'), .agg (Cz.dv c)] [] (fun d' b' => d' = .tup [.sl 11 (Aq Aa.enc r.1), vk r.2] /\ b' = []) := by
 unfold C1 at G
 refine Fn.of Tryz.func13 rfl rfl rfl fun w0 I ρ0 => ?_
 show B2 _ ⟨w0, I, ρ0, 0, 0, 73⟩ _ _ _
 refine Bh 0 40 A5 fun B => ?_
 refine B9 40 96 B ?_
 refine Aw ?_
 obtain ⟨y, hy, G⟩ := Ab G
 refine G9 (rd := []) (ps := []) (gs := []) false rfl (M4 _ _ hy) rfl rfl (.cons (.agg (.cons .val (.cons .val (.cons .val (.cons .val (.cons .val (.cons .val (.cons .val (.cons .val (.cons .val (.cons .val (.cons .val .nil)))))))))))) .nil) rfl rfl (by intro h; cases h) rfl (by intro h; first | (cases h; done) | exact ⟨_, _, ⟨rfl, rfl⟩, by simp, by simp⟩) ?_
 rintro _ _ ⟨rfl, rfl⟩
 refine Bj fun B => ?_
 refine Aj <| Bh 96 112 B fun B => ?_
 refine C4 rfl G (fun h4 G => ?_) fun h4 G => ?_
 refine B9 112 136 B ?_
 exact De
 refine Dg ?_
 refine Aj <| B9 112 168 B ?_
 refine Aw ?_
 obtain ⟨y_2, hy_2, G⟩ := Ab G
 refine Do (Pb _ _ hy_2) ?_
 refine Bj fun B => ?_
 refine Bh 168 184 B fun B => ?_
 refine C4 rfl G (fun h8 G => ?_) fun h8 G => ?_
 refine B9 184 208 B ?_
 exact De
 refine Dg ?_
 refine Aj <| B9 184 240 B ?_
 refine Aw ?_
 obtain ⟨y_3, hy_3, G⟩ := Ab G
 refine Do (Ow _ _ hy_3) ?_
 refine Bj fun B => ?_
 refine Bh 240 256 B fun B => ?_
 refine C4 rfl G (fun h12 G => ?_) fun h12 G => ?_
 refine B9 256 280 B ?_
 exact De
 refine Dg ?_
 refine B9 256 296 B ?_
 refine Aw ?_
 refine Qz Iu Mm Vf ?_
 refine Aw ?_
 obtain ⟨y_4, hy_4, G⟩ := Ab G
 refine G9 (rd := [48, 49]) (ps := [48]) (gs := [49]) false rfl (Dx _ _ _ _ _ hy_4) rfl rfl (.cons (.ptr rfl) (.cons .val (.cons (.agg (.cons .val (.cons .val .nil))) (.cons .val .nil)))) ⟨_, _, _, rfl, .head _, ⟨_, rfl, (by repeat' (first | exact K3.nil | apply K3.cons | exact Ag.val | exact Ag.sl | exact Ag.nils | exact Ag.ptr rfl | exact Ag.rowK rfl))⟩, ⟨_, _, _, rfl, .tail _ (.head _), rfl, rfl⟩⟩ rfl (by intro h; cases h) rfl (by intro h; first | (cases h; done) | exact ⟨_, _, ⟨rfl, rfl⟩, by simp, by simp⟩) ?_
 rintro _ _ ⟨rfl, rfl⟩
 refine Gk fun B => ?_
 refine B9 296 336 B ?_
 refine Aw ?_
 refine Qz Iu Mm Vf ?_
 refine Aw ?_
 obtain ⟨y_5, hy_5, G⟩ := Ab G
 refine G9 (rd := [48, 288]) (ps := [48]) (gs := [288]) false rfl (Dx _ _ _ _ _ hy_5) rfl rfl (.cons (.ptr rfl) (.cons .val (.cons (.agg (.cons .val (.cons .val .nil))) (.cons .val .nil)))) ⟨_, _, _, rfl, .head _, ⟨_, rfl, (by repeat' (first | exact K3.nil | apply K3.cons | exact Ag.val | exact Ag.sl | exact Ag.nils | exact Ag.ptr rfl | exact Ag.rowK rfl))⟩, ⟨_, _, _, rfl, .tail _ (.head _), rfl, rfl⟩⟩ rfl (by intro h; cases h) rfl (by intro h; first | (cases h; done) | exact ⟨_, _, ⟨rfl, rfl⟩, by simp, by simp⟩) ?_
 rintro _ _ ⟨rfl, rfl⟩
 refine Gk fun B => ?_
 refine Bo (ι := Int × ByteArray × Int × Int × Int × Int × ByteArray × Int × Int × Int × ByteArray × List Aa) (fun ((p_1, p_1_2, p_1_3, p_1_4, p_1_5, p_1_6, p_1_7, p_1_8, p_1_9, p_1_10, p_1_11, l_1) : Int × ByteArray × Int × Int × Int × Int × ByteArray × Int × Int × Int × ByteArray × List Aa) => mk [(8, .ptr 0 0)] [(0, .box [vk p_1, ws p_1_2, vk p_1_3, vk p_1_4, vk p_1_5, vk p_1_6, ws p_1_7, vk p_1_8, vk p_1_9, vk p_1_10, ws p_1_11, .row 1] 80), (1, .row 30 11 (Aq Aa.enc l_1))] 2) (fun ((p_1, p_1_2, p_1_3, p_1_4, p_1_5, p_1_6, p_1_7, p_1_8, p_1_9, p_1_10, p_1_11, l_1) : Int × ByteArray × Int × Int × Int × Int × ByteArray × Int × Int × Int × ByteArray × List Aa) => C1.j1 p_1 p_1_2 p_1_3 p_1_4 p_1_5 p_1_6 p_1_7 p_1_8 p_1_9 p_1_10 p_1_11 l_1 = some r) ?_ ?_
 refine B9 336 408 B ?_
 refine Aw ?_
 obtain ⟨y_6, hy_6, G⟩ := Ab G
 refine Do (Qu _ _ hy_6) ?_
 refine Bj fun B => ?_
 refine Bh 408 424 B fun B => ?_
 refine C4 rfl G (fun h18 G => ?_) fun h18 G => ?_
 refine B9 424 456 B ?_
 refine Aw ?_
 obtain ⟨y_7, hy_7, G⟩ := Ab G
 refine G9 (rd := [48, 328]) (ps := [48]) (gs := [328]) false rfl (Dx _ _ _ _ _ hy_7) rfl rfl (.cons (.ptr rfl) (.cons .val (.cons (.agg (.cons .val (.cons .val .nil))) (.cons .val .nil)))) ⟨_, _, _, rfl, .head _, ⟨_, rfl, (by repeat' (first | exact K3.nil | apply K3.cons | exact Ag.val | exact Ag.sl | exact Ag.nils | exact Ag.ptr rfl | exact Ag.rowK rfl))⟩, ⟨_, _, _, rfl, .tail _ (.head _), rfl, rfl⟩⟩ rfl (by intro h; cases h) rfl (by intro h; first | (cases h; done) | exact ⟨_, _, ⟨rfl, rfl⟩, by simp, by simp⟩) ?_
 rintro _ _ ⟨rfl, rfl⟩
 refine Gk fun B => ?_
 refine Ak (B8 _ _ []) 456 488 B rfl rfl ?_
 refine Aw ?_
 obtain ⟨y_8, hy_8, G⟩ := Ab G
 refine G9 (rd := [48, 448]) (ps := [48]) (gs := [448]) false rfl (Dx _ _ _ _ _ hy_8) rfl rfl (.cons (.ptr rfl) (.cons .val (.cons (.agg (.cons .val (.cons .val .nil))) (.cons .val .nil)))) ⟨_, _, _, rfl, .head _, ⟨_, rfl, (by repeat' (first | exact K3.nil | apply K3.cons | exact Ag.val | exact Ag.sl | exact Ag.nils | exact Ag.ptr rfl | exact Ag.rowK rfl))⟩, ⟨_, _, _, rfl, .tail _ (.head _), rfl, rfl⟩⟩ rfl (by intro h; cases h) rfl (by intro h; first | (cases h; done) | exact ⟨_, _, ⟨rfl, rfl⟩, by simp, by simp⟩) ?_
 rintro _ _ ⟨rfl, rfl⟩
 refine Gk fun B => ?_
 exact ⟨(y_8.at_.Source, y_8.at_.Host, y_8.at_.Machine, y_8.at_.Day, y_8.at_.Confidence, y_8.at_.Kind, y_8.at_.Subject, y_8.at_.Use.Alg, y_8.at_.Use.Bits, y_8.at_.Number, y_8.at_.Text, y_8.l), G, A1 [(0, 48), (1, 480)]⟩
 refine Dg ?_
 exact ⟨(y_5.at_.Source, y_5.at_.Host, y_5.at_.Machine, y_5.at_.Day, y_5.at_.Confidence, y_5.at_.Kind, y_5.at_.Subject, y_5.at_.Use.Alg, y_5.at_.Use.Bits, y_5.at_.Number, y_5.at_.Text, y_5.l), G, A1 [(0, 48), (1, 328)]⟩
 rintro ⟨p_1, p_1_2, p_1_3, p_1_4, p_1_5, p_1_6, p_1_7, p_1_8, p_1_9, p_1_10, p_1_11, l_1⟩ G
 replace G : C1.j1 p_1 p_1_2 p_1_3 p_1_4 p_1_5 p_1_6 p_1_7 p_1_8 p_1_9 p_1_10 p_1_11 l_1 = some r := G
 show B2 _ _ _ _ (mk _ _ _)
 unfold C1.j1 at G
 refine Aj <| E3 (σ' := mk [(8, .ptr 0 0)] [(0, .box [vk p_1, ws p_1_2, vk p_1_3, vk p_1_4, vk p_1_5, vk p_1_6, ws p_1_7, vk p_1_8, vk p_1_9, vk p_1_10, ws p_1_11, .sl 11 (Aq Aa.enc l_1)] 80)] 1) (A1 [(0, 0)]) ?_
 refine Ak (B8 _ _ []) 1 73 A5 rfl rfl ?_
 refine Aw ?_
 obtain ⟨y_9, hy_9, G⟩ := Ab G
 refine Do (N4 _ _ hy_9) ?_
 exact De
theorem Pp (l : (List Int)) (low : Int) (high : Int) (r : Bool) (G : Ch l low high = some r) : Fn Tryz.prog 42 0 [.sl 1 (Aq eI l), vk low, vk high] [] (fun d' b' => d' = .val (.bool r) /\ b' = []) := by
 unfold Ch at G
 refine Fn.of Tryz.func42 rfl rfl rfl fun w0 I ρ0 => ?_
 show B2 _ ⟨w0, I, ρ0, 0, 0, 38⟩ _ _ _
 refine Bh 0 8 A5 fun B => ?_
 refine Aj <| Bh 8 16 B fun B => ?_
 refine Ap <| Jy (fun (i_1 : Int) => mk [(0, .sl 1 (Aq eI l)), (1, vk low), (2, vk high), (7, vk i_1)] [] 0) G (A1 []) ?_
 rintro i_1 m1 o1 G hn1
 replace G : Ch.l1 l low high i_1 = some o1 := G
 show B2 _ _ _ _ (mk _ _ _)
 unfold Ch.l1 at G
 refine Aj <| Bh 0 32 A5 fun B => ?_
 refine C4 rfl G (fun h4 G => ?_) fun h4 G => ?_
 refine Dg ?_
 refine Aj <| Ap <| Bo (ι := Bool) (fun (x37_2 : Bool) => mk [(0, .sl 1 (Aq eI l)), (1, vk low), (2, vk high), (7, vk i_1), (37, .val (.bool x37_2))] [] 0) (fun (x37_2 : Bool) => Ch.j2 i_1 x37_2 = some o1) ?_ ?_
 refine Bq (B8 _ _ []) (by kernel_rfl) [0, 0, 3, 7, 0, 31, 63, 127, 127, 511, 1023, 127, 4095, 8191, 16383, 32767, 32767, 131071, 32767, 32767, 819199, 1867775, 4194303, 8388607] 32 224 B rfl rfl (by kernel_rfl) ?_
 refine Aw ?_
 obtain ⟨e, he, G⟩ := Ab G
 refine Aw ?_
 refine Ra he ?_
 refine Aw ?_
 rcases D9 G with ⟨h5, G⟩ | ⟨h5, G⟩
 refine Bj fun B => ?_
 exact ⟨true, G, A1 []⟩
 refine Aw ?_
 refine Ra he ?_
 refine Aw ?_
 rcases D9 G with ⟨h7, G⟩ | ⟨h7, G⟩
 refine Bj fun B => ?_
 exact ⟨true, G, A1 []⟩
 refine Aw ?_
 obtain ⟨l_2, hl_2, G⟩ := Ab G
 refine C0 (E5 rfl rfl h7) rfl (Vo Ek It hl_2) rfl rfl ?_
 refine Aw ?_
 refine Ra he ?_
 obtain ⟨y, hy, G⟩ := Ab G
 refine Do (V8 _ _ _ hy) ?_
 refine Bj fun B => ?_
 exact ⟨y, G, A1 []⟩
 rintro x37_2 G
 replace G : Ch.j2 i_1 x37_2 = some o1 := G
 show B2 _ _ _ _ (mk _ _ _)
 unfold Ch.j2 at G
 refine C4 rfl G (fun h10 G => ?_) fun h10 G => ?_
 refine Bh 0 8 A5 fun B => ?_
 refine Fg ?_
 replace G := Cn G hn1
 exact Zh
 refine Dg ?_
 refine Ak (B8 _ _ []) 0 24 A5 rfl rfl ?_
 refine Bj fun B => ?_
 obtain rfl := oi_ G
 exact ⟨(W (i_1 + 1), m1), Nat.lt_succ_self _, hn1, A1 []⟩
 refine Jl ?_
 replace G := Cn G hn1
 refine Bh 32 40 B fun B => ?_
 exact La
theorem Zo (h' : C7) (r : Bool) (G : Kc h' = some r) : Fn Tryz.prog 14 0 [.agg (C7.dv h')] [] (fun d' b' => d' = .val (.bool r) /\ b' = []) := by
 unfold Kc at G
 refine Fn.of Tryz.func14 rfl rfl rfl fun w0 I ρ0 => ?_
 show B2 _ ⟨w0, I, ρ0, 0, 0, 39⟩ _ _ _
 refine Bh 0 16 A5 fun B => ?_
 refine B9 16 312 B ?_
 refine Aw ?_
 rcases D9 G with ⟨h2, G⟩ | ⟨h2, G⟩
 refine Aw ?_
 rcases D9 G with ⟨h3, G⟩ | ⟨h3, G⟩
 refine Aw ?_
 rcases D9 G with ⟨h4, G⟩ | ⟨h4, G⟩
 refine Aw ?_
 rcases D9 G with ⟨h5, G⟩ | ⟨h5, G⟩
 refine Aw ?_
 rcases D9 G with ⟨h6, G⟩ | ⟨h6, G⟩
 refine Aw ?_
 obtain ⟨y, hy, G⟩ := Ab G
 refine Do (Pp _ _ _ _ hy) ?_
 refine Aw ?_
 rcases D9 G with ⟨h7, G⟩ | ⟨h7, G⟩
 refine Aw ?_
 obtain ⟨y_2, hy_2, G⟩ := Ab G
 refine Do (Pp _ _ _ _ hy_2) ?_
 exact De
 exact De
 exact De
 exact De
 exact De
 exact De
 exact De
theorem Su (l : (List Int)) (r : Bool) (G : Ao l = some r) : Fn Tryz.prog 3 0 [.sl 1 (Aq eI l)] [] (fun d' b' => d' = .val (.bool r) /\ b' = []) := by
 unfold Ao at G
 refine Fn.of Tryz.func3 rfl rfl rfl fun w0 I ρ0 => ?_
 show B2 _ ⟨w0, I, ρ0, 0, 0, 187⟩ _ _ _
 refine Bh 0 8 A5 fun B => ?_
 refine Aj <| B9 8 32 B ?_
 refine Aw ?_
 obtain ⟨y, hy, G⟩ := Ab G
 refine Do (bB _ _ hy) ?_
 refine Bj fun B => ?_
 refine C4 rfl G (fun h3 G => ?_) fun h3 G => ?_
 refine B9 32 48 B ?_
 obtain ⟨y_2, hy_2, G⟩ := Ab G
 refine Do (O1 _ hy_2) ?_
 exact De
 refine Dg ?_
 refine B9 32 56 B ?_
 refine Aw ?_
 obtain ⟨y_3, hy_3, G⟩ := Ab G
 refine G9 (rd := []) (ps := []) (gs := []) false rfl (eZ _ _ hy_3) rfl rfl (.cons .sl .nil) rfl rfl (by intro h; cases h) rfl (by intro h; first | (cases h; done) | exact ⟨_, _, ⟨rfl, rfl⟩, by simp, by simp⟩) ?_
 rintro _ _ ⟨rfl, rfl⟩
 refine Bj fun B => ?_
 refine B9 56 88 B ?_
 refine Aw ?_
 obtain ⟨y_4, hy_4, G⟩ := Ab G
 refine Ig [40] [40] [] false (Yn _ _ hy_4) ?_
 refine Bj fun B => ?_
 refine B9 88 120 B ?_
 refine Aw ?_
 obtain ⟨y_5, hy_5, G⟩ := Ab G
 refine Ig [40] [40] [] false (Wk _ _ _ hy_5) ?_
 refine Bj fun B => ?_
 refine B9 120 152 B ?_
 refine Aw ?_
 obtain ⟨y_6, hy_6, G⟩ := Ab G
 refine G9 (rd := []) (ps := []) (gs := []) false rfl (bR _ _ hy_6) rfl rfl (.cons (.agg (.cons .val (.cons .val (.cons .val (.cons .sl (.cons .val (.cons .sl (.cons .sl (.cons .sl (.cons .val .nil)))))))))) .nil) rfl rfl (by intro h; cases h) rfl (by intro h; first | (cases h; done) | exact ⟨_, _, ⟨rfl, rfl⟩, by simp, by simp⟩) ?_
 rintro _ _ ⟨rfl, rfl⟩
 refine Bj fun B => ?_
 refine Aj <| Bh 152 160 B fun B => ?_
 refine Ap <| Jy (fun ((i_1, l_1) : Int × List Int) => mk [(4, .ptr 0 0), (5, .ptr 1 0), (6, .ptr 2 0), (7, vk i_1)] [(0, .box (Aa.dv y_4.1) 30), (1, .box (A6.dv y_5.1) 34), (2, .box [ws y_6.Name, vk y_6.Least, vk y_6.Most, .row 3, .val (.bool y_6.OwnOrder), .row 4, .sl 1 (Aq eI y_6.Anchors), .sl 1 (Aq eI y_6.Hashes), .val (.bool y_6.Fallback)] 34), (3, .row 3 1 (Aq eI l_1)), (4, .row 39 4 (Aq Be.enc y_6.Identities))] 5) G (A1 [(0, 72), (1, 104), (2, 136), (3, 128), (4, 129)]) ?_
 rintro ⟨i_1, l_1⟩ m1 o1 G hn1
 replace G : Ao.l1 y_4 y_5 y_6 i_1 l_1 = some o1 := G
 show B2 _ _ _ _ (mk _ _ _)
 unfold Ao.l1 at G
 refine Aj <| Bh 5 45 A5 fun B => ?_
 refine C4 rfl G (fun h11 G => ?_) fun h11 G => ?_
 refine Dg ?_
 refine Aj <| Ap <| Bq (B8 _ _ []) (by kernel_rfl) [0, 1, 0, 0, 8, 0, 32, 96, 224, 0, 992, 2040, 4088, 8191, 16383] 45 165 B rfl rfl (by kernel_rfl) ?_
 refine Aw ?_
 obtain ⟨e, he, G⟩ := Ab G
 refine Aw ?_
 refine Ra he ?_
 obtain ⟨e_2, he_2, G⟩ := Ab G
 refine Aw ?_
 refine S5 Jv he_2 (x' := e) ?_
 refine Gk fun B => ?_
 refine Ak (B8 _ _ []) 165 189 B rfl rfl ?_
 refine Bj fun B => ?_
 obtain rfl := oi_ G
 exact ⟨((W (i_1 + 1), Cs l_1 ((i_1).toNat) e), m1), Nat.lt_succ_self _, hn1, A1 [(0, 0), (1, 1), (2, 2), (3, 3), (4, 4)]⟩
 refine Jl ?_
 replace G := Cn G hn1
 refine Aj <| Bh 45 53 B fun B => ?_
 refine Ap <| Jy (fun ((i_2, l_2) : Int × List Be) => mk [(4, .ptr 0 0), (5, .ptr 1 0), (6, .ptr 2 0), (8, vk i_2)] [(0, .box (Aa.dv y_4.1) 30), (1, .box (A6.dv y_5.1) 34), (2, .box [ws y_6.Name, vk y_6.Least, vk y_6.Most, .row 3, .val (.bool y_6.OwnOrder), .row 4, .sl 1 (Aq eI y_6.Anchors), .sl 1 (Aq eI y_6.Hashes), .val (.bool y_6.Fallback)] 34), (3, .row 3 1 (Aq eI l_1)), (4, .row 39 4 (Aq Be.enc l_2))] 5) G (A1 [(0, 0), (1, 1), (2, 2), (3, 3), (4, 4)]) ?_
 rintro ⟨i_2, l_2⟩ m2 o2 G hn2
 replace G : Ao.l2 y_4 y_5 y_6 l_1 i_2 l_2 = some o2 := G
 show B2 _ _ _ _ (mk _ _ _)
 unfold Ao.l2 at G
 refine Aj <| Bh 5 45 A5 fun B => ?_
 refine C4 rfl G (fun h16 G => ?_) fun h16 G => ?_
 refine Dg ?_
 refine Aj <| Ap <| Bq (B8 _ _ []) (by kernel_rfl) [0, 1, 0, 0, 8, 0, 32, 96, 224, 0, 992, 2040, 4088, 8191, 16383] 45 165 B rfl rfl (by kernel_rfl) ?_
 refine Aw ?_
 obtain ⟨e_3, he_3, G⟩ := Ab G
 refine Aw ?_
 refine dF he_3 ?_
 obtain ⟨e_4, he_4, G⟩ := Ab G
 refine Aw ?_
 refine S5 aAl he_4 (x' := e_3) ?_
 refine Gk fun B => ?_
 refine Ak (B8 _ _ []) 165 189 B rfl rfl ?_
 refine Bj fun B => ?_
 obtain rfl := oi_ G
 exact ⟨((W (i_2 + 1), Cs l_2 ((i_2).toNat) e_3), m2), Nat.lt_succ_self _, hn2, A1 [(0, 0), (1, 1), (2, 2), (3, 3), (4, 4)]⟩
 refine Jl ?_
 replace G := Cn G hn2
 refine Aj <| Bq (B8 _ _ []) (by kernel_rfl) [0, 1, 3, 0, 8, 24, 7, 71, 255, 511] 45 125 B rfl rfl (by kernel_rfl) ?_
 refine Bj fun B => ?_
 refine B9 125 189 B ?_
 refine Aw ?_
 obtain ⟨y_7, hy_7, G⟩ := Ab G
 refine Do (Km _ _ _ hy_7) ?_
 refine Bj fun B => ?_
 refine Aj <| E3 (σ' := mk [(4, .ptr 0 0), (5, .ptr 1 0), (6, .ptr 2 0), (9, .sl 11 (Aq Aa.enc y_7.1)), (10, vk y_7.2)] [(0, .box (Aa.dv y_4.1) 30), (1, .box (A6.dv y_5.1) 34), (2, .box [ws y_6.Name, vk y_6.Least, vk y_6.Most, .sl 1 (Aq eI l_1), .val (.bool (!y_5.1.OwnOrder)), .row 3, .sl 1 (Aq eI y_6.Anchors), .sl 1 (Aq eI y_6.Hashes), .val (.bool (!y_5.1.Fallback))] 34), (3, .row 39 4 (Aq Be.enc l_2))] 4) (A1 [(0, 0), (1, 1), (2, 2), (3, 4)]) ?_
 refine E3 (σ' := mk [(4, .ptr 0 0), (5, .ptr 1 0), (6, .ptr 2 0), (9, .sl 11 (Aq Aa.enc y_7.1)), (10, vk y_7.2)] [(0, .box (Aa.dv y_4.1) 30), (1, .box (A6.dv y_5.1) 34), (2, .box [ws y_6.Name, vk y_6.Least, vk y_6.Most, .sl 1 (Aq eI l_1), .val (.bool (!y_5.1.OwnOrder)), .sl 4 (Aq Be.enc l_2), .sl 1 (Aq eI y_6.Anchors), .sl 1 (Aq eI y_6.Hashes), .val (.bool (!y_5.1.Fallback))] 34)] 3) (A1 [(0, 0), (1, 1), (2, 2)]) ?_
 refine Ak (B8 _ _ []) 3 67 A5 rfl rfl ?_
 refine Aw ?_
 obtain ⟨y_8, hy_8, G⟩ := Ab G
 refine Do (Km _ _ _ hy_8) ?_
 refine Bj fun B => ?_
 refine Aj <| Bo (ι := Bool) (fun (x111_5 : Bool) => mk [(4, .ptr 0 0), (5, .ptr 1 0), (9, .sl 11 (Aq Aa.enc y_7.1)), (10, vk y_7.2), (12, vk y_8.2), (111, .val (.bool x111_5))] [(0, .box (Aa.dv y_4.1) 30), (1, .box (A6.dv y_5.1) 34)] 2) (fun (x111_5 : Bool) => Ao.j5 y_4 y_5 y_7 y_8 x111_5 = some r) ?_ ?_
 refine Ak (B8 _ _ []) 67 211 B rfl rfl ?_
 refine Aw ?_
 rcases D9 G with ⟨h22, G⟩ | ⟨h22, G⟩
 refine Bj fun B => ?_
 exact ⟨true, G, A1 [(0, 0), (1, 1)]⟩
 refine Aw ?_
 rcases D9 G with ⟨h24, G⟩ | ⟨h24, G⟩
 refine Bj fun B => ?_
 exact ⟨true, G, A1 [(0, 0), (1, 1)]⟩
 refine Aw ?_
 obtain ⟨y_9, hy_9, G⟩ := Ab G
 refine Do (cQ _ _ _ hy_9) ?_
 refine Aw ?_
 rcases D9 G with ⟨h26, G⟩ | ⟨h26, G⟩
 refine Bj fun B => ?_
 exact ⟨true, G, A1 [(0, 0), (1, 1)]⟩
 refine Bj fun B => ?_
 exact ⟨decide ((y_5.1.Suites.length : Int) = 0), G, A1 [(0, 0), (1, 1)]⟩
 rintro x111_5 G
 replace G : Ao.j5 y_4 y_5 y_7 y_8 x111_5 = some r := G
 show B2 _ _ _ _ (mk _ _ _)
 unfold Ao.j5 at G
 refine C4 rfl G (fun h29 G => ?_) fun h29 G => ?_
 refine B9 2 106 A5 ?_
 refine Aw ?_
 rcases D9 G with ⟨h30, G⟩ | ⟨h30, G⟩
 refine Aw ?_
 rcases D9 G with ⟨h31, G⟩ | ⟨h31, G⟩
 obtain ⟨y_10, hy_10, G⟩ := Ab G
 refine Do (O1 _ hy_10) ?_
 exact De
 exact De
 exact De
 refine Dg ?_
 refine Aj <| Bq (B8 _ _ []) (by kernel_rfl) [0, 1, 0, 4, 12, 28, 63, 0, 255] 2 74 A5 rfl rfl (by kernel_rfl) ?_
 refine Aw ?_
 obtain ⟨e_5, he_5, G⟩ := Ab G
 refine Aw ?_
 refine Ra he_5 ?_
 refine Qz kM aDx z46 ?_
 refine Bj fun B => ?_
 refine B9 74 114 B ?_
 refine Aw ?_
 refine Qz iZ aD4 z48 ?_
 refine Bj fun B => ?_
 refine B9 114 186 B ?_
 refine Aw ?_
 obtain ⟨y_11, hy_11, G⟩ := Ab G
 refine Do (Q9 _ _ _ _ hy_11) ?_
 refine Bj fun B => ?_
 refine Aj <| Bh 186 194 B fun B => ?_
 refine Ap <| Jy (fun (k_6 : Int) => mk [(9, .sl 11 (Aq Aa.enc y_7.1)), (14, .ptr 0 0), (15, .sl 11 (Aq Aa.enc y_11.1)), (16, vk y_11.2), (17, vk k_6)] [(0, .box [.val (.int .i64 4), .sl 1 (Aq eI y_5.1.Suites), .val (.slice none 0 0)] 48)] 1) G (A1 [(0, 98)]) ?_
 rintro k_6 m6 o6 G hn6
 replace G : Ao.l6 y_5 y_7 y_11 k_6 = some o6 := G
 show B2 _ _ _ _ (mk _ _ _)
 unfold Ao.l6 at G
 refine Aj <| Bh 1 33 A5 fun B => ?_
 refine C4 rfl G (fun h40 G => ?_) fun h40 G => ?_
 refine Dg ?_
 refine Bo (ι := Unit) (fun (_ : Unit) => mk [(9, .sl 11 (Aq Aa.enc y_7.1)), (14, .ptr 0 0), (15, .sl 11 (Aq Aa.enc y_11.1)), (16, vk y_11.2), (17, vk k_6)] [(0, .box [.val (.int .i64 4), .sl 1 (Aq eI y_5.1.Suites), .val (.slice none 0 0)] 48)] 1) (fun (_ : Unit) => Ao.j9 k_6 = some o6) ?_ ?_
 refine Ap <| Aj <| B9 33 81 B ?_
 refine Aw ?_
 obtain ⟨e_6, he_6, G⟩ := Ab G
 refine Aw ?_
 refine C0 rfl rfl (N0 gK hH (by decide) (Tp Aa.enc_len (Cw he_6) (o := 5) (by decide) rfl)) rfl rfl ?_
 refine C0 rfl rfl (Dy hH (Gt Aa.enc_len (Cw he_6) (o := 5) (c := .int .i64 e_6.Kind) rfl rfl)) rfl rfl ?_
 refine Bj fun B => ?_
 refine C4 rfl G (fun h42 G => ?_) fun h42 G => ?_
 refine Jl ?_
 exact ⟨(), G, A1 [(0, 0)]⟩
 refine Dg ?_
 refine Bh 81 89 B fun B => ?_
 refine Aj <| Bh 89 97 B fun B => ?_
 refine Ap <| Jy (fun ((found_7, m_7) : Bool × Int) => mk [(9, .sl 11 (Aq Aa.enc y_7.1)), (14, .ptr 0 0), (15, .sl 11 (Aq Aa.enc y_11.1)), (16, vk y_11.2), (17, vk k_6), (18, .val (.bool found_7)), (19, vk m_7)] [(0, .box [.val (.int .i64 4), .sl 1 (Aq eI y_5.1.Suites), .val (.slice none 0 0)] 48)] 1) G (A1 [(0, 0)]) ?_
 rintro ⟨found_7, m_7⟩ m7 o7 G hn7
 replace G : Ao.l7 y_7 k_6 e_6 found_7 m_7 = some o7 := G
 show B2 _ _ _ _ (mk _ _ _)
 unfold Ao.l7 at G
 refine Aj <| Bh 1 33 A5 fun B => ?_
 refine C4 rfl G (fun h46 G => ?_) fun h46 G => ?_
 refine Dg ?_
 refine Bo (ι := Bool) (fun (found_8 : Bool) => mk [(9, .sl 11 (Aq Aa.enc y_7.1)), (14, .ptr 0 0), (15, .sl 11 (Aq Aa.enc y_11.1)), (16, vk y_11.2), (17, vk k_6), (18, .val (.bool found_8)), (19, vk m_7)] [(0, .box [.val (.int .i64 4), .sl 1 (Aq eI y_5.1.Suites), .val (.slice none 0 0)] 48)] 1) (fun (found_8 : Bool) => Ao.j8 m_7 found_8 = some o7) ?_ ?_
 refine Ap <| Bq (B8 _ _ []) (by kernel_rfl) [0, 1, 3, 3, 15, 31, 3, 3, 195, 451, 1023, 2047, 4095] 33 137 B rfl rfl (by kernel_rfl) ?_
 refine Aw ?_
 rcases D9 G with ⟨h47, G⟩ | ⟨h47, G⟩
 refine Bj fun B => ?_
 exact ⟨true, G, A1 [(0, 0)]⟩
 refine Aw ?_
 obtain ⟨e_7, he_7, G⟩ := Ab G
 refine Aw ?_
 refine dF he_7 ?_
 refine Aw ?_
 refine dF he_6 ?_
 refine C0 (E5 rfl rfl h47) rfl (Za e_7 e_6) rfl rfl ?_
 refine Bj fun B => ?_
 exact ⟨decide (e_7 = e_6), G, A1 [(0, 0)]⟩
 rintro found_8 G
 replace G : Ao.j8 m_7 found_8 = some o7 := G
 show B2 _ _ _ _ (mk _ _ _)
 unfold Ao.j8 at G
 refine Ak (B8 _ _ []) 1 25 A5 rfl rfl ?_
 refine Bj fun B => ?_
 obtain rfl := oi_ G
 exact ⟨((found_8, W (m_7 + 1)), m7), Nat.lt_succ_self _, hn7, A1 [(0, 0)]⟩
 refine Jl ?_
 replace G := Cn G hn7
 refine Bh 33 49 B fun B => ?_
 refine C4 rfl G (fun h52 G => ?_) fun h52 G => ?_
 refine Bh 49 57 B fun B => ?_
 refine Fg ?_
 replace G := Cn G hn6
 exact Zh
 refine Dg ?_
 exact ⟨(), G, A1 [(0, 0)]⟩
 rintro _ G
 replace G : Ao.j9 k_6 = some o6 := G
 show B2 _ _ _ _ (mk _ _ _)
 unfold Ao.j9 at G
 refine Ak (B8 _ _ []) 1 25 A5 rfl rfl ?_
 refine Bj fun B => ?_
 obtain rfl := oi_ G
 exact ⟨(W (k_6 + 1), m6), Nat.lt_succ_self _, hn6, A1 [(0, 0)]⟩
 refine Jl ?_
 replace G := Cn G hn6
 refine B9 33 153 B ?_
 refine Aw ?_
 rcases D9 G with ⟨h55, G⟩ | ⟨h55, G⟩
 refine Aw ?_
 obtain ⟨y_12, hy_12, G⟩ := Ab G
 refine Do (Zo _ _ hy_12) ?_
 refine Aw ?_
 rcases D9 G with ⟨h56, G⟩ | ⟨h56, G⟩
 refine Aw ?_
 rcases D9 G with ⟨h57, G⟩ | ⟨h57, G⟩
 obtain ⟨y_13, hy_13, G⟩ := Ab G
 refine Do (O1 _ hy_13) ?_
 exact De
 exact De
 exact De
 exact De
end Go.Proofs.YtidpkjdkfkkgiaaGreat
