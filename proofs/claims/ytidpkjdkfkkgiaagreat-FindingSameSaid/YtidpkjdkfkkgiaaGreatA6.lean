import Derived.Test.YtidpkjdkfkkgiaaGreatT1
import Derived.Test.YtidpkjdkfkkgiaaGreatA1
import Derived.Test.YtidpkjdkfkkgiaaGreatA2
import Derived.Test.YtidpkjdkfkkgiaaGreatA3
import Derived.Test.YtidpkjdkfkkgiaaGreatA5
set_option linter.unusedVariables false
set_option linter.unusedSimpArgs false
set_option maxRecDepth 100000
set_option maxHeartbeats 1600000
namespace Go.Proofs.YtidpkjdkfkkgiaaGreat
open Go.RowKit
theorem N4 (l : (List Aa)) (r : (List Aa) × Int) (G : Ce l = some r) : Fn Tryz.prog 38 0 [.sl 11 (Aq Aa.enc l)] [] (fun d' b' => d' = .tup [.sl 11 (Aq Aa.enc r.1), vk r.2] /\ b' = []) := by
 unfold Ce at G
 refine Fn.of Tryz.func38 rfl rfl rfl fun w0 I ρ0 => ?_
 show B2 _ ⟨w0, I, ρ0, 0, 0, 30⟩ _ _ _
 refine Bh 0 16 A5 fun B => ?_
 refine Aj <| Bh 16 40 B fun B => ?_
 refine Ap <| Jy (fun (x10_1 : Int) => mk [(0, .sl 11 (Aq Aa.enc l)), (8, .sl 11 (Aq Aa.enc l)), (9, .val (.int .i64 (l.length : Int))), (10, vk x10_1)] [] 0) G (A1 []) ?_
 rintro x10_1 m1 o1 G hn1
 replace G : Ce.l1 l x10_1 = some o1 := G
 show B2 _ _ _ _ (mk _ _ _)
 unfold Ce.l1 at G
 refine Bh 0 8 A5 fun B => ?_
 refine Aj <| C4 rfl G (fun h4 G => ?_) fun h4 G => ?_
 refine Dg ?_
 refine Aj <| Ap <| B9 8 40 B ?_
 obtain ⟨e, he, G⟩ := Ab G
 refine Aw ?_
 refine dF he ?_
 refine Bj fun B => ?_
 refine B9 40 64 B ?_
 refine Aw ?_
 obtain ⟨y, hy, G⟩ := Ab G
 refine Do (L8 _ _ hy) ?_
 refine Bj fun B => ?_
 refine Bh 64 80 B fun B => ?_
 refine C4 rfl G (fun h8 G => ?_) fun h8 G => ?_
 refine Bh 80 104 B fun B => ?_
 refine Fg ?_
 replace G := Cn G hn1
 exact Zh
 refine Dg ?_
 refine Ak (B8 _ _ []) 80 96 B rfl rfl ?_
 refine Bj fun B => ?_
 obtain rfl := oi_ G
 exact ⟨(W (x10_1 + 1), m1), Nat.lt_succ_self _, hn1, A1 []⟩
 refine Jl ?_
 replace G := Cn G hn1
 refine B9 8 32 B ?_
 refine Aw ?_
 obtain ⟨y_2, hy_2, G⟩ := Ab G
 refine G9 (rd := []) (ps := []) (gs := []) false rfl (Lk _ _ hy_2) rfl rfl (.cons .sl .nil) rfl rfl (by intro h; cases h) rfl (by intro h; first | (cases h; done) | exact ⟨_, _, ⟨rfl, rfl⟩, by simp, by simp⟩) ?_
 rintro _ _ ⟨rfl, rfl⟩
 refine Bj fun B => ?_
 refine B9 32 48 B ?_
 refine Aw ?_
 obtain ⟨y_3, hy_3, G⟩ := Ab G
 refine Ig [16] [16] [] false (Jj y_2 (fun x0 x1 => Ha x0 x1) (fun x0 x1 y h => Ws x0 x1 y h) _ hy_3) ?_
 refine Gk fun B => ?_
 refine B9 48 72 B ?_
 refine Aw ?_
 obtain ⟨y_4, hy_4, G⟩ := Ab G
 refine G9 (rd := [16]) (ps := []) (gs := [16]) false rfl (Kn _ _ hy_4) rfl rfl (.cons (.rowK rfl) .nil) ⟨_, _, _, rfl, .head _, rfl, rfl⟩ rfl (by intro h; cases h) rfl (by intro h; first | (cases h; done) | exact ⟨_, _, ⟨rfl, rfl⟩, by simp, by simp⟩) ?_
 rintro _ _ ⟨rfl, rfl⟩
 refine Bj fun B => ?_
 refine Aj <| Bh 72 96 B fun B => ?_
 refine C4 rfl G (fun h15 G => ?_) fun h15 G => ?_
 refine B9 96 112 B ?_
 exact De
 refine Dg ?_
 refine Bh 96 120 B fun B => ?_
 exact La
theorem S7 (at' : Aa) (l : (List C9)) (r : (List Aa) × Int) (G : Ci at' l = some r) : Fn Tryz.prog 23 0 [.agg (Aa.dv at'), .sl 6 (Aq C9.enc l)] [] (fun d' b' => d' = .tup [.sl 11 (Aq Aa.enc r.1), vk r.2] /\ b' = []) := by
 unfold Ci at G
 refine Fn.of Tryz.func23 rfl rfl rfl fun w0 I ρ0 => ?_
 show B2 _ ⟨w0, I, ρ0, 0, 0, 42⟩ _ _ _
 refine Bh 0 24 A5 fun B => ?_
 refine B9 24 80 B ?_
 refine Aw ?_
 obtain ⟨y, hy, G⟩ := Ab G
 refine G9 (rd := []) (ps := []) (gs := []) false rfl (M4 _ _ hy) rfl rfl (.cons (.agg (.cons .val (.cons .val (.cons .val (.cons .val (.cons .val (.cons .val (.cons .val (.cons .val (.cons .val (.cons .val (.cons .val .nil)))))))))))) .nil) rfl rfl (by intro h; cases h) rfl (by intro h; first | (cases h; done) | exact ⟨_, _, ⟨rfl, rfl⟩, by simp, by simp⟩) ?_
 rintro _ _ ⟨rfl, rfl⟩
 refine Bj fun B => ?_
 refine Bo (ι := Int) (fun (errno_1 : Int) => mk [(1, .sl 6 (Aq C9.enc l)), (6, .ptr 0 0), (7, vk errno_1)] [(0, .box [vk y.1.at_.Source, ws y.1.at_.Host, vk y.1.at_.Machine, vk y.1.at_.Day, vk y.1.at_.Confidence, vk y.1.at_.Kind, ws y.1.at_.Subject, vk y.1.at_.Use.Alg, vk y.1.at_.Use.Bits, vk y.1.at_.Number, ws y.1.at_.Text, .row 1] 80), (1, .row 30 11 (Aq Aa.enc y.1.l))] 2) (fun (errno_1 : Int) => Ci.j1 l y errno_1 = some r) ?_ ?_
 refine Bh 80 96 B fun B => ?_
 refine C4 rfl G (fun h4 G => ?_) fun h4 G => ?_
 refine Ak (B8 _ _ []) 96 120 B rfl rfl ?_
 refine Aw ?_
 obtain ⟨y_2, hy_2, G⟩ := Ab G
 refine Do (Vd _ _ hy_2) ?_
 refine Bj fun B => ?_
 exact ⟨y_2, G, A1 [(0, 32), (1, 33)]⟩
 refine Dg ?_
 exact ⟨y.2, G, A1 [(0, 32), (1, 33)]⟩
 rintro errno_1 G
 replace G : Ci.j1 l y errno_1 = some r := G
 show B2 _ _ _ _ (mk _ _ _)
 unfold Ci.j1 at G
 refine Aj <| Bh 2 18 A5 fun B => ?_
 refine C4 rfl G (fun h7 G => ?_) fun h7 G => ?_
 refine B9 18 42 B ?_
 exact De
 refine Dg ?_
 refine Aj <| Bh 18 42 B fun B => ?_
 refine Ap <| Jy (fun ((x24_2, p_2, p_2_2, p_2_3, p_2_4, p_2_5, p_2_6, p_2_7, p_2_8, p_2_9, p_2_10, p_2_11, l_2) : Int × Int × ByteArray × Int × Int × Int × Int × ByteArray × Int × Int × Int × ByteArray × List Aa) => mk [(6, .ptr 0 0), (22, .sl 6 (Aq C9.enc l)), (23, .val (.int .i64 (l.length : Int))), (24, vk x24_2)] [(0, .box [vk p_2, ws p_2_2, vk p_2_3, vk p_2_4, vk p_2_5, vk p_2_6, ws p_2_7, vk p_2_8, vk p_2_9, vk p_2_10, ws p_2_11, .row 1] 80), (1, .row 30 11 (Aq Aa.enc l_2))] 2) G (A1 [(0, 0), (1, 1)]) ?_
 rintro ⟨x24_2, p_2, p_2_2, p_2_3, p_2_4, p_2_5, p_2_6, p_2_7, p_2_8, p_2_9, p_2_10, p_2_11, l_2⟩ m2 o2 G hn2
 replace G : Ci.l2 l x24_2 p_2 p_2_2 p_2_3 p_2_4 p_2_5 p_2_6 p_2_7 p_2_8 p_2_9 p_2_10 p_2_11 l_2 = some o2 := G
 show B2 _ _ _ _ (mk _ _ _)
 unfold Ci.l2 at G
 refine Bh 2 10 A5 fun B => ?_
 refine Aj <| C4 rfl G (fun h11 G => ?_) fun h11 G => ?_
 refine Dg ?_
 refine Aj <| Ap <| B9 10 42 B ?_
 obtain ⟨e, he, G⟩ := Ab G
 refine Aw ?_
 refine dF he ?_
 refine Bj fun B => ?_
 refine Ak (B8 _ _ []) 42 90 B rfl rfl ?_
 refine Aw ?_
 obtain ⟨y_3, hy_3, G⟩ := Ab G
 refine G9 (rd := [0, 1]) (ps := [0]) (gs := [1]) false rfl (Dx _ _ _ _ _ hy_3) rfl rfl (.cons (.ptr rfl) (.cons .val (.cons (.agg (.cons .val (.cons .val .nil))) (.cons .val .nil)))) ⟨_, _, _, rfl, .head _, ⟨_, rfl, (by repeat' (first | exact K3.nil | apply K3.cons | exact Ag.val | exact Ag.sl | exact Ag.nils | exact Ag.ptr rfl | exact Ag.rowK rfl))⟩, ⟨_, _, _, rfl, .tail _ (.head _), rfl, rfl⟩⟩ rfl (by intro h; cases h) rfl (by intro h; first | (cases h; done) | exact ⟨_, _, ⟨rfl, rfl⟩, by simp, by simp⟩) ?_
 rintro _ _ ⟨rfl, rfl⟩
 refine Gk fun B => ?_
 refine Ak (B8 _ _ []) 90 106 B rfl rfl ?_
 refine Bj fun B => ?_
 obtain rfl := oi_ G
 exact ⟨((W (x24_2 + 1), y_3.at_.Source, y_3.at_.Host, y_3.at_.Machine, y_3.at_.Day, y_3.at_.Confidence, y_3.at_.Kind, y_3.at_.Subject, y_3.at_.Use.Alg, y_3.at_.Use.Bits, y_3.at_.Number, y_3.at_.Text, y_3.l), m2), Nat.lt_succ_self _, hn2, A1 [(0, 0), (1, 82)]⟩
 refine Jl ?_
 replace G := Cn G hn2
 refine Aj <| E3 (σ' := mk [(6, .ptr 0 0)] [(0, .box [vk p_2, ws p_2_2, vk p_2_3, vk p_2_4, vk p_2_5, vk p_2_6, ws p_2_7, vk p_2_8, vk p_2_9, vk p_2_10, ws p_2_11, .sl 11 (Aq Aa.enc l_2)] 80)] 1) (A1 [(0, 0)]) ?_
 refine Ak (B8 _ _ []) 1 73 A5 rfl rfl ?_
 refine Aw ?_
 obtain ⟨y_4, hy_4, G⟩ := Ab G
 refine Do (N4 _ _ hy_4) ?_
 exact De
theorem O1  (r : Bool) (G : Ij = some r) : Fn Tryz.prog 6 0 [] [] (fun d' b' => d' = .val (.bool r) /\ b' = []) := by
 unfold Ij at G
 refine Fn.of Tryz.func6 rfl rfl rfl fun w0 I ρ0 => ?_
 show B2 _ ⟨w0, I, ρ0, 0, 0, 45⟩ _ _ _
 refine Bh 0 8 A5 fun B => ?_
 refine B9 8 32 B ?_
 refine Qz Iu Mm Vf ?_
 refine Bj fun B => ?_
 refine B9 32 56 B ?_
 refine C0 rfl rfl (.build (r := [.val (.int .i64 2), .val (.string (⟨#[97]⟩ : ByteArray)), .val (.int .i64 0), .val (.int .i64 3), .val (.int .i64 90), .val (.int .i64 0), .val (.string (⟨#[115]⟩ : ByteArray)), .val (.int .i64 0), .val (.int .i64 0), .val (.int .i64 0), .val (.string (⟨#[]⟩ : ByteArray))]) Q0 aBk z30 (by kernel_rfl) rfl) rfl rfl ?_
 refine Bj fun B => ?_
 refine Aj <| Ak (B8 _ _ [96]) 56 152 B rfl rfl ?_
 refine Aw ?_
 refine Qz aI aB8 z60 ?_
 refine Aw ?_
 refine Qz aI aB8 z60 ?_
 refine Tt aDf z60 aE3 ([(C9.mk (⟨#[120]⟩ : ByteArray) (As.mk 5 2048) 7 false ([] : (List Af))), (C9.mk (⟨#[121]⟩ : ByteArray) (As.mk 5 2048) 7 false ([] : (List Af)))] : List C9) C9.enc ?_
 obtain ⟨y, hy, G⟩ := Ab G
 refine Do (S7 _ _ _ hy) ?_
 refine Bj fun B => ?_
 refine B9 152 384 B ?_
 refine Aw ?_
 rcases D9 G with ⟨h5, G⟩ | ⟨h5, G⟩
 refine Aw ?_
 rcases D9 G with ⟨h6, G⟩ | ⟨h6, G⟩
 refine Aw ?_
 obtain ⟨e, he, G⟩ := Ab G
 refine Aw ?_
 refine C0 (E5 rfl rfl h6) rfl (N0 pC hH (by decide) (Tp Aa.enc_len (Cw he) (o := 9) (by decide) rfl)) rfl rfl ?_
 refine C0 (E5 rfl rfl h6) rfl (Dy hH (Gt Aa.enc_len (Cw he) (o := 9) (c := .int .i64 e.Number) rfl rfl)) rfl rfl ?_
 refine Aw ?_
 rcases D9 G with ⟨h7, G⟩ | ⟨h7, G⟩
 refine Aw ?_
 refine C0 (E5 rfl rfl h7) rfl (N0 gK hH (by decide) (Tp Aa.enc_len (Cw he) (o := 5) (by decide) rfl)) rfl rfl ?_
 refine C0 (E5 rfl rfl h7) rfl (Dy hH (Gt Aa.enc_len (Cw he) (o := 5) (c := .int .i64 e.Kind) rfl rfl)) rfl rfl ?_
 refine Aw ?_
 rcases D9 G with ⟨h8, G⟩ | ⟨h8, G⟩
 refine Aw ?_
 refine dF he ?_
 obtain ⟨y_2, hy_2, G⟩ := Ab G
 refine Do (L8 _ _ hy_2) ?_
 exact De
 exact De
 exact De
 exact De
 exact De
theorem eZ (l : (List Int)) (r : Ad) (G : Ol l = some r) : Fn Tryz.prog 7 0 [.sl 1 (Aq eI l)] [] (fun d' b' => d' = .ptr 0 0 /\ b' = [.box [.sl 1 (Aq eI r.L), vk r.At] 66]) := by
 unfold Ol at G
 refine Fn.of Tryz.func7 rfl rfl rfl fun w0 I ρ0 => ?_
 show B2 _ ⟨w0, I, ρ0, 0, 0, 6⟩ _ _ _
 refine Bh 0 8 A5 fun B => ?_
 refine B9 8 40 B ?_
 refine Aw ?_
 refine Qz rD aEa z66 ?_
 refine Bj fun B => ?_
 refine Fg ?_
 obtain rfl := oi_ G
 exact Gr [(0, 24)] ⟨rfl, rfl⟩
theorem gD (n : Int) (k : Int) (r : Int) (G : M5 n k = some r) : Fn Tryz.prog 44 0 [vk n, vk k] [] (fun d' b' => d' = vk r /\ b' = []) := by
 unfold M5 at G
 refine Fn.of Tryz.func44 rfl rfl rfl fun w0 I ρ0 => ?_
 show B2 _ ⟨w0, I, ρ0, 0, 0, 14⟩ _ _ _
 refine Bh 0 8 A5 fun B => ?_
 refine Aj <| Bh 8 24 B fun B => ?_
 refine C4 rfl G (fun h3 G => ?_) fun h3 G => ?_
 refine B9 24 32 B ?_
 exact De
 refine Dg ?_
 refine B9 24 88 B ?_
 refine Aw ?_
 obtain ⟨q, hq, G⟩ := Ab G
 refine C0 rfl rfl (fK hq) rfl rfl ?_
 refine Aw ?_
 obtain ⟨q_2, hq_2, G⟩ := Ab G
 refine C0 rfl rfl (fK hq_2) rfl rfl ?_
 exact De
theorem Cg (d : Ad) (n : Int) (r : Int × Ad) (G : Bz d n = some r) : Fn Tryz.prog 17 1 [.ptr 0 0, vk n] [.box [.sl 1 (Aq eI d.L), vk d.At] 66] (fun d' b' => d' = vk r.1 /\ b' = [.box [.sl 1 (Aq eI r.2.L), vk r.2.At] 66]) := by
 unfold Bz at G
 refine Fn.of Tryz.func17 rfl rfl rfl fun w0 I ρ0 => ?_
 show B2 _ ⟨w0, I, ρ0, 1, 1, 35⟩ _ _ _
 refine Bh 1 9 A5 fun B => ?_
 refine Aj <| Aj <| Bq (B8 _ _ []) (by kernel_rfl) [0, 1, 3, 7, 0, 16, 48, 112, 240, 511] 9 89 B rfl rfl (by kernel_rfl) ?_
 refine Bj fun B => ?_
 refine C4 rfl G (fun h3 G => ?_) fun h3 G => ?_
 refine Bh 89 97 B fun B => ?_
 refine Fg ?_
 obtain rfl := oi_ G
 exact Gr [(0, 0)] ⟨rfl, rfl⟩
 refine Dg ?_
 refine Bh 89 153 B fun B => ?_
 refine Aj <| Bq (B8 _ _ []) (by kernel_rfl) [0, 1, 3, 7, 0, 16, 48, 112, 240, 511, 1023, 0, 4095, 8191] 153 265 B rfl rfl (by kernel_rfl) ?_
 refine Aw ?_
 obtain ⟨e, he, G⟩ := Ab G
 refine Aw ?_
 refine Ra he ?_
 refine Aw ?_
 obtain ⟨y, hy, G⟩ := Ab G
 refine Do (gD _ _ _ hy) ?_
 refine Bj fun B => ?_
 refine Fg ?_
 obtain rfl := oi_ G
 exact Gr [(0, 0)] ⟨rfl, rfl⟩
theorem Li (d : Ad) (l : (List ByteArray)) (r : ByteArray × Ad) (G : Gh d l = some r) : Fn Tryz.prog 29 1 [.ptr 0 0, .sl 1 (Aq eS l)] [.box [.sl 1 (Aq eI d.L), vk d.At] 66] (fun d' b' => d' = ws r.1 /\ b' = [.box [.sl 1 (Aq eI r.2.L), vk r.2.At] 66]) := by
 unfold Gh at G
 refine Fn.of Tryz.func29 rfl rfl rfl fun w0 I ρ0 => ?_
 show B2 _ ⟨w0, I, ρ0, 1, 1, 12⟩ _ _ _
 refine Bh 1 9 A5 fun B => ?_
 refine B9 9 73 B ?_
 refine Aw ?_
 obtain ⟨y, hy, G⟩ := Ab G
 refine Ig [0] [0] [] false (Cg _ _ _ hy) ?_
 obtain ⟨e, he, G⟩ := Ab G
 refine Aw ?_
 refine Ra he ?_
 refine Bj fun B => ?_
 refine Fg ?_
 obtain rfl := oi_ G
 exact Gr [(0, 0)] ⟨rfl, rfl⟩
theorem C8 (d : Ad) (l : (List Int)) (r : Int × Ad) (G : Cb d l = some r) : Fn Tryz.prog 20 1 [.ptr 0 0, .sl 1 (Aq eI l)] [.box [.sl 1 (Aq eI d.L), vk d.At] 66] (fun d' b' => d' = vk r.1 /\ b' = [.box [.sl 1 (Aq eI r.2.L), vk r.2.At] 66]) := by
 unfold Cb at G
 refine Fn.of Tryz.func20 rfl rfl rfl fun w0 I ρ0 => ?_
 show B2 _ ⟨w0, I, ρ0, 1, 1, 12⟩ _ _ _
 refine Bh 1 9 A5 fun B => ?_
 refine B9 9 73 B ?_
 refine Aw ?_
 obtain ⟨y, hy, G⟩ := Ab G
 refine Ig [0] [0] [] false (Cg _ _ _ hy) ?_
 obtain ⟨e, he, G⟩ := Ab G
 refine Aw ?_
 refine Ra he ?_
 refine Bj fun B => ?_
 refine Fg ?_
 obtain rfl := oi_ G
 exact Gr [(0, 0)] ⟨rfl, rfl⟩
theorem Yn (d : Ad) (r : Aa × Ad) (G : Br d = some r) : Fn Tryz.prog 8 1 [.ptr 0 0] [.box [.sl 1 (Aq eI d.L), vk d.At] 66] (fun d' b' => d' = .agg (Aa.dv r.1) /\ b' = [.box [.sl 1 (Aq eI r.2.L), vk r.2.At] 66]) := by
 unfold Br at G
 refine Fn.of Tryz.func8 rfl rfl rfl fun w0 I ρ0 => ?_
 show B2 _ ⟨w0, I, ρ0, 1, 1, 76⟩ _ _ _
 refine Bh 1 9 A5 fun B => ?_
 refine Aj <| Ak (B8 _ _ [41, 65, 105, 153]) 9 193 B rfl rfl ?_
 refine Aw ?_
 obtain ⟨y, hy, G⟩ := Ab G
 refine Ig [0] [0] [] false (Cg _ _ _ hy) ?_
 refine Aw ?_
 refine Tt Zr z9 wU ([(⟨#[97]⟩ : ByteArray), (⟨#[98]⟩ : ByteArray), (⟨#[99]⟩ : ByteArray)] : List ByteArray) eS ?_
 obtain ⟨y_2, hy_2, G⟩ := Ab G
 refine Ig [0] [0] [] false (Li _ _ _ hy_2) ?_
 refine Aw ?_
 refine Tt Ek z3 Jv ([0, 1, 2, 0, 3] : List Int) eI ?_
 obtain ⟨y_3, hy_3, G⟩ := Ab G
 refine Ig [0] [0] [] false (C8 _ _ _ hy_3) ?_
 refine Aw ?_
 obtain ⟨y_4, hy_4, G⟩ := Ab G
 refine Ig [0] [0] [] false (Cg _ _ _ hy_4) ?_
 refine Aw ?_
 refine Tt Ek z3 Jv ([90, 50, 100, 1] : List Int) eI ?_
 obtain ⟨y_5, hy_5, G⟩ := Ab G
 refine Ig [0] [0] [] false (C8 _ _ _ hy_5) ?_
 refine Aw ?_
 obtain ⟨y_6, hy_6, G⟩ := Ab G
 refine Ig [0] [0] [] false (Cg _ _ _ hy_6) ?_
 refine Aw ?_
 refine Tt Zr z9 wU ([(⟨#[115]⟩ : ByteArray), (⟨#[116]⟩ : ByteArray)] : List ByteArray) eS ?_
 obtain ⟨y_7, hy_7, G⟩ := Ab G
 refine Ig [0] [0] [] false (Li _ _ _ hy_7) ?_
 refine C0 rfl rfl (.build (r := [.val (.int .i64 (W (1 + y.1))), ws y_2.1, vk y_3.1, vk y_4.1, vk y_5.1, .val (.int .i64 (W (1 + y_6.1))), ws y_7.1, .val (.int .i64 0), .val (.int .i64 0), .val (.int .i64 0), .val (.string (⟨#[]⟩ : ByteArray))]) Q0 aBk z30 (by kernel_rfl) rfl) rfl rfl ?_
 refine Bj fun B => ?_
 refine Bo (ι := Ad × Aa) (fun ((b_3, f_3) : Ad × Aa) => mk [(2, .ptr 1 0), (3, .ptr 2 0)] [(0, .box [.sl 1 (Aq eI b_3.L), vk b_3.At] 66), (1, .box [.val (.int .i64 0), .val (.string (⟨#[]⟩ : ByteArray)), .val (.int .i64 0), .val (.int .i64 0), .val (.int .i64 0), .val (.int .i64 0), .val (.string (⟨#[]⟩ : ByteArray)), .val (.int .i64 0), .val (.int .i64 0), .val (.int .i64 0), .val (.string (⟨#[]⟩ : ByteArray))] 30), (2, .box (Aa.dv f_3) 30)] 3) (fun ((b_3, f_3) : Ad × Aa) => Br.j3 b_3 f_3 = some r) ?_ ?_
 refine Bh 193 209 B fun B => ?_
 refine Ap <| Bo (ι := Bool) (fun (x27_1 : Bool) => mk [(0, .ptr 0 0), (2, .ptr 1 0), (3, .ptr 2 0), (26, .val (.int .i64 (W (1 + y_6.1)))), (27, .val (.bool x27_1))] [(0, .box [.sl 1 (Aq eI y_7.2.L), vk y_7.2.At] 66), (1, .box [.val (.int .i64 0), .val (.string (⟨#[]⟩ : ByteArray)), .val (.int .i64 0), .val (.int .i64 0), .val (.int .i64 0), .val (.int .i64 0), .val (.string (⟨#[]⟩ : ByteArray)), .val (.int .i64 0), .val (.int .i64 0), .val (.int .i64 0), .val (.string (⟨#[]⟩ : ByteArray))] 30), (2, .box [.val (.int .i64 (W (1 + y.1))), ws y_2.1, vk y_3.1, vk y_4.1, vk y_5.1, .val (.int .i64 (W (1 + y_6.1))), ws y_7.1, .val (.int .i64 0), .val (.int .i64 0), .val (.int .i64 0), .val (.string (⟨#[]⟩ : ByteArray))] 30)] 3) (fun (x27_1 : Bool) => Br.j1 y y_2 y_3 y_4 y_5 y_6 y_7 x27_1 = some r) ?_ ?_
 refine Bh 209 225 B fun B => ?_
 refine C4 rfl G (fun h5 G => ?_) fun h5 G => ?_
 refine Dg ?_
 exact ⟨decide ((W (1 + y_6.1)) = 1), G, A1 [(0, 0), (1, 1), (2, 177)]⟩
 refine Ak (B8 _ _ []) 225 241 B rfl rfl ?_
 refine Bj fun B => ?_
 exact ⟨decide ((W (1 + y_6.1)) = 8), G, A1 [(0, 0), (1, 1), (2, 177)]⟩
 rintro x27_1 G
 replace G : Br.j1 y y_2 y_3 y_4 y_5 y_6 y_7 x27_1 = some r := G
 show B2 _ _ _ _ (mk _ _ _)
 unfold Br.j1 at G
 refine C4 rfl G (fun h7 G => ?_) fun h7 G => ?_
 refine Ak (B8 _ _ []) 3 91 A5 rfl rfl ?_
 refine Qz Iu Mm Vf ?_
 refine Qz Iu Mm Vf ?_
 refine Qz Iu Mm Vf ?_
 refine Qz Iu Mm Vf ?_
 refine Kh aC9 Vf aDy ([(As.mk 1 0), (As.mk 2 0), (As.mk 5 1024), (As.mk 14 128)] : List As) As.enc ?_
 refine Aw ?_
 obtain ⟨y_8, hy_8, G⟩ := Ab G
 refine Ig [0] [0] [] false (Cg _ _ _ hy_8) ?_
 obtain ⟨e, he, G⟩ := Ab G
 refine Aw ?_
 refine Ks he ?_
 refine Bj fun B => ?_
 exact ⟨(y_8.2, (Aa.mk (W (1 + y.1)) y_2.1 y_3.1 y_4.1 y_5.1 (W (1 + y_6.1)) y_7.1 e 0 (⟨#[]⟩ : ByteArray))), G, A1 [(0, 0), (1, 1), (2, 2)]⟩
 refine Bh 3 19 A5 fun B => ?_
 refine C4 rfl G (fun h10 G => ?_) fun h10 G => ?_
 refine Ak (B8 _ _ []) 19 59 B rfl rfl ?_
 refine Aw ?_
 obtain ⟨y_9, hy_9, G⟩ := Ab G
 refine Ig [0] [0] [] false (Cg _ _ _ hy_9) ?_
 refine Bj fun B => ?_
 exact ⟨(y_9.2, (Aa.mk (W (1 + y.1)) y_2.1 y_3.1 y_4.1 y_5.1 (W (1 + y_6.1)) y_7.1 (As.mk 0 0) (W (1 + y_9.1)) (⟨#[]⟩ : ByteArray))), G, A1 [(0, 0), (1, 1), (2, 2)]⟩
 refine Bh 19 35 B fun B => ?_
 refine C4 rfl G (fun h13 G => ?_) fun h13 G => ?_
 refine Ak (B8 _ _ [43]) 35 123 B rfl rfl ?_
 refine Aw ?_
 refine Tt Ek z3 Jv ([1024, 2048] : List Int) eI ?_
 obtain ⟨y_10, hy_10, G⟩ := Ab G
 refine Ig [0] [0] [] false (C8 _ _ _ hy_10) ?_
 refine Qz Iu Mm Vf ?_
 refine Aw ?_
 obtain ⟨y_11, hy_11, G⟩ := Ab G
 refine Ig [0] [0] [] false (Cg _ _ _ hy_11) ?_
 refine Bj fun B => ?_
 exact ⟨(y_11.2, (Aa.mk (W (1 + y.1)) y_2.1 y_3.1 y_4.1 y_5.1 (W (1 + y_6.1)) y_7.1 (As.mk 5 y_10.1) (W (100 + y_11.1)) (⟨#[]⟩ : ByteArray))), G, A1 [(0, 0), (1, 1), (2, 2)]⟩
 refine Bo (ι := Bool) (fun (x57_2 : Bool) => mk [(0, .ptr 0 0), (2, .ptr 1 0), (3, .ptr 2 0), (26, .val (.int .i64 (W (1 + y_6.1)))), (57, .val (.bool x57_2))] [(0, .box [.sl 1 (Aq eI y_7.2.L), vk y_7.2.At] 66), (1, .box [.val (.int .i64 0), .val (.string (⟨#[]⟩ : ByteArray)), .val (.int .i64 0), .val (.int .i64 0), .val (.int .i64 0), .val (.int .i64 0), .val (.string (⟨#[]⟩ : ByteArray)), .val (.int .i64 0), .val (.int .i64 0), .val (.int .i64 0), .val (.string (⟨#[]⟩ : ByteArray))] 30), (2, .box [.val (.int .i64 (W (1 + y.1))), ws y_2.1, vk y_3.1, vk y_4.1, vk y_5.1, .val (.int .i64 (W (1 + y_6.1))), ws y_7.1, .val (.int .i64 0), .val (.int .i64 0), .val (.int .i64 0), .val (.string (⟨#[]⟩ : ByteArray))] 30)] 3) (fun (x57_2 : Bool) => Br.j2 y y_2 y_3 y_4 y_5 y_6 y_7 x57_2 = some r) ?_ ?_
 refine Bh 35 51 B fun B => ?_
 refine C4 rfl G (fun h16 G => ?_) fun h16 G => ?_
 refine Dg ?_
 exact ⟨decide ((W (1 + y_6.1)) = 4), G, A1 [(0, 0), (1, 1), (2, 2)]⟩
 refine Ak (B8 _ _ []) 51 67 B rfl rfl ?_
 refine Bj fun B => ?_
 exact ⟨decide ((W (1 + y_6.1)) = 5), G, A1 [(0, 0), (1, 1), (2, 2)]⟩
 rintro x57_2 G
 replace G : Br.j2 y y_2 y_3 y_4 y_5 y_6 y_7 x57_2 = some r := G
 show B2 _ _ _ _ (mk _ _ _)
 unfold Br.j2 at G
 refine C4 rfl G (fun h18 G => ?_) fun h18 G => ?_
 refine Ak (B8 _ _ []) 3 43 A5 rfl rfl ?_
 refine Aw ?_
 obtain ⟨y_12, hy_12, G⟩ := Ab G
 refine Ig [0] [0] [] false (Cg _ _ _ hy_12) ?_
 refine Bj fun B => ?_
 exact ⟨(y_12.2, (Aa.mk (W (1 + y.1)) y_2.1 y_3.1 y_4.1 y_5.1 (W (1 + y_6.1)) y_7.1 (As.mk 0 0) (W (1 + y_12.1)) (⟨#[]⟩ : ByteArray))), G, A1 [(0, 0), (1, 1), (2, 2)]⟩
 refine Bh 3 19 A5 fun B => ?_
 refine C4 rfl G (fun h21 G => ?_) fun h21 G => ?_
 refine Ak (B8 _ _ []) 19 51 B rfl rfl ?_
 refine Aw ?_
 obtain ⟨y_13, hy_13, G⟩ := Ab G
 refine Ig [0] [0] [] false (Cg _ _ _ hy_13) ?_
 refine Bj fun B => ?_
 exact ⟨(y_13.2, (Aa.mk (W (1 + y.1)) y_2.1 y_3.1 y_4.1 y_5.1 (W (1 + y_6.1)) y_7.1 (As.mk 0 0) y_13.1 (⟨#[]⟩ : ByteArray))), G, A1 [(0, 0), (1, 1), (2, 2)]⟩
 refine Bh 19 35 B fun B => ?_
 refine C4 rfl G (fun h24 G => ?_) fun h24 G => ?_
 refine Ak (B8 _ _ [43]) 35 75 B rfl rfl ?_
 refine Aw ?_
 refine Tt Zr z9 wU ([(⟨#[97]⟩ : ByteArray), (⟨#[98]⟩ : ByteArray)] : List ByteArray) eS ?_
 obtain ⟨y_14, hy_14, G⟩ := Ab G
 refine Ig [0] [0] [] false (Li _ _ _ hy_14) ?_
 refine Bj fun B => ?_
 exact ⟨(y_14.2, (Aa.mk (W (1 + y.1)) y_2.1 y_3.1 y_4.1 y_5.1 (W (1 + y_6.1)) y_7.1 (As.mk 0 0) 0 y_14.1)), G, A1 [(0, 0), (1, 1), (2, 2)]⟩
 refine Dg ?_
 exact ⟨(y_7.2, (Aa.mk (W (1 + y.1)) y_2.1 y_3.1 y_4.1 y_5.1 (W (1 + y_6.1)) y_7.1 (As.mk 0 0) 0 (⟨#[]⟩ : ByteArray))), G, A1 [(0, 0), (1, 1), (2, 2)]⟩
 rintro ⟨b_3, f_3⟩ G
 replace G : Br.j3 b_3 f_3 = some r := G
 show B2 _ _ _ _ (mk _ _ _)
 unfold Br.j3 at G
 refine Bh 3 19 A5 fun B => ?_
 refine Fg ?_
 obtain rfl := oi_ G
 exact Gr [(0, 0)] ⟨rfl, rfl⟩
theorem V8 (l : (List Int)) (n : Int) (r : Bool) (G : E6 l n = some r) : Fn Tryz.prog 45 0 [.sl 1 (Aq eI l), vk n] [] (fun d' b' => d' = .val (.bool r) /\ b' = []) := by
 unfold E6 at G
 refine Fn.of Tryz.func45 rfl rfl rfl fun w0 I ρ0 => ?_
 show B2 _ ⟨w0, I, ρ0, 0, 0, 18⟩ _ _ _
 refine Bh 0 8 A5 fun B => ?_
 refine Aj <| Bh 8 16 B fun B => ?_
 refine Ap <| Jy (fun (i_1 : Int) => mk [(0, .sl 1 (Aq eI l)), (1, vk n), (5, vk i_1)] [] 0) G (A1 []) ?_
 rintro i_1 m1 o1 G hn1
 replace G : E6.l1 l n i_1 = some o1 := G
 show B2 _ _ _ _ (mk _ _ _)
 unfold E6.l1 at G
 refine Aj <| Bh 0 32 A5 fun B => ?_
 refine C4 rfl G (fun h4 G => ?_) fun h4 G => ?_
 refine Dg ?_
 refine Aj <| Ap <| B9 32 80 B ?_
 refine Aw ?_
 obtain ⟨e, he, G⟩ := Ab G
 refine Aw ?_
 refine Ra he ?_
 refine Bj fun B => ?_
 refine C4 rfl G (fun h6 G => ?_) fun h6 G => ?_
 refine Bh 80 88 B fun B => ?_
 refine Fg ?_
 replace G := Cn G hn1
 exact Zh
 refine Dg ?_
 refine Ak (B8 _ _ []) 80 104 B rfl rfl ?_
 refine Bj fun B => ?_
 obtain rfl := oi_ G
 exact ⟨(W (i_1 + 1), m1), Nat.lt_succ_self _, hn1, A1 []⟩
 refine Jl ?_
 replace G := Cn G hn1
 refine Bh 32 40 B fun B => ?_
 exact La
theorem I4 (d : Ad) (n : Int) (r : Bool × Ad) (G : Ff d n = some r) : Fn Tryz.prog 30 1 [.ptr 0 0, vk n] [.box [.sl 1 (Aq eI d.L), vk d.At] 66] (fun d' b' => d' = .val (.bool r.1) /\ b' = [.box [.sl 1 (Aq eI r.2.L), vk r.2.At] 66]) := by
 unfold Ff at G
 refine Fn.of Tryz.func30 rfl rfl rfl fun w0 I ρ0 => ?_
 show B2 _ ⟨w0, I, ρ0, 1, 1, 11⟩ _ _ _
 refine Bh 1 9 A5 fun B => ?_
 refine B9 9 65 B ?_
 refine Aw ?_
 obtain ⟨y, hy, G⟩ := Ab G
 refine Ig [0] [0] [] false (Cg _ _ _ hy) ?_
 refine Bj fun B => ?_
 refine Fg ?_
 obtain rfl := oi_ G
 exact Gr [(0, 0)] ⟨rfl, rfl⟩
theorem Ds (alg : Int) (bits : Int) (r : As) (G : Dk alg bits = some r) : Fn Tryz.prog 125 0 [vk alg, vk bits] [] (fun d' b' => d' = .agg [vk r.Alg, vk r.Bits] /\ b' = []) := by
 unfold Dk at G
 refine Fn.of Tryz.func125 rfl rfl rfl fun w0 I ρ0 => ?_
 show B2 _ ⟨w0, I, ρ0, 0, 0, 8⟩ _ _ _
 refine Bh 0 8 A5 fun B => ?_
 refine B9 8 40 B ?_
 refine Aw ?_
 refine Qz Iu Mm Vf ?_
 exact De
theorem D3 (code : Int) (name : ByteArray) (exchange : As) (sign : As) (cipher : As) (mac : As) (least : Int) (most : Int) (r : Ay) (G : Dp code name exchange sign cipher mac least most = some r) : Fn Tryz.prog 126 0 [vk code, ws name, .agg [vk exchange.Alg, vk exchange.Bits], .agg [vk sign.Alg, vk sign.Bits], .agg [vk cipher.Alg, vk cipher.Bits], .agg [vk mac.Alg, vk mac.Bits], vk least, vk most] [] (fun d' b' => d' = .agg (Ay.dv r) /\ b' = []) := by
 unfold Dp at G
 refine Fn.of Tryz.func126 rfl rfl rfl fun w0 I ρ0 => ?_
 show B2 _ ⟨w0, I, ρ0, 0, 0, 26⟩ _ _ _
 refine Bh 0 40 A5 fun B => ?_
 refine B9 40 120 B ?_
 refine Aw ?_
 refine C0 rfl rfl (.build (r := [vk code, ws name, vk exchange.Alg, vk exchange.Bits, vk sign.Alg, vk sign.Bits, vk cipher.Alg, vk cipher.Bits, vk mac.Alg, vk mac.Bits, vk least, vk most]) J3 P7 Zg (by kernel_rfl) rfl) rfl rfl ?_
 exact De
theorem Ze  (r : (List Ay)) (G : Jq = some r) : Fn Tryz.prog 87 0 [] [] (fun d' b' => d' = .sl 12 (Aq Ay.enc r) /\ b' = []) := by
 unfold Jq at G
 refine Fn.of Tryz.func87 rfl rfl rfl fun w0 I ρ0 => ?_
 show B2 _ ⟨w0, I, ρ0, 0, 0, 110⟩ _ _ _
 refine Bh 0 8 A5 fun B => ?_
 refine B9 8 80 B ?_
 obtain ⟨y, hy, G⟩ := Ab G
 refine Do (Ds _ _ _ hy) ?_
 obtain ⟨y_2, hy_2, G⟩ := Ab G
 refine Do (Ds _ _ _ hy_2) ?_
 refine Qz Iu Mm Vf ?_
 refine Bj fun B => ?_
 refine B9 80 128 B ?_
 obtain ⟨y_3, hy_3, G⟩ := Ab G
 refine Do (Ds _ _ _ hy_3) ?_
 obtain ⟨y_4, hy_4, G⟩ := Ab G
 refine Do (Ds _ _ _ hy_4) ?_
 refine Bj fun B => ?_
 refine B9 128 200 B ?_
 obtain ⟨y_5, hy_5, G⟩ := Ab G
 refine Do (Ds _ _ _ hy_5) ?_
 obtain ⟨y_6, hy_6, G⟩ := Ab G
 refine Do (Ds _ _ _ hy_6) ?_
 obtain ⟨y_7, hy_7, G⟩ := Ab G
 refine Do (Ds _ _ _ hy_7) ?_
 refine Bj fun B => ?_
 refine B9 200 296 B ?_
 obtain ⟨y_8, hy_8, G⟩ := Ab G
 refine Do (Ds _ _ _ hy_8) ?_
 obtain ⟨y_9, hy_9, G⟩ := Ab G
 refine Do (Ds _ _ _ hy_9) ?_
 obtain ⟨y_10, hy_10, G⟩ := Ab G
 refine Do (Ds _ _ _ hy_10) ?_
 obtain ⟨y_11, hy_11, G⟩ := Ab G
 refine Do (Ds _ _ _ hy_11) ?_
 refine Bj fun B => ?_
 refine B9 296 344 B ?_
 obtain ⟨y_12, hy_12, G⟩ := Ab G
 refine Do (Ds _ _ _ hy_12) ?_
 obtain ⟨y_13, hy_13, G⟩ := Ab G
 refine Do (Ds _ _ _ hy_13) ?_
 refine Bj fun B => ?_
 refine Aj <| Bq (B8 _ _ []) (by kernel_rfl) [0, 0, 0, 0, 15, 0, 0, 0, 0, 511, 0, 0, 0, 0, 16383, 32767, 65535, 0, 0, 524287, 1048575, 0, 0, 0, 16777215, 0, 0, 0, 0, 536870911, 1073741823, 0, 0, 0, 17179869183, 0, 0, 0, 0, 549755813887, 0, 1099511627775, 3298534883327, 0, 17592186044415, 0, 0, 0, 0, 562949953421311, 1125899906842623, 2251799813685247, 0, 0, 18014398509481983, 0, 0, 0, 0, 576460752303423487, 0, 0, 0, 0, 18446744073709551615, 0, 0, 0, 0, 590295810358705651711, 0, 0, 0, 0, 18889465931478580854783, 37778931862957161709567, 0, 0, 0, 604462909807314587353087, 1208925819614629174706175, 2417851639229258349412351] 344 1000 B rfl rfl (by kernel_rfl) ?_
 refine Aw ?_
 obtain ⟨y_14, hy_14, G⟩ := Ab G
 refine Do (D3 _ _ _ _ _ _ _ _ _ hy_14) ?_
 refine Aw ?_
 obtain ⟨y_15, hy_15, G⟩ := Ab G
 refine Do (D3 _ _ _ _ _ _ _ _ _ hy_15) ?_
 refine Aw ?_
 obtain ⟨y_16, hy_16, G⟩ := Ab G
 refine Do (D3 _ _ _ _ _ _ _ _ _ hy_16) ?_
 obtain ⟨y_17, hy_17, G⟩ := Ab G
 refine Do (Ds _ _ _ hy_17) ?_
 obtain ⟨y_18, hy_18, G⟩ := Ab G
 refine Do (Ds _ _ _ hy_18) ?_
 refine Aw ?_
 obtain ⟨y_19, hy_19, G⟩ := Ab G
 refine Do (D3 _ _ _ _ _ _ _ _ _ hy_19) ?_
 obtain ⟨y_20, hy_20, G⟩ := Ab G
 refine Do (Ds _ _ _ hy_20) ?_
 refine Aw ?_
 obtain ⟨y_21, hy_21, G⟩ := Ab G
 refine Do (D3 _ _ _ _ _ _ _ _ _ hy_21) ?_
 refine Aw ?_
 obtain ⟨y_22, hy_22, G⟩ := Ab G
 refine Do (D3 _ _ _ _ _ _ _ _ _ hy_22) ?_
 obtain ⟨y_23, hy_23, G⟩ := Ab G
 refine Do (Ds _ _ _ hy_23) ?_
 refine Aw ?_
 obtain ⟨y_24, hy_24, G⟩ := Ab G
 refine Do (D3 _ _ _ _ _ _ _ _ _ hy_24) ?_
 refine Aw ?_
 obtain ⟨y_25, hy_25, G⟩ := Ab G
 refine Do (D3 _ _ _ _ _ _ _ _ _ hy_25) ?_
 refine Aw ?_
 obtain ⟨y_26, hy_26, G⟩ := Ab G
 refine Do (Ds _ _ _ hy_26) ?_
 obtain ⟨y_27, hy_27, G⟩ := Ab G
 refine Do (Ds _ _ _ hy_27) ?_
 refine Aw ?_
 obtain ⟨y_28, hy_28, G⟩ := Ab G
 refine Do (D3 _ _ _ _ _ _ _ _ _ hy_28) ?_
 refine Aw ?_
 obtain ⟨y_29, hy_29, G⟩ := Ab G
 refine Do (D3 _ _ _ _ _ _ _ _ _ hy_29) ?_
 obtain ⟨y_30, hy_30, G⟩ := Ab G
 refine Do (Ds _ _ _ hy_30) ?_
 obtain ⟨y_31, hy_31, G⟩ := Ab G
 refine Do (Ds _ _ _ hy_31) ?_
 refine Aw ?_
 obtain ⟨y_32, hy_32, G⟩ := Ab G
 refine Do (D3 _ _ _ _ _ _ _ _ _ hy_32) ?_
 refine Aw ?_
 obtain ⟨y_33, hy_33, G⟩ := Ab G
 refine Do (D3 _ _ _ _ _ _ _ _ _ hy_33) ?_
 refine Aw ?_
 obtain ⟨y_34, hy_34, G⟩ := Ab G
 refine Do (D3 _ _ _ _ _ _ _ _ _ hy_34) ?_
 refine Aw ?_
 obtain ⟨y_35, hy_35, G⟩ := Ab G
 refine Do (D3 _ _ _ _ _ _ _ _ _ hy_35) ?_
 refine Aw ?_
 obtain ⟨y_36, hy_36, G⟩ := Ab G
 refine Do (D3 _ _ _ _ _ _ _ _ _ hy_36) ?_
 obtain ⟨y_37, hy_37, G⟩ := Ab G
 refine Do (Ds _ _ _ hy_37) ?_
 refine Aw ?_
 obtain ⟨y_38, hy_38, G⟩ := Ab G
 refine Do (D3 _ _ _ _ _ _ _ _ _ hy_38) ?_
 refine C0 rfl rfl (Em nI Zg (by decide) rfl rfl rfl rfl aBp (cs := [.int .i64 y_14.Code, .str y_14.Name, .int .i64 y_14.Exchange.Alg, .int .i64 y_14.Exchange.Bits, .int .i64 y_14.Sign.Alg, .int .i64 y_14.Sign.Bits, .int .i64 y_14.Cipher.Alg, .int .i64 y_14.Cipher.Bits, .int .i64 y_14.Mac.Alg, .int .i64 y_14.Mac.Bits, .int .i64 y_14.Least, .int .i64 y_14.Most, .int .i64 y_15.Code, .str y_15.Name, .int .i64 y_15.Exchange.Alg, .int .i64 y_15.Exchange.Bits, .int .i64 y_15.Sign.Alg, .int .i64 y_15.Sign.Bits, .int .i64 y_15.Cipher.Alg, .int .i64 y_15.Cipher.Bits, .int .i64 y_15.Mac.Alg, .int .i64 y_15.Mac.Bits, .int .i64 y_15.Least, .int .i64 y_15.Most, .int .i64 y_16.Code, .str y_16.Name, .int .i64 y_16.Exchange.Alg, .int .i64 y_16.Exchange.Bits, .int .i64 y_16.Sign.Alg, .int .i64 y_16.Sign.Bits, .int .i64 y_16.Cipher.Alg, .int .i64 y_16.Cipher.Bits, .int .i64 y_16.Mac.Alg, .int .i64 y_16.Mac.Bits, .int .i64 y_16.Least, .int .i64 y_16.Most, .int .i64 y_19.Code, .str y_19.Name, .int .i64 y_19.Exchange.Alg, .int .i64 y_19.Exchange.Bits, .int .i64 y_19.Sign.Alg, .int .i64 y_19.Sign.Bits, .int .i64 y_19.Cipher.Alg, .int .i64 y_19.Cipher.Bits, .int .i64 y_19.Mac.Alg, .int .i64 y_19.Mac.Bits, .int .i64 y_19.Least, .int .i64 y_19.Most, .int .i64 y_21.Code, .str y_21.Name, .int .i64 y_21.Exchange.Alg, .int .i64 y_21.Exchange.Bits, .int .i64 y_21.Sign.Alg, .int .i64 y_21.Sign.Bits, .int .i64 y_21.Cipher.Alg, .int .i64 y_21.Cipher.Bits, .int .i64 y_21.Mac.Alg, .int .i64 y_21.Mac.Bits, .int .i64 y_21.Least, .int .i64 y_21.Most, .int .i64 y_22.Code, .str y_22.Name, .int .i64 y_22.Exchange.Alg, .int .i64 y_22.Exchange.Bits, .int .i64 y_22.Sign.Alg, .int .i64 y_22.Sign.Bits, .int .i64 y_22.Cipher.Alg, .int .i64 y_22.Cipher.Bits, .int .i64 y_22.Mac.Alg, .int .i64 y_22.Mac.Bits, .int .i64 y_22.Least, .int .i64 y_22.Most, .int .i64 y_24.Code, .str y_24.Name, .int .i64 y_24.Exchange.Alg, .int .i64 y_24.Exchange.Bits, .int .i64 y_24.Sign.Alg, .int .i64 y_24.Sign.Bits, .int .i64 y_24.Cipher.Alg, .int .i64 y_24.Cipher.Bits, .int .i64 y_24.Mac.Alg, .int .i64 y_24.Mac.Bits, .int .i64 y_24.Least, .int .i64 y_24.Most, .int .i64 y_25.Code, .str y_25.Name, .int .i64 y_25.Exchange.Alg, .int .i64 y_25.Exchange.Bits, .int .i64 y_25.Sign.Alg, .int .i64 y_25.Sign.Bits, .int .i64 y_25.Cipher.Alg, .int .i64 y_25.Cipher.Bits, .int .i64 y_25.Mac.Alg, .int .i64 y_25.Mac.Bits, .int .i64 y_25.Least, .int .i64 y_25.Most, .int .i64 y_28.Code, .str y_28.Name, .int .i64 y_28.Exchange.Alg, .int .i64 y_28.Exchange.Bits, .int .i64 y_28.Sign.Alg, .int .i64 y_28.Sign.Bits, .int .i64 y_28.Cipher.Alg, .int .i64 y_28.Cipher.Bits, .int .i64 y_28.Mac.Alg, .int .i64 y_28.Mac.Bits, .int .i64 y_28.Least, .int .i64 y_28.Most, .int .i64 y_29.Code, .str y_29.Name, .int .i64 y_29.Exchange.Alg, .int .i64 y_29.Exchange.Bits, .int .i64 y_29.Sign.Alg, .int .i64 y_29.Sign.Bits, .int .i64 y_29.Cipher.Alg, .int .i64 y_29.Cipher.Bits, .int .i64 y_29.Mac.Alg, .int .i64 y_29.Mac.Bits, .int .i64 y_29.Least, .int .i64 y_29.Most, .int .i64 y_32.Code, .str y_32.Name, .int .i64 y_32.Exchange.Alg, .int .i64 y_32.Exchange.Bits, .int .i64 y_32.Sign.Alg, .int .i64 y_32.Sign.Bits, .int .i64 y_32.Cipher.Alg, .int .i64 y_32.Cipher.Bits, .int .i64 y_32.Mac.Alg, .int .i64 y_32.Mac.Bits, .int .i64 y_32.Least, .int .i64 y_32.Most, .int .i64 y_33.Code, .str y_33.Name, .int .i64 y_33.Exchange.Alg, .int .i64 y_33.Exchange.Bits, .int .i64 y_33.Sign.Alg, .int .i64 y_33.Sign.Bits, .int .i64 y_33.Cipher.Alg, .int .i64 y_33.Cipher.Bits, .int .i64 y_33.Mac.Alg, .int .i64 y_33.Mac.Bits, .int .i64 y_33.Least, .int .i64 y_33.Most, .int .i64 y_34.Code, .str y_34.Name, .int .i64 y_34.Exchange.Alg, .int .i64 y_34.Exchange.Bits, .int .i64 y_34.Sign.Alg, .int .i64 y_34.Sign.Bits, .int .i64 y_34.Cipher.Alg, .int .i64 y_34.Cipher.Bits, .int .i64 y_34.Mac.Alg, .int .i64 y_34.Mac.Bits, .int .i64 y_34.Least, .int .i64 y_34.Most, .int .i64 y_35.Code, .str y_35.Name, .int .i64 y_35.Exchange.Alg, .int .i64 y_35.Exchange.Bits, .int .i64 y_35.Sign.Alg, .int .i64 y_35.Sign.Bits, .int .i64 y_35.Cipher.Alg, .int .i64 y_35.Cipher.Bits, .int .i64 y_35.Mac.Alg, .int .i64 y_35.Mac.Bits, .int .i64 y_35.Least, .int .i64 y_35.Most, .int .i64 y_36.Code, .str y_36.Name, .int .i64 y_36.Exchange.Alg, .int .i64 y_36.Exchange.Bits, .int .i64 y_36.Sign.Alg, .int .i64 y_36.Sign.Bits, .int .i64 y_36.Cipher.Alg, .int .i64 y_36.Cipher.Bits, .int .i64 y_36.Mac.Alg, .int .i64 y_36.Mac.Bits, .int .i64 y_36.Least, .int .i64 y_36.Most, .int .i64 y_38.Code, .str y_38.Name, .int .i64 y_38.Exchange.Alg, .int .i64 y_38.Exchange.Bits, .int .i64 y_38.Sign.Alg, .int .i64 y_38.Sign.Bits, .int .i64 y_38.Cipher.Alg, .int .i64 y_38.Cipher.Bits, .int .i64 y_38.Mac.Alg, .int .i64 y_38.Mac.Bits, .int .i64 y_38.Least, .int .i64 y_38.Most]) (.cons .int (.cons .str (.cons .int (.cons .int (.cons .int (.cons .int (.cons .int (.cons .int (.cons .int (.cons .int (.cons .int (.cons .int (.cons .int (.cons .str (.cons .int (.cons .int (.cons .int (.cons .int (.cons .int (.cons .int (.cons .int (.cons .int (.cons .int (.cons .int (.cons .int (.cons .str (.cons .int (.cons .int (.cons .int (.cons .int (.cons .int (.cons .int (.cons .int (.cons .int (.cons .int (.cons .int (.cons .int (.cons .str (.cons .int (.cons .int (.cons .int (.cons .int (.cons .int (.cons .int (.cons .int (.cons .int (.cons .int (.cons .int (.cons .int (.cons .str (.cons .int (.cons .int (.cons .int (.cons .int (.cons .int (.cons .int (.cons .int (.cons .int (.cons .int (.cons .int (.cons .int (.cons .str (.cons .int (.cons .int (.cons .int (.cons .int (.cons .int (.cons .int (.cons .int (.cons .int (.cons .int (.cons .int (.cons .int (.cons .str (.cons .int (.cons .int (.cons .int (.cons .int (.cons .int (.cons .int (.cons .int (.cons .int (.cons .int (.cons .int (.cons .int (.cons .str (.cons .int (.cons .int (.cons .int (.cons .int (.cons .int (.cons .int (.cons .int (.cons .int (.cons .int (.cons .int (.cons .int (.cons .str (.cons .int (.cons .int (.cons .int (.cons .int (.cons .int (.cons .int (.cons .int (.cons .int (.cons .int (.cons .int (.cons .int (.cons .str (.cons .int (.cons .int (.cons .int (.cons .int (.cons .int (.cons .int (.cons .int (.cons .int (.cons .int (.cons .int (.cons .int (.cons .str (.cons .int (.cons .int (.cons .int (.cons .int (.cons .int (.cons .int (.cons .int (.cons .int (.cons .int (.cons .int (.cons .int (.cons .str (.cons .int (.cons .int (.cons .int (.cons .int (.cons .int (.cons .int (.cons .int (.cons .int (.cons .int (.cons .int (.cons .int (.cons .str (.cons .int (.cons .int (.cons .int (.cons .int (.cons .int (.cons .int (.cons .int (.cons .int (.cons .int (.cons .int (.cons .int (.cons .str (.cons .int (.cons .int (.cons .int (.cons .int (.cons .int (.cons .int (.cons .int (.cons .int (.cons .int (.cons .int (.cons .int (.cons .str (.cons .int (.cons .int (.cons .int (.cons .int (.cons .int (.cons .int (.cons .int (.cons .int (.cons .int (.cons .int (.cons .int (.cons .str (.cons .int (.cons .int (.cons .int (.cons .int (.cons .int (.cons .int (.cons .int (.cons .int (.cons .int (.cons .int .nil)))))))))))))))))))))))))))))))))))))))))))))))))))))))))))))))))))))))))))))))))))))))))))))))))))))))))))))))))))))))))))))))))))))))))))))))))))))))))))))))))))))))))))))))))))))))))))))))) rfl (l := ([y_14, y_15, y_16, y_19, y_21, y_22, y_24, y_25, y_28, y_29, y_32, y_33, y_34, y_35, y_36, y_38] : List Ay)) (f := Ay.enc) rfl) rfl rfl ?_
 exact De
theorem Zs (code : Int) (r : Ay × Int) (G : Fa code = some r) : Fn Tryz.prog 57 0 [vk code] [] (fun d' b' => d' = .tup [.agg (Ay.dv r.1), vk r.2] /\ b' = []) := by
 unfold Fa at G
 refine Fn.of Tryz.func57 rfl rfl rfl fun w0 I ρ0 => ?_
 show B2 _ ⟨w0, I, ρ0, 0, 0, 16⟩ _ _ _
 refine Bh 0 16 A5 fun B => ?_
 refine Aj <| Bo (ι := Bool) (fun (x9_1 : Bool) => mk [(0, vk code), (2, .ptr 0 0), (9, .val (.bool x9_1))] [(0, .box [.val (.int .i64 0), .val (.string (⟨#[]⟩ : ByteArray)), .val (.int .i64 0), .val (.int .i64 0), .val (.int .i64 0), .val (.int .i64 0), .val (.int .i64 0), .val (.int .i64 0), .val (.int .i64 0), .val (.int .i64 0), .val (.int .i64 0), .val (.int .i64 0)] 86)] 1) (fun (x9_1 : Bool) => Fa.j1 code x9_1 = some r) ?_ ?_
 refine Ak (B8 _ _ []) 16 64 B rfl rfl ?_
 refine Aw ?_
 rcases D9 G with ⟨h2, G⟩ | ⟨h2, G⟩
 refine Bj fun B => ?_
 exact ⟨true, G, A1 [(0, 0)]⟩
 refine Bj fun B => ?_
 exact ⟨decide (16 < code), G, A1 [(0, 0)]⟩
 rintro x9_1 G
 replace G : Fa.j1 code x9_1 = some r := G
 show B2 _ _ _ _ (mk _ _ _)
 unfold Fa.j1 at G
 refine C4 rfl G (fun h5 G => ?_) fun h5 G => ?_
 refine B9 1 25 A5 ?_
 refine C0 rfl rfl (.build (r := [.val (.int .i64 0), .val (.string (⟨#[]⟩ : ByteArray)), .val (.int .i64 0), .val (.int .i64 0), .val (.int .i64 0), .val (.int .i64 0), .val (.int .i64 0), .val (.int .i64 0), .val (.int .i64 0), .val (.int .i64 0), .val (.int .i64 0), .val (.int .i64 0)]) J3 P7 Zg (by kernel_rfl) rfl) rfl rfl ?_
 exact De
 refine Dg ?_
 refine B9 1 57 A5 ?_
 obtain ⟨y, hy, G⟩ := Ab G
 refine Do (Ze _ hy) ?_
 refine Aw ?_
 obtain ⟨e, he, G⟩ := Ab G
 refine Aw ?_
 refine dF he ?_
 exact De
theorem Wj (b : Int) (r : Int) (G : Dm b = some r) : Fn Tryz.prog 122 0 [vk b] [] (fun d' b' => d' = vk r /\ b' = []) := by
 unfold Dm at G
 refine Fn.of Tryz.func122 rfl rfl rfl fun w0 I ρ0 => ?_
 show B2 _ ⟨w0, I, ρ0, 0, 0, 25⟩ _ _ _
 refine Bh 0 8 A5 fun B => ?_
 refine Aj <| Ap <| Bo (ι := Bool) (fun (x3_1 : Bool) => mk [(0, vk b), (3, .val (.bool x3_1))] [] 0) (fun (x3_1 : Bool) => Dm.j1 b x3_1 = some r) ?_ ?_
 refine Ak (B8 _ _ []) 8 64 B rfl rfl ?_
 refine Aw ?_
 rcases D9 G with ⟨h2, G⟩ | ⟨h2, G⟩
 refine Bj fun B => ?_
 exact ⟨true, G, A1 []⟩
 refine Bj fun B => ?_
 exact ⟨decide (16384 < b), G, A1 []⟩
 rintro x3_1 G
 replace G : Dm.j1 b x3_1 = some r := G
 show B2 _ _ _ _ (mk _ _ _)
 unfold Dm.j1 at G
 refine C4 rfl G (fun h5 G => ?_) fun h5 G => ?_
 refine B9 0 8 A5 ?_
 exact De
 refine Bh 0 24 A5 fun B => ?_
 refine C4 rfl G (fun h8 G => ?_) fun h8 G => ?_
 refine B9 24 32 B ?_
 exact De
 refine Bh 24 48 B fun B => ?_
 refine C4 rfl G (fun h11 G => ?_) fun h11 G => ?_
 refine B9 48 56 B ?_
 exact De
 refine Bh 48 72 B fun B => ?_
 refine C4 rfl G (fun h14 G => ?_) fun h14 G => ?_
 refine B9 72 80 B ?_
 exact De
 refine Bh 72 96 B fun B => ?_
 refine C4 rfl G (fun h17 G => ?_) fun h17 G => ?_
 refine B9 96 104 B ?_
 exact De
 refine Bh 96 120 B fun B => ?_
 refine C4 rfl G (fun h20 G => ?_) fun h20 G => ?_
 refine B9 120 128 B ?_
 exact De
 refine Dg ?_
 refine Bh 120 128 B fun B => ?_
 exact La
theorem I7 (b : Int) (sizes : (List Int)) (strengths : (List Int)) (r : Int) (G : Bt b sizes strengths = some r) : Fn Tryz.prog 123 0 [vk b, .sl 1 (Aq eI sizes), .sl 1 (Aq eI strengths)] [] (fun d' b' => d' = vk r /\ b' = []) := by
 unfold Bt at G
 refine Fn.of Tryz.func123 rfl rfl rfl fun w0 I ρ0 => ?_
 show B2 _ ⟨w0, I, ρ0, 0, 0, 24⟩ _ _ _
 refine Bh 0 8 A5 fun B => ?_
 refine Aj <| Bh 8 16 B fun B => ?_
 refine Ap <| Jy (fun (i_1 : Int) => mk [(0, vk b), (1, .sl 1 (Aq eI sizes)), (2, .sl 1 (Aq eI strengths)), (7, vk i_1)] [] 0) G (A1 []) ?_
 rintro i_1 m1 o1 G hn1
 replace G : Bt.l1 b sizes strengths i_1 = some o1 := G
 show B2 _ _ _ _ (mk _ _ _)
 unfold Bt.l1 at G
 refine Aj <| Bh 0 32 A5 fun B => ?_
 refine C4 rfl G (fun h4 G => ?_) fun h4 G => ?_
 refine Dg ?_
 refine Aj <| Ap <| B9 32 80 B ?_
 refine Aw ?_
 obtain ⟨e, he, G⟩ := Ab G
 refine Aw ?_
 refine Ra he ?_
 refine Bj fun B => ?_
 refine C4 rfl G (fun h6 G => ?_) fun h6 G => ?_
 refine B9 80 120 B ?_
 refine Aw ?_
 obtain ⟨e_2, he_2, G⟩ := Ab G
 refine Aw ?_
 refine Ra he_2 ?_
 refine Bj fun B => ?_
 refine Fg ?_
 replace G := Cn G hn1
 exact Zh
 refine Dg ?_
 refine Ak (B8 _ _ []) 80 104 B rfl rfl ?_
 refine Bj fun B => ?_
 obtain rfl := oi_ G
 exact ⟨(W (i_1 + 1), m1), Nat.lt_succ_self _, hn1, A1 []⟩
 refine Jl ?_
 replace G := Cn G hn1
 refine Bh 32 40 B fun B => ?_
 exact La
end Go.Proofs.YtidpkjdkfkkgiaaGreat
