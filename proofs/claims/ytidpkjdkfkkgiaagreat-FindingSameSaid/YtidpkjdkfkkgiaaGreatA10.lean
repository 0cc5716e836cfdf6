import Derived.Test.YtidpkjdkfkkgiaaGreatT1
import Derived.Test.YtidpkjdkfkkgiaaGreatA1
import Derived.Test.YtidpkjdkfkkgiaaGreatA2
import Derived.Test.YtidpkjdkfkkgiaaGreatA6
import Derived.Test.YtidpkjdkfkkgiaaGreatA9
set_option linter.unusedVariables false
set_option linter.unusedSimpArgs false
set_option maxRecDepth 100000
set_option maxHeartbeats 1600000
namespace Go.Proofs.YtidpkjdkfkkgiaaGreat
open Go.RowKit
theorem Qu (code : Int) (r : Ay × Int) (G : Dq code = some r) : Fn Tryz.prog 41 0 [vk code] [] (fun d' b' => d' = .tup [.agg (Ay.dv r.1), vk r.2] /\ b' = []) := by
 unfold Dq at G
 refine Fn.of Tryz.func41 rfl rfl rfl fun w0 I ρ0 => ?_
 show B2 _ ⟨w0, I, ρ0, 0, 0, 20⟩ _ _ _
 refine Bh 0 16 A5 fun B => ?_
 refine B9 16 32 B ?_
 obtain ⟨y, hy, G⟩ := Ab G
 refine Do (Ve _ hy) ?_
 refine Bj fun B => ?_
 refine Aj <| Bo (ι := Bool) (fun (x13_1 : Bool) => mk [(0, vk code), (2, .ptr 0 0), (4, .sl 12 (Aq Ay.enc y)), (13, .val (.bool x13_1))] [(0, .box [.val (.int .i64 0), .val (.string (⟨#[]⟩ : ByteArray)), .val (.int .i64 0), .val (.int .i64 0), .val (.int .i64 0), .val (.int .i64 0), .val (.int .i64 0), .val (.int .i64 0), .val (.int .i64 0), .val (.int .i64 0), .val (.int .i64 0), .val (.int .i64 0)] 86)] 1) (fun (x13_1 : Bool) => Dq.j1 code y x13_1 = some r) ?_ ?_
 refine Ak (B8 _ _ []) 32 96 B rfl rfl ?_
 refine Aw ?_
 rcases D9 G with ⟨h3, G⟩ | ⟨h3, G⟩
 refine Bj fun B => ?_
 exact ⟨true, G, A1 [(0, 0)]⟩
 refine Bj fun B => ?_
 exact ⟨decide ((y.length : Int) < code), G, A1 [(0, 0)]⟩
 rintro x13_1 G
 replace G : Dq.j1 code y x13_1 = some r := G
 show B2 _ _ _ _ (mk _ _ _)
 unfold Dq.j1 at G
 refine C4 rfl G (fun h6 G => ?_) fun h6 G => ?_
 refine B9 1 25 A5 ?_
 refine C0 rfl rfl (.build (r := [.val (.int .i64 0), .val (.string (⟨#[]⟩ : ByteArray)), .val (.int .i64 0), .val (.int .i64 0), .val (.int .i64 0), .val (.int .i64 0), .val (.int .i64 0), .val (.int .i64 0), .val (.int .i64 0), .val (.int .i64 0), .val (.int .i64 0), .val (.int .i64 0)]) J3 P7 Zg (by kernel_rfl) rfl) rfl rfl ?_
 exact De
 refine Dg ?_
 refine B9 1 57 A5 ?_
 refine Aw ?_
 obtain ⟨e, he, G⟩ := Ab G
 refine Aw ?_
 refine dF he ?_
 exact De
theorem T2 (l : (List Int)) (r : Bool) (G : Ck l = some r) : Fn Tryz.prog 63 0 [.sl 1 (Aq eI l)] [] (fun d' b' => d' = .val (.bool r) /\ b' = []) := by
 unfold Ck at G
 refine Fn.of Tryz.func63 rfl rfl rfl fun w0 I ρ0 => ?_
 show B2 _ ⟨w0, I, ρ0, 0, 0, 29⟩ _ _ _
 refine Bh 0 8 A5 fun B => ?_
 refine Aj <| Bh 8 32 B fun B => ?_
 refine Ap <| Jy (fun (x9_1 : Int) => mk [(0, .sl 1 (Aq eI l)), (7, .sl 1 (Aq eI l)), (8, .val (.int .i64 (l.length : Int))), (9, vk x9_1)] [] 0) G (A1 []) ?_
 rintro x9_1 m1 o1 G hn1
 replace G : Ck.l1 l x9_1 = some o1 := G
 show B2 _ _ _ _ (mk _ _ _)
 unfold Ck.l1 at G
 refine Bh 0 8 A5 fun B => ?_
 refine Aj <| C4 rfl G (fun h4 G => ?_) fun h4 G => ?_
 refine Dg ?_
 refine Aj <| Ap <| B9 8 48 B ?_
 refine Aw ?_
 obtain ⟨e, he, G⟩ := Ab G
 refine Aw ?_
 refine Ra he ?_
 refine Bj fun B => ?_
 refine B9 48 112 B ?_
 refine Aw ?_
 obtain ⟨y, hy, G⟩ := Ab G
 refine Do (Qu _ _ hy) ?_
 refine Bj fun B => ?_
 refine Bo (ι := Bool) (fun (x27_2 : Bool) => mk [(0, .sl 1 (Aq eI l)), (7, .sl 1 (Aq eI l)), (8, .val (.int .i64 (l.length : Int))), (9, vk x9_1), (27, .val (.bool x27_2))] [] 0) (fun (x27_2 : Bool) => Ck.j2 x9_1 x27_2 = some o1) ?_ ?_
 refine Ak (B8 _ _ []) 112 184 B rfl rfl ?_
 refine Aw ?_
 rcases D9 G with ⟨h7, G⟩ | ⟨h7, G⟩
 refine Bj fun B => ?_
 exact ⟨true, G, A1 []⟩
 refine Aw ?_
 obtain ⟨l_2, hl_2, G⟩ := Ab G
 refine C0 (E5 rfl rfl h7) rfl (Vo Ek It hl_2) rfl rfl ?_
 refine Aw ?_
 obtain ⟨y_2, hy_2, G⟩ := Ab G
 refine Do (Jc _ _ _ hy_2) ?_
 refine Bj fun B => ?_
 exact ⟨y_2, G, A1 []⟩
 rintro x27_2 G
 replace G : Ck.j2 x9_1 x27_2 = some o1 := G
 show B2 _ _ _ _ (mk _ _ _)
 unfold Ck.j2 at G
 refine C4 rfl G (fun h10 G => ?_) fun h10 G => ?_
 refine Bh 0 8 A5 fun B => ?_
 refine Fg ?_
 replace G := Cn G hn1
 exact Zh
 refine Dg ?_
 refine Ak (B8 _ _ []) 0 16 A5 rfl rfl ?_
 refine Bj fun B => ?_
 obtain rfl := oi_ G
 exact ⟨(W (x9_1 + 1), m1), Nat.lt_succ_self _, hn1, A1 []⟩
 refine Jl ?_
 replace G := Cn G hn1
 refine Bh 8 16 B fun B => ?_
 exact La
theorem Nm (l : (List Int)) (r : Bool) (G : B5 l = some r) : Fn Tryz.prog 64 0 [.sl 1 (Aq eI l)] [] (fun d' b' => d' = .val (.bool r) /\ b' = []) := by
 unfold B5 at G
 refine Fn.of Tryz.func64 rfl rfl rfl fun w0 I ρ0 => ?_
 show B2 _ ⟨w0, I, ρ0, 0, 0, 24⟩ _ _ _
 refine Bh 0 8 A5 fun B => ?_
 refine Aj <| Bh 8 32 B fun B => ?_
 refine Ap <| Jy (fun (x6_1 : Int) => mk [(0, .sl 1 (Aq eI l)), (5, .val (.int .i64 (l.length : Int))), (6, vk x6_1)] [] 0) G (A1 []) ?_
 rintro x6_1 m1 o1 G hn1
 replace G : B5.l1 l x6_1 = some o1 := G
 show B2 _ _ _ _ (mk _ _ _)
 unfold B5.l1 at G
 refine Bh 0 8 A5 fun B => ?_
 refine Aj <| C4 rfl G (fun h4 G => ?_) fun h4 G => ?_
 refine Dg ?_
 refine Aj <| Ap <| Bh 8 24 B fun B => ?_
 refine Bo (ι := Bool) (fun (x22_2 : Bool) => mk [(0, .sl 1 (Aq eI l)), (5, .val (.int .i64 (l.length : Int))), (6, vk x6_1), (22, .val (.bool x22_2))] [] 0) (fun (x22_2 : Bool) => B5.j2 x6_1 x22_2 = some o1) ?_ ?_
 refine Bq (B8 _ _ []) (by kernel_rfl) [0, 1, 3, 7, 7, 23, 63, 127, 7, 7, 775, 1799, 4095, 8191] 24 136 B rfl rfl (by kernel_rfl) ?_
 refine Aw ?_
 rcases D9 G with ⟨h6, G⟩ | ⟨h6, G⟩
 refine Aw ?_
 obtain ⟨e, he, G⟩ := Ab G
 refine Aw ?_
 refine Ra he ?_
 refine Aw ?_
 obtain ⟨e_2, he_2, G⟩ := Ab G
 refine Aw ?_
 refine Ra he_2 ?_
 refine Bj fun B => ?_
 exact ⟨decide (e_2 <= e), G, A1 []⟩
 refine Bj fun B => ?_
 exact ⟨false, G, A1 []⟩
 rintro x22_2 G
 replace G : B5.j2 x6_1 x22_2 = some o1 := G
 show B2 _ _ _ _ (mk _ _ _)
 unfold B5.j2 at G
 refine C4 rfl G (fun h9 G => ?_) fun h9 G => ?_
 refine Bh 0 8 A5 fun B => ?_
 refine Fg ?_
 replace G := Cn G hn1
 exact Zh
 refine Dg ?_
 refine Ak (B8 _ _ []) 0 16 A5 rfl rfl ?_
 refine Bj fun B => ?_
 obtain rfl := oi_ G
 exact ⟨(W (x6_1 + 1), m1), Nat.lt_succ_self _, hn1, A1 []⟩
 refine Jl ?_
 replace G := Cn G hn1
 refine Bh 8 16 B fun B => ?_
 exact La
theorem Pe  (r : Unit) (G : Iq = some r) : Fn Tryz.prog 66 0 [.val (.func (.func 69) #[] #[])] [] (fun d' b' => d' = .clo 67 0 [.elt (([.raw (.func (.func 69) #[] #[])] : List C).drop 0)] /\ b' = []) := by
 unfold Iq at G
 refine Fn.of Tryz.func66 rfl rfl rfl fun w0 I ρ0 => ?_
 show B2 _ ⟨w0, I, ρ0, 0, 0, 4⟩ _ _ _
 refine Bh 0 16 A5 fun B => ?_
 refine Aj <| E3 (σ' := mk [(1, .elt (([.raw (.func (.func 69) #[] #[])] : List C).drop 0))] [] 0) ((by exact P3.lists [] rfl rfl ⟨⟨_, rfl, .frzb (ks := [none]) rfl (.cons .func .nil) (Fq rfl)⟩, trivial⟩ trivial)) ?_
 refine Ak (B8 _ _ []) 0 16 A5 rfl rfl ?_
 exact De
theorem M8 (n : Int) (r : Bool) (G : Fu n = some r) : Fn Tryz.prog 67 0 [vk n, .elt (([.raw (.func (.func 69) #[] #[])] : List C).drop 0)] [] (fun d' b' => d' = .val (.bool r) /\ b' = []) := by
 unfold Fu at G
 refine Fn.of Tryz.func67 rfl rfl rfl fun w0 I ρ0 => ?_
 show B2 _ ⟨w0, I, ρ0, 0, 0, 8⟩ _ _ _
 refine Bh 0 8 A5 fun B => ?_
 refine B9 8 48 B ?_
 refine C0 rfl rfl (Dy yK (c := .raw (.func (.func 69) #[] #[])) rfl) rfl rfl ?_
 refine Aw ?_
 obtain ⟨y, hy, G⟩ := Ab G
 refine D2 (rd := []) (ps := []) (gs := []) false rfl rfl (Jd _ _ hy) rfl rfl (.cons .val .nil) rfl rfl (by intro h; cases h) rfl rfl rfl rfl ?_
 exact De
theorem I0 (s : (List Int)) (f : Int -> Option (Bool)) (hf_f : ∀ (x0 : Int) (y : Bool), f x0 = some y -> Fn Tryz.prog 67 0 [vk x0, .elt (([.raw (.func (.func 69) #[] #[])] : List C).drop 0)] [] (fun d' b' => d' = .val (.bool y) /\ b' = [])) (r : Int) (G : Bk s f = some r) : Fn Tryz.prog 93 0 [.sl 1 (Aq eI s), .clo 67 0 [.elt (([.raw (.func (.func 69) #[] #[])] : List C).drop 0)]] [] (fun d' b' => d' = vk r /\ b' = []) := by
 unfold Bk at G
 refine Fn.of Tryz.func93 rfl rfl rfl fun w0 I ρ0 => ?_
 show B2 _ ⟨w0, I, ρ0, 0, 0, 19⟩ _ _ _
 refine Bh 0 8 A5 fun B => ?_
 refine Aj <| Bh 8 32 B fun B => ?_
 refine Ap <| Jy (fun (x8_1 : Int) => mk [(0, .sl 1 (Aq eI s)), (1, .clo 67 0 [.elt (([.raw (.func (.func 69) #[] #[])] : List C).drop 0)]), (7, .val (.int .i64 (s.length : Int))), (8, vk x8_1)] [] 0) G (A1 []) ?_
 rintro x8_1 m1 o1 G hn1
 replace G : Bk.l1 s f x8_1 = some o1 := G
 show B2 _ _ _ _ (mk _ _ _)
 unfold Bk.l1 at G
 refine Bh 0 8 A5 fun B => ?_
 refine Aj <| C4 rfl G (fun h4 G => ?_) fun h4 G => ?_
 refine Dg ?_
 refine Aj <| Ap <| Bh 8 24 B fun B => ?_
 refine B9 24 72 B ?_
 refine Aw ?_
 obtain ⟨e, he, G⟩ := Ab G
 refine Aw ?_
 refine Ra he ?_
 obtain ⟨y, hy, G⟩ := Ab G
 refine Cy (rd := []) (ps := []) (gs := []) false rfl rfl (hf_f e _ hy) rfl rfl (.cons .val (.cons .elt .nil)) rfl rfl (by intro h; cases h) rfl rfl rfl rfl ?_
 refine Gk fun B => ?_
 refine C4 rfl G (fun h7 G => ?_) fun h7 G => ?_
 refine Bh 72 88 B fun B => ?_
 refine Fg ?_
 replace G := Cn G hn1
 exact Zh
 refine Dg ?_
 refine Ak (B8 _ _ []) 72 88 B rfl rfl ?_
 refine Bj fun B => ?_
 obtain rfl := oi_ G
 exact ⟨(W (x8_1 + 1), m1), Nat.lt_succ_self _, hn1, A1 []⟩
 refine Jl ?_
 replace G := Cn G hn1
 refine Bh 8 16 B fun B => ?_
 exact La
theorem Ik (s : (List Int)) (f : Int -> Option (Bool)) (hf_f : ∀ (x0 : Int) (y : Bool), f x0 = some y -> Fn Tryz.prog 67 0 [vk x0, .elt (([.raw (.func (.func 69) #[] #[])] : List C).drop 0)] [] (fun d' b' => d' = .val (.bool y) /\ b' = [])) (r : Bool) (G : Dr s f = some r) : Fn Tryz.prog 68 0 [.sl 1 (Aq eI s), .clo 67 0 [.elt (([.raw (.func (.func 69) #[] #[])] : List C).drop 0)]] [] (fun d' b' => d' = .val (.bool r) /\ b' = []) := by
 unfold Dr at G
 refine Fn.of Tryz.func68 rfl rfl rfl fun w0 I ρ0 => ?_
 show B2 _ ⟨w0, I, ρ0, 0, 0, 9⟩ _ _ _
 refine Bh 0 8 A5 fun B => ?_
 refine B9 8 48 B ?_
 refine Aw ?_
 obtain ⟨y, hy, G⟩ := Ab G
 refine Do (I0 s f hf_f _ hy) ?_
 exact De
theorem P1  (r : Unit) (G : Is = some r) : Fn Tryz.prog 66 0 [.val (.func (.func 70) #[] #[])] [] (fun d' b' => d' = .clo 67 0 [.elt (([.raw (.func (.func 70) #[] #[])] : List C).drop 0)] /\ b' = []) := by
 unfold Is at G
 refine Fn.of Tryz.func66 rfl rfl rfl fun w0 I ρ0 => ?_
 show B2 _ ⟨w0, I, ρ0, 0, 0, 4⟩ _ _ _
 refine Bh 0 16 A5 fun B => ?_
 refine Aj <| E3 (σ' := mk [(1, .elt (([.raw (.func (.func 70) #[] #[])] : List C).drop 0))] [] 0) ((by exact P3.lists [] rfl rfl ⟨⟨_, rfl, .frzb (ks := [none]) rfl (.cons .func .nil) (Fq rfl)⟩, trivial⟩ trivial)) ?_
 refine Ak (B8 _ _ []) 0 16 A5 rfl rfl ?_
 exact De
theorem W4 (alg : Int) (r : Bool) (G : I1 alg = some r) : Fn Tryz.prog 70 0 [vk alg] [] (fun d' b' => d' = .val (.bool r) /\ b' = []) := by
 unfold I1 at G
 refine Fn.of Tryz.func70 rfl rfl rfl fun w0 I ρ0 => ?_
 show B2 _ ⟨w0, I, ρ0, 0, 0, 6⟩ _ _ _
 refine Bh 0 8 A5 fun B => ?_
 refine B9 8 40 B ?_
 refine Aw ?_
 obtain ⟨y, hy, G⟩ := Ab G
 refine Do (Kl _ _ hy) ?_
 exact De
theorem Nv (n : Int) (r : Bool) (G : F0 n = some r) : Fn Tryz.prog 67 0 [vk n, .elt (([.raw (.func (.func 70) #[] #[])] : List C).drop 0)] [] (fun d' b' => d' = .val (.bool r) /\ b' = []) := by
 unfold F0 at G
 refine Fn.of Tryz.func67 rfl rfl rfl fun w0 I ρ0 => ?_
 show B2 _ ⟨w0, I, ρ0, 0, 0, 8⟩ _ _ _
 refine Bh 0 8 A5 fun B => ?_
 refine B9 8 48 B ?_
 refine C0 rfl rfl (Dy yK (c := .raw (.func (.func 70) #[] #[])) rfl) rfl rfl ?_
 refine Aw ?_
 obtain ⟨y, hy, G⟩ := Ab G
 refine D2 (rd := []) (ps := []) (gs := []) false rfl rfl (W4 _ _ hy) rfl rfl (.cons .val .nil) rfl rfl (by intro h; cases h) rfl rfl rfl rfl ?_
 exact De
theorem Iv (s : (List Int)) (f : Int -> Option (Bool)) (hf_f : ∀ (x0 : Int) (y : Bool), f x0 = some y -> Fn Tryz.prog 67 0 [vk x0, .elt (([.raw (.func (.func 70) #[] #[])] : List C).drop 0)] [] (fun d' b' => d' = .val (.bool y) /\ b' = [])) (r : Int) (G : Bk s f = some r) : Fn Tryz.prog 93 0 [.sl 1 (Aq eI s), .clo 67 0 [.elt (([.raw (.func (.func 70) #[] #[])] : List C).drop 0)]] [] (fun d' b' => d' = vk r /\ b' = []) := by
 unfold Bk at G
 refine Fn.of Tryz.func93 rfl rfl rfl fun w0 I ρ0 => ?_
 show B2 _ ⟨w0, I, ρ0, 0, 0, 19⟩ _ _ _
 refine Bh 0 8 A5 fun B => ?_
 refine Aj <| Bh 8 32 B fun B => ?_
 refine Ap <| Jy (fun (x8_1 : Int) => mk [(0, .sl 1 (Aq eI s)), (1, .clo 67 0 [.elt (([.raw (.func (.func 70) #[] #[])] : List C).drop 0)]), (7, .val (.int .i64 (s.length : Int))), (8, vk x8_1)] [] 0) G (A1 []) ?_
 rintro x8_1 m1 o1 G hn1
 replace G : Bk.l1 s f x8_1 = some o1 := G
 show B2 _ _ _ _ (mk _ _ _)
 unfold Bk.l1 at G
 refine Bh 0 8 A5 fun B => ?_
 refine Aj <| C4 rfl G (fun h4 G => ?_) fun h4 G => ?_
 refine Dg ?_
 refine Aj <| Ap <| Bh 8 24 B fun B => ?_
 refine B9 24 72 B ?_
 refine Aw ?_
 obtain ⟨e, he, G⟩ := Ab G
 refine Aw ?_
 refine Ra he ?_
 obtain ⟨y, hy, G⟩ := Ab G
 refine Cy (rd := []) (ps := []) (gs := []) false rfl rfl (hf_f e _ hy) rfl rfl (.cons .val (.cons .elt .nil)) rfl rfl (by intro h; cases h) rfl rfl rfl rfl ?_
 refine Gk fun B => ?_
 refine C4 rfl G (fun h7 G => ?_) fun h7 G => ?_
 refine Bh 72 88 B fun B => ?_
 refine Fg ?_
 replace G := Cn G hn1
 exact Zh
 refine Dg ?_
 refine Ak (B8 _ _ []) 72 88 B rfl rfl ?_
 refine Bj fun B => ?_
 obtain rfl := oi_ G
 exact ⟨(W (x8_1 + 1), m1), Nat.lt_succ_self _, hn1, A1 []⟩
 refine Jl ?_
 replace G := Cn G hn1
 refine Bh 8 16 B fun B => ?_
 exact La
theorem Il (s : (List Int)) (f : Int -> Option (Bool)) (hf_f : ∀ (x0 : Int) (y : Bool), f x0 = some y -> Fn Tryz.prog 67 0 [vk x0, .elt (([.raw (.func (.func 70) #[] #[])] : List C).drop 0)] [] (fun d' b' => d' = .val (.bool y) /\ b' = [])) (r : Bool) (G : Dr s f = some r) : Fn Tryz.prog 68 0 [.sl 1 (Aq eI s), .clo 67 0 [.elt (([.raw (.func (.func 70) #[] #[])] : List C).drop 0)]] [] (fun d' b' => d' = .val (.bool r) /\ b' = []) := by
 unfold Dr at G
 refine Fn.of Tryz.func68 rfl rfl rfl fun w0 I ρ0 => ?_
 show B2 _ ⟨w0, I, ρ0, 0, 0, 9⟩ _ _ _
 refine Bh 0 8 A5 fun B => ?_
 refine B9 8 48 B ?_
 refine Aw ?_
 obtain ⟨y, hy, G⟩ := Ab G
 refine Do (Iv s f hf_f _ hy) ?_
 exact De
theorem Vy (e : A6) (r : Int) (G : Bg e = some r) : Fn Tryz.prog 36 0 [.agg (A6.dv e)] [] (fun d' b' => d' = vk r /\ b' = []) := by
 unfold Bg at G
 refine Fn.of Tryz.func36 rfl rfl rfl fun w0 I ρ0 => ?_
 show B2 _ ⟨w0, I, ρ0, 0, 0, 83⟩ _ _ _
 refine Bh 0 16 A5 fun B => ?_
 refine Aj <| Bo (ι := Bool) (fun (x32_1 : Bool) => mk [(1, .ptr 0 0), (32, .val (.bool x32_1))] [(0, .box (A6.dv e) 34)] 1) (fun (x32_1 : Bool) => Bg.j1 e x32_1 = some r) ?_ ?_
 refine Ak (B8 _ _ []) 16 232 B rfl rfl ?_
 refine Aw ?_
 obtain ⟨y, hy, G⟩ := Ab G
 refine Do (Wv _ _ hy) ?_
 refine Aw ?_
 rcases D9 G with ⟨h2, G⟩ | ⟨h2, G⟩
 refine Bj fun B => ?_
 exact ⟨true, G, A1 [(0, 0)]⟩
 refine Aw ?_
 rcases D9 G with ⟨h4, G⟩ | ⟨h4, G⟩
 refine Bj fun B => ?_
 exact ⟨true, G, A1 [(0, 0)]⟩
 refine Aw ?_
 rcases D9 G with ⟨h6, G⟩ | ⟨h6, G⟩
 refine Bj fun B => ?_
 exact ⟨true, G, A1 [(0, 0)]⟩
 refine Aw ?_
 rcases D9 G with ⟨h8, G⟩ | ⟨h8, G⟩
 refine Bj fun B => ?_
 exact ⟨true, G, A1 [(0, 0)]⟩
 refine Aw ?_
 obtain ⟨y_2, hy_2, G⟩ := Ab G
 refine Do (T2 _ _ hy_2) ?_
 refine Bj fun B => ?_
 exact ⟨!y_2, G, A1 [(0, 0)]⟩
 rintro x32_1 G
 replace G : Bg.j1 e x32_1 = some r := G
 show B2 _ _ _ _ (mk _ _ _)
 unfold Bg.j1 at G
 refine C4 rfl G (fun h11 G => ?_) fun h11 G => ?_
 refine B9 1 9 A5 ?_
 exact De
 refine Dg ?_
 refine Aj <| Bo (ι := Bool) (fun (x54_2 : Bool) => mk [(1, .ptr 0 0), (54, .val (.bool x54_2))] [(0, .box (A6.dv e) 34)] 1) (fun (x54_2 : Bool) => Bg.j2 e x54_2 = some r) ?_ ?_
 refine Ak (B8 _ _ []) 1 177 A5 rfl rfl ?_
 refine Aw ?_
 rcases D9 G with ⟨h13, G⟩ | ⟨h13, G⟩
 refine Bj fun B => ?_
 exact ⟨true, G, A1 [(0, 0)]⟩
 refine Aw ?_
 rcases D9 G with ⟨h15, G⟩ | ⟨h15, G⟩
 refine Bj fun B => ?_
 exact ⟨true, G, A1 [(0, 0)]⟩
 refine Aw ?_
 obtain ⟨y_3, hy_3, G⟩ := Ab G
 refine Do (Nm _ _ hy_3) ?_
 refine Aw ?_
 rcases D9 G with ⟨h17, G⟩ | ⟨h17, G⟩
 refine Bj fun B => ?_
 exact ⟨true, G, A1 [(0, 0)]⟩
 refine Aw ?_
 obtain ⟨y_4, hy_4, G⟩ := Ab G
 refine Do (Nm _ _ hy_4) ?_
 refine Bj fun B => ?_
 exact ⟨!y_4, G, A1 [(0, 0)]⟩
 rintro x54_2 G
 replace G : Bg.j2 e x54_2 = some r := G
 show B2 _ _ _ _ (mk _ _ _)
 unfold Bg.j2 at G
 refine C4 rfl G (fun h20 G => ?_) fun h20 G => ?_
 refine B9 1 9 A5 ?_
 exact De
 refine Dg ?_
 refine Aj <| Bh 1 33 A5 fun B => ?_
 refine Ap <| Jy (fun (x58_3 : Int) => mk [(1, .ptr 0 0), (56, .sl 4 (Aq Be.enc e.Identities)), (57, .val (.int .i64 (e.Identities.length : Int))), (58, vk x58_3)] [(0, .box (A6.dv e) 34)] 1) G (A1 [(0, 0)]) ?_
 rintro x58_3 m3 o3 G hn3
 replace G : Bg.l3 e x58_3 = some o3 := G
 show B2 _ _ _ _ (mk _ _ _)
 unfold Bg.l3 at G
 refine Bh 1 9 A5 fun B => ?_
 refine Aj <| C4 rfl G (fun h24 G => ?_) fun h24 G => ?_
 refine Dg ?_
 refine Aj <| Ap <| B9 9 41 B ?_
 obtain ⟨e_2, he_2, G⟩ := Ab G
 refine Aw ?_
 refine dF he_2 ?_
 refine Bj fun B => ?_
 refine B9 41 105 B ?_
 refine Aw ?_
 obtain ⟨y_5, hy_5, G⟩ := Ab G
 refine Do (Le _ _ _ _ hy_5) ?_
 refine Bj fun B => ?_
 refine C4 rfl G (fun h27 G => ?_) fun h27 G => ?_
 refine Bh 105 113 B fun B => ?_
 refine Fg ?_
 replace G := Cn G hn3
 exact Zh
 refine Dg ?_
 refine Ak (B8 _ _ []) 105 121 B rfl rfl ?_
 refine Bj fun B => ?_
 obtain rfl := oi_ G
 exact ⟨(W (x58_3 + 1), m3), Nat.lt_succ_self _, hn3, A1 [(0, 0)]⟩
 refine Jl ?_
 replace G := Cn G hn3
 refine Bh 9 17 B fun B => ?_
 refine Aj <| Bo (ι := Bool) (fun (x82_4 : Bool) => mk [(82, .val (.bool x82_4))] [] 0) (fun (x82_4 : Bool) => Bg.j4 x82_4 = some r) ?_ ?_
 refine Bq (B8 _ _ []) (by kernel_rfl) [0, 1, 0, 4, 15, 31, 63, 127, 63, 319, 1023, 2047] 17 113 B rfl rfl (by kernel_rfl) ?_
 refine Aw ?_
 obtain ⟨y_6, hy_6, G⟩ := Ab G
 refine D2 (rd := []) (ps := []) (gs := []) false rfl rfl (Pe _ hy_6) rfl rfl (.cons .val .nil) rfl rfl (by intro h; cases h) rfl rfl rfl rfl ?_
 obtain ⟨y_7, hy_7, G⟩ := Ab G
 refine Do (Ik e.Anchors (fun x0 => Fu x0) (fun x0 y h => M8 x0 y h) _ hy_7) ?_
 refine Aw ?_
 rcases D9 G with ⟨h31, G⟩ | ⟨h31, G⟩
 refine Bj fun B => ?_
 exact ⟨true, G, A1 []⟩
 refine Aw ?_
 obtain ⟨y_8, hy_8, G⟩ := Ab G
 refine D2 (rd := []) (ps := []) (gs := []) false (E5 rfl rfl h31) rfl (P1 _ hy_8) rfl rfl (.cons .val .nil) rfl rfl (by intro h; cases h) rfl rfl rfl rfl ?_
 obtain ⟨y_9, hy_9, G⟩ := Ab G
 refine Do (Il e.Hashes (fun x0 => F0 x0) (fun x0 y h => Nv x0 y h) _ hy_9) ?_
 refine Bj fun B => ?_
 exact ⟨y_9, G, A1 []⟩
 rintro x82_4 G
 replace G : Bg.j4 x82_4 = some r := G
 show B2 _ _ _ _ (mk _ _ _)
 unfold Bg.j4 at G
 refine C4 rfl G (fun h34 G => ?_) fun h34 G => ?_
 refine B9 0 8 A5 ?_
 exact De
 refine Dg ?_
 refine Bh 0 8 A5 fun B => ?_
 exact La
theorem Km (at' : Aa) (e : A6) (r : (List Aa) × Int) (G : A9 at' e = some r) : Fn Tryz.prog 11 0 [.agg (Aa.dv at'), .agg (A6.dv e)] [] (fun d' b' => d' = .tup [.sl 11 (Aq Aa.enc r.1), vk r.2] /\ b' = []) := by
 unfold A9 at G
 refine Fn.of Tryz.func11 rfl rfl rfl fun w0 I ρ0 => ?_
 show B2 _ ⟨w0, I, ρ0, 0, 0, 95⟩ _ _ _
 refine Bh 0 32 A5 fun B => ?_
 refine B9 32 88 B ?_
 refine Aw ?_
 obtain ⟨y, hy, G⟩ := Ab G
 refine G9 (rd := []) (ps := []) (gs := []) false rfl (M4 _ _ hy) rfl rfl (.cons (.agg (.cons .val (.cons .val (.cons .val (.cons .val (.cons .val (.cons .val (.cons .val (.cons .val (.cons .val (.cons .val (.cons .val .nil)))))))))))) .nil) rfl rfl (by intro h; cases h) rfl (by intro h; first | (cases h; done) | exact ⟨_, _, ⟨rfl, rfl⟩, by simp, by simp⟩) ?_
 rintro _ _ ⟨rfl, rfl⟩
 refine Bj fun B => ?_
 refine Bo (ι := Int) (fun (errno_1 : Int) => mk [(3, .ptr 0 0), (6, .ptr 1 0), (7, vk errno_1)] [(0, .box (A6.dv e) 34), (1, .box [vk y.1.at_.Source, ws y.1.at_.Host, vk y.1.at_.Machine, vk y.1.at_.Day, vk y.1.at_.Confidence, vk y.1.at_.Kind, ws y.1.at_.Subject, vk y.1.at_.Use.Alg, vk y.1.at_.Use.Bits, vk y.1.at_.Number, ws y.1.at_.Text, .row 2] 80), (2, .row 30 11 (Aq Aa.enc y.1.l))] 3) (fun (errno_1 : Int) => A9.j1 e y errno_1 = some r) ?_ ?_
 refine Bh 88 104 B fun B => ?_
 refine C4 rfl G (fun h4 G => ?_) fun h4 G => ?_
 refine Ak (B8 _ _ []) 104 128 B rfl rfl ?_
 refine Aw ?_
 obtain ⟨y_2, hy_2, G⟩ := Ab G
 refine Do (Vy _ _ hy_2) ?_
 refine Bj fun B => ?_
 exact ⟨y_2, G, A1 [(0, 8), (1, 40), (2, 41)]⟩
 refine Dg ?_
 exact ⟨y.2, G, A1 [(0, 8), (1, 40), (2, 41)]⟩
 rintro errno_1 G
 replace G : A9.j1 e y errno_1 = some r := G
 show B2 _ _ _ _ (mk _ _ _)
 unfold A9.j1 at G
 refine Aj <| Bh 3 19 A5 fun B => ?_
 refine C4 rfl G (fun h7 G => ?_) fun h7 G => ?_
 refine B9 19 43 B ?_
 exact De
 refine Dg ?_
 refine B9 19 59 B ?_
 refine Aw ?_
 refine Qz Iu Mm Vf ?_
 refine Aw ?_
 obtain ⟨y_3, hy_3, G⟩ := Ab G
 refine G9 (rd := [1, 2]) (ps := [1]) (gs := [2]) false rfl (Dx _ _ _ _ _ hy_3) rfl rfl (.cons (.ptr rfl) (.cons .val (.cons (.agg (.cons .val (.cons .val .nil))) (.cons .val .nil)))) ⟨_, _, _, rfl, .head _, ⟨_, rfl, (by repeat' (first | exact K3.nil | apply K3.cons | exact Ag.val | exact Ag.sl | exact Ag.nils | exact Ag.ptr rfl | exact Ag.rowK rfl))⟩, ⟨_, _, _, rfl, .tail _ (.head _), rfl, rfl⟩⟩ rfl (by intro h; cases h) rfl (by intro h; first | (cases h; done) | exact ⟨_, _, ⟨rfl, rfl⟩, by simp, by simp⟩) ?_
 rintro _ _ ⟨rfl, rfl⟩
 refine Gk fun B => ?_
 refine B9 59 99 B ?_
 refine Aw ?_
 refine Qz Iu Mm Vf ?_
 refine Aw ?_
 obtain ⟨y_4, hy_4, G⟩ := Ab G
 refine G9 (rd := [1, 51]) (ps := [1]) (gs := [51]) false rfl (Dx _ _ _ _ _ hy_4) rfl rfl (.cons (.ptr rfl) (.cons .val (.cons (.agg (.cons .val (.cons .val .nil))) (.cons .val .nil)))) ⟨_, _, _, rfl, .head _, ⟨_, rfl, (by repeat' (first | exact K3.nil | apply K3.cons | exact Ag.val | exact Ag.sl | exact Ag.nils | exact Ag.ptr rfl | exact Ag.rowK rfl))⟩, ⟨_, _, _, rfl, .tail _ (.head _), rfl, rfl⟩⟩ rfl (by intro h; cases h) rfl (by intro h; first | (cases h; done) | exact ⟨_, _, ⟨rfl, rfl⟩, by simp, by simp⟩) ?_
 rintro _ _ ⟨rfl, rfl⟩
 refine Gk fun B => ?_
 refine Aj <| Bh 99 131 B fun B => ?_
 refine Ap <| Jy (fun ((x41_2, p_2, p_2_2, p_2_3, p_2_4, p_2_5, p_2_6, p_2_7, p_2_8, p_2_9, p_2_10, p_2_11, l_2) : Int × Int × ByteArray × Int × Int × Int × Int × ByteArray × Int × Int × Int × ByteArray × List Aa) => mk [(3, .ptr 0 0), (6, .ptr 1 0), (39, .sl 1 (Aq eI e.Suites)), (40, .val (.int .i64 (e.Suites.length : Int))), (41, vk x41_2)] [(0, .box (A6.dv e) 34), (1, .box [vk p_2, ws p_2_2, vk p_2_3, vk p_2_4, vk p_2_5, vk p_2_6, ws p_2_7, vk p_2_8, vk p_2_9, vk p_2_10, ws p_2_11, .row 2] 80), (2, .row 30 11 (Aq Aa.enc l_2))] 3) G (A1 [(0, 0), (1, 1), (2, 91)]) ?_
 rintro ⟨x41_2, p_2, p_2_2, p_2_3, p_2_4, p_2_5, p_2_6, p_2_7, p_2_8, p_2_9, p_2_10, p_2_11, l_2⟩ m2 o2 G hn2
 replace G : A9.l2 e x41_2 p_2 p_2_2 p_2_3 p_2_4 p_2_5 p_2_6 p_2_7 p_2_8 p_2_9 p_2_10 p_2_11 l_2 = some o2 := G
 show B2 _ _ _ _ (mk _ _ _)
 unfold A9.l2 at G
 refine Bh 3 11 A5 fun B => ?_
 refine Aj <| C4 rfl G (fun h13 G => ?_) fun h13 G => ?_
 refine Dg ?_
 refine Aj <| Ap <| B9 11 35 B ?_
 obtain ⟨e_2, he_2, G⟩ := Ab G
 refine Aw ?_
 refine Ra he_2 ?_
 refine Bj fun B => ?_
 refine Ak (B8 _ _ []) 35 67 B rfl rfl ?_
 refine Aw ?_
 refine Qz Iu Mm Vf ?_
 refine Aw ?_
 obtain ⟨y_5, hy_5, G⟩ := Ab G
 refine G9 (rd := [1, 2]) (ps := [1]) (gs := [2]) false rfl (Dx _ _ _ _ _ hy_5) rfl rfl (.cons (.ptr rfl) (.cons .val (.cons (.agg (.cons .val (.cons .val .nil))) (.cons .val .nil)))) ⟨_, _, _, rfl, .head _, ⟨_, rfl, (by repeat' (first | exact K3.nil | apply K3.cons | exact Ag.val | exact Ag.sl | exact Ag.nils | exact Ag.ptr rfl | exact Ag.rowK rfl))⟩, ⟨_, _, _, rfl, .tail _ (.head _), rfl, rfl⟩⟩ rfl (by intro h; cases h) rfl (by intro h; first | (cases h; done) | exact ⟨_, _, ⟨rfl, rfl⟩, by simp, by simp⟩) ?_
 rintro _ _ ⟨rfl, rfl⟩
 refine Gk fun B => ?_
 refine Ak (B8 _ _ []) 67 83 B rfl rfl ?_
 refine Bj fun B => ?_
 obtain rfl := oi_ G
 exact ⟨((W (x41_2 + 1), y_5.at_.Source, y_5.at_.Host, y_5.at_.Machine, y_5.at_.Day, y_5.at_.Confidence, y_5.at_.Kind, y_5.at_.Subject, y_5.at_.Use.Alg, y_5.at_.Use.Bits, y_5.at_.Number, y_5.at_.Text, y_5.l), m2), Nat.lt_succ_self _, hn2, A1 [(0, 0), (1, 1), (2, 59)]⟩
 refine Jl ?_
 replace G := Cn G hn2
 refine Aj <| Bh 11 43 B fun B => ?_
 refine Ap <| Jy (fun ((x53_3, p_3, p_3_2, p_3_3, p_3_4, p_3_5, p_3_6, p_3_7, p_3_8, p_3_9, p_3_10, p_3_11, l_3) : Int × Int × ByteArray × Int × Int × Int × Int × ByteArray × Int × Int × Int × ByteArray × List Aa) => mk [(3, .ptr 0 0), (6, .ptr 1 0), (51, .sl 4 (Aq Be.enc e.Identities)), (52, .val (.int .i64 (e.Identities.length : Int))), (53, vk x53_3)] [(0, .box (A6.dv e) 34), (1, .box [vk p_3, ws p_3_2, vk p_3_3, vk p_3_4, vk p_3_5, vk p_3_6, ws p_3_7, vk p_3_8, vk p_3_9, vk p_3_10, ws p_3_11, .row 2] 80), (2, .row 30 11 (Aq Aa.enc l_3))] 3) G (A1 [(0, 0), (1, 1), (2, 2)]) ?_
 rintro ⟨x53_3, p_3, p_3_2, p_3_3, p_3_4, p_3_5, p_3_6, p_3_7, p_3_8, p_3_9, p_3_10, p_3_11, l_3⟩ m3 o3 G hn3
 replace G : A9.l3 e x53_3 p_3 p_3_2 p_3_3 p_3_4 p_3_5 p_3_6 p_3_7 p_3_8 p_3_9 p_3_10 p_3_11 l_3 = some o3 := G
 show B2 _ _ _ _ (mk _ _ _)
 unfold A9.l3 at G
 refine Bh 3 11 A5 fun B => ?_
 refine Aj <| C4 rfl G (fun h19 G => ?_) fun h19 G => ?_
 refine Dg ?_
 refine Aj <| Ap <| B9 11 43 B ?_
 obtain ⟨e_3, he_3, G⟩ := Ab G
 refine Aw ?_
 refine dF he_3 ?_
 refine Bj fun B => ?_
 refine Ak (B8 _ _ []) 43 91 B rfl rfl ?_
 refine Aw ?_
 obtain ⟨y_6, hy_6, G⟩ := Ab G
 refine G9 (rd := [1, 2]) (ps := [1]) (gs := [2]) false rfl (Dx _ _ _ _ _ hy_6) rfl rfl (.cons (.ptr rfl) (.cons .val (.cons (.agg (.cons .val (.cons .val .nil))) (.cons .val .nil)))) ⟨_, _, _, rfl, .head _, ⟨_, rfl, (by repeat' (first | exact K3.nil | apply K3.cons | exact Ag.val | exact Ag.sl | exact Ag.nils | exact Ag.ptr rfl | exact Ag.rowK rfl))⟩, ⟨_, _, _, rfl, .tail _ (.head _), rfl, rfl⟩⟩ rfl (by intro h; cases h) rfl (by intro h; first | (cases h; done) | exact ⟨_, _, ⟨rfl, rfl⟩, by simp, by simp⟩) ?_
 rintro _ _ ⟨rfl, rfl⟩
 refine Gk fun B => ?_
 refine Ak (B8 _ _ []) 91 107 B rfl rfl ?_
 refine Bj fun B => ?_
 obtain rfl := oi_ G
 exact ⟨((W (x53_3 + 1), y_6.at_.Source, y_6.at_.Host, y_6.at_.Machine, y_6.at_.Day, y_6.at_.Confidence, y_6.at_.Kind, y_6.at_.Subject, y_6.at_.Use.Alg, y_6.at_.Use.Bits, y_6.at_.Number, y_6.at_.Text, y_6.l), m3), Nat.lt_succ_self _, hn3, A1 [(0, 0), (1, 1), (2, 83)]⟩
 refine Jl ?_
 replace G := Cn G hn3
 refine Aj <| Bh 11 43 B fun B => ?_
 refine Ap <| Jy (fun ((x67_4, p_4, p_4_2, p_4_3, p_4_4, p_4_5, p_4_6, p_4_7, p_4_8, p_4_9, p_4_10, p_4_11, l_4) : Int × Int × ByteArray × Int × Int × Int × Int × ByteArray × Int × Int × Int × ByteArray × List Aa) => mk [(3, .ptr 0 0), (6, .ptr 1 0), (65, .sl 1 (Aq eI e.Anchors)), (66, .val (.int .i64 (e.Anchors.length : Int))), (67, vk x67_4)] [(0, .box (A6.dv e) 34), (1, .box [vk p_4, ws p_4_2, vk p_4_3, vk p_4_4, vk p_4_5, vk p_4_6, ws p_4_7, vk p_4_8, vk p_4_9, vk p_4_10, ws p_4_11, .row 2] 80), (2, .row 30 11 (Aq Aa.enc l_4))] 3) G (A1 [(0, 0), (1, 1), (2, 2)]) ?_
 rintro ⟨x67_4, p_4, p_4_2, p_4_3, p_4_4, p_4_5, p_4_6, p_4_7, p_4_8, p_4_9, p_4_10, p_4_11, l_4⟩ m4 o4 G hn4
 replace G : A9.l4 e x67_4 p_4 p_4_2 p_4_3 p_4_4 p_4_5 p_4_6 p_4_7 p_4_8 p_4_9 p_4_10 p_4_11 l_4 = some o4 := G
 show B2 _ _ _ _ (mk _ _ _)
 unfold A9.l4 at G
 refine Bh 3 11 A5 fun B => ?_
 refine Aj <| C4 rfl G (fun h25 G => ?_) fun h25 G => ?_
 refine Dg ?_
 refine Aj <| Ap <| B9 11 35 B ?_
 obtain ⟨e_4, he_4, G⟩ := Ab G
 refine Aw ?_
 refine Ra he_4 ?_
 refine Bj fun B => ?_
 refine Ak (B8 _ _ []) 35 67 B rfl rfl ?_
 refine Aw ?_
 refine Qz Iu Mm Vf ?_
 refine Aw ?_
 obtain ⟨y_7, hy_7, G⟩ := Ab G
 refine G9 (rd := [1, 2]) (ps := [1]) (gs := [2]) false rfl (Dx _ _ _ _ _ hy_7) rfl rfl (.cons (.ptr rfl) (.cons .val (.cons (.agg (.cons .val (.cons .val .nil))) (.cons .val .nil)))) ⟨_, _, _, rfl, .head _, ⟨_, rfl, (by repeat' (first | exact K3.nil | apply K3.cons | exact Ag.val | exact Ag.sl | exact Ag.nils | exact Ag.ptr rfl | exact Ag.rowK rfl))⟩, ⟨_, _, _, rfl, .tail _ (.head _), rfl, rfl⟩⟩ rfl (by intro h; cases h) rfl (by intro h; first | (cases h; done) | exact ⟨_, _, ⟨rfl, rfl⟩, by simp, by simp⟩) ?_
 rintro _ _ ⟨rfl, rfl⟩
 refine Gk fun B => ?_
 refine Ak (B8 _ _ []) 67 83 B rfl rfl ?_
 refine Bj fun B => ?_
 obtain rfl := oi_ G
 exact ⟨((W (x67_4 + 1), y_7.at_.Source, y_7.at_.Host, y_7.at_.Machine, y_7.at_.Day, y_7.at_.Confidence, y_7.at_.Kind, y_7.at_.Subject, y_7.at_.Use.Alg, y_7.at_.Use.Bits, y_7.at_.Number, y_7.at_.Text, y_7.l), m4), Nat.lt_succ_self _, hn4, A1 [(0, 0), (1, 1), (2, 59)]⟩
 refine Jl ?_
 replace G := Cn G hn4
 refine Aj <| Bh 11 43 B fun B => ?_
 refine Ap <| Jy (fun ((x79_5, p_5, p_5_2, p_5_3, p_5_4, p_5_5, p_5_6, p_5_7, p_5_8, p_5_9, p_5_10, p_5_11, l_5) : Int × Int × ByteArray × Int × Int × Int × Int × ByteArray × Int × Int × Int × ByteArray × List Aa) => mk [(6, .ptr 0 0), (77, .sl 1 (Aq eI e.Hashes)), (78, .val (.int .i64 (e.Hashes.length : Int))), (79, vk x79_5)] [(0, .box [vk p_5, ws p_5_2, vk p_5_3, vk p_5_4, vk p_5_5, vk p_5_6, ws p_5_7, vk p_5_8, vk p_5_9, vk p_5_10, ws p_5_11, .row 1] 80), (1, .row 30 11 (Aq Aa.enc l_5))] 2) G (A1 [(0, 1), (1, 2)]) ?_
 rintro ⟨x79_5, p_5, p_5_2, p_5_3, p_5_4, p_5_5, p_5_6, p_5_7, p_5_8, p_5_9, p_5_10, p_5_11, l_5⟩ m5 o5 G hn5
 replace G : A9.l5 e x79_5 p_5 p_5_2 p_5_3 p_5_4 p_5_5 p_5_6 p_5_7 p_5_8 p_5_9 p_5_10 p_5_11 l_5 = some o5 := G
 show B2 _ _ _ _ (mk _ _ _)
 unfold A9.l5 at G
 refine Bh 2 10 A5 fun B => ?_
 refine Aj <| C4 rfl G (fun h31 G => ?_) fun h31 G => ?_
 refine Dg ?_
 refine Aj <| Ap <| B9 10 34 B ?_
 obtain ⟨e_5, he_5, G⟩ := Ab G
 refine Aw ?_
 refine Ra he_5 ?_
 refine Bj fun B => ?_
 refine Ak (B8 _ _ []) 34 66 B rfl rfl ?_
 refine Aw ?_
 refine Qz Iu Mm Vf ?_
 obtain ⟨y_8, hy_8, G⟩ := Ab G
 refine G9 (rd := [0, 1]) (ps := [0]) (gs := [1]) false rfl (Dx _ _ _ _ _ hy_8) rfl rfl (.cons (.ptr rfl) (.cons .val (.cons (.agg (.cons .val (.cons .val .nil))) (.cons .val .nil)))) ⟨_, _, _, rfl, .head _, ⟨_, rfl, (by repeat' (first | exact K3.nil | apply K3.cons | exact Ag.val | exact Ag.sl | exact Ag.nils | exact Ag.ptr rfl | exact Ag.rowK rfl))⟩, ⟨_, _, _, rfl, .tail _ (.head _), rfl, rfl⟩⟩ rfl (by intro h; cases h) rfl (by intro h; first | (cases h; done) | exact ⟨_, _, ⟨rfl, rfl⟩, by simp, by simp⟩) ?_
 rintro _ _ ⟨rfl, rfl⟩
 refine Gk fun B => ?_
 refine Ak (B8 _ _ []) 66 82 B rfl rfl ?_
 refine Bj fun B => ?_
 obtain rfl := oi_ G
 exact ⟨((W (x79_5 + 1), y_8.at_.Source, y_8.at_.Host, y_8.at_.Machine, y_8.at_.Day, y_8.at_.Confidence, y_8.at_.Kind, y_8.at_.Subject, y_8.at_.Use.Alg, y_8.at_.Use.Bits, y_8.at_.Number, y_8.at_.Text, y_8.l), m5), Nat.lt_succ_self _, hn5, A1 [(0, 0), (1, 58)]⟩
 refine Jl ?_
 replace G := Cn G hn5
 refine Aj <| E3 (σ' := mk [(6, .ptr 0 0)] [(0, .box [vk p_5, ws p_5_2, vk p_5_3, vk p_5_4, vk p_5_5, vk p_5_6, ws p_5_7, vk p_5_8, vk p_5_9, vk p_5_10, ws p_5_11, .sl 11 (Aq Aa.enc l_5)] 80)] 1) (A1 [(0, 0)]) ?_
 refine Ak (B8 _ _ []) 1 73 A5 rfl rfl ?_
 refine Aw ?_
 obtain ⟨y_9, hy_9, G⟩ := Ab G
 refine Do (N4 _ _ hy_9) ?_
 exact De
theorem cQ (a : (List Aa)) (b : (List Aa)) (r : Bool) (G : D7 a b = some r) : Fn Tryz.prog 12 0 [.sl 11 (Aq Aa.enc a), .sl 11 (Aq Aa.enc b)] [] (fun d' b' => d' = .val (.bool r) /\ b' = []) := by
 unfold D7 at G
 refine Fn.of Tryz.func12 rfl rfl rfl fun w0 I ρ0 => ?_
 show B2 _ ⟨w0, I, ρ0, 0, 0, 26⟩ _ _ _
 refine Bh 0 8 A5 fun B => ?_
 refine Aj <| Bh 8 48 B fun B => ?_
 refine C4 rfl G (fun h3 G => ?_) fun h3 G => ?_
 refine B9 48 56 B ?_
 exact De
 refine Dg ?_
 refine Aj <| Bh 48 56 B fun B => ?_
 refine Ap <| Jy (fun (i_1 : Int) => mk [(0, .sl 11 (Aq Aa.enc a)), (1, .sl 11 (Aq Aa.enc b)), (5, vk i_1)] [] 0) G (A1 []) ?_
 rintro i_1 m1 o1 G hn1
 replace G : D7.l1 a b i_1 = some o1 := G
 show B2 _ _ _ _ (mk _ _ _)
 unfold D7.l1 at G
 refine Aj <| Bh 0 32 A5 fun B => ?_
 refine C4 rfl G (fun h7 G => ?_) fun h7 G => ?_
 refine Dg ?_
 refine Aj <| Ap <| Aj <| Bq (B8 _ _ []) (by kernel_rfl) [0, 0, 3, 7, 0, 0, 48, 112, 255] 32 104 B rfl rfl (by kernel_rfl) ?_
 refine Aw ?_
 obtain ⟨e, he, G⟩ := Ab G
 refine Aw ?_
 refine dF he ?_
 refine Aw ?_
 obtain ⟨e_2, he_2, G⟩ := Ab G
 refine Aw ?_
 refine dF he_2 ?_
 refine C0 rfl rfl (Yu e e_2) rfl rfl ?_
 refine Gk fun B => ?_
 refine C4 rfl G (fun h9 G => ?_) fun h9 G => ?_
 refine Bh 104 112 B fun B => ?_
 refine Fg ?_
 replace G := Cn G hn1
 exact Zh
 refine Dg ?_
 refine Ak (B8 _ _ []) 104 128 B rfl rfl ?_
 refine Bj fun B => ?_
 obtain rfl := oi_ G
 exact ⟨(W (i_1 + 1), m1), Nat.lt_succ_self _, hn1, A1 []⟩
 refine Jl ?_
 replace G := Cn G hn1
 refine Bh 32 40 B fun B => ?_
 exact La
theorem Mk (l : (List Int)) (low : Int) (high : Int) (r : Bool) (G : Bx l low high = some r) : Fn Tryz.prog 113 0 [.sl 1 (Aq eI l), vk low, vk high] [] (fun d' b' => d' = .val (.bool r) /\ b' = []) := by
 unfold Bx at G
 refine Fn.of Tryz.func113 rfl rfl rfl fun w0 I ρ0 => ?_
 show B2 _ ⟨w0, I, ρ0, 0, 0, 32⟩ _ _ _
 refine Bh 0 8 A5 fun B => ?_
 refine Aj <| Bh 8 32 B fun B => ?_
 refine Ap <| Jy (fun (x11_1 : Int) => mk [(0, .sl 1 (Aq eI l)), (1, vk low), (2, vk high), (9, .sl 1 (Aq eI l)), (10, .val (.int .i64 (l.length : Int))), (11, vk x11_1)] [] 0) G (A1 []) ?_
 rintro x11_1 m1 o1 G hn1
 replace G : Bx.l1 l low high x11_1 = some o1 := G
 show B2 _ _ _ _ (mk _ _ _)
 unfold Bx.l1 at G
 refine Bh 0 8 A5 fun B => ?_
 refine Aj <| C4 rfl G (fun h4 G => ?_) fun h4 G => ?_
 refine Dg ?_
 refine Aj <| Ap <| B9 8 48 B ?_
 refine Aw ?_
 obtain ⟨e, he, G⟩ := Ab G
 refine Aw ?_
 refine Ra he ?_
 refine Bj fun B => ?_
 refine Bo (ι := Bool) (fun (x30_2 : Bool) => mk [(0, .sl 1 (Aq eI l)), (1, vk low), (2, vk high), (9, .sl 1 (Aq eI l)), (10, .val (.int .i64 (l.length : Int))), (11, vk x11_1), (30, .val (.bool x30_2))] [] 0) (fun (x30_2 : Bool) => Bx.j2 x11_1 x30_2 = some o1) ?_ ?_
 refine Ak (B8 _ _ []) 48 168 B rfl rfl ?_
 refine Aw ?_
 rcases D9 G with ⟨h6, G⟩ | ⟨h6, G⟩
 refine Bj fun B => ?_
 exact ⟨true, G, A1 []⟩
 refine Aw ?_
 rcases D9 G with ⟨h8, G⟩ | ⟨h8, G⟩
 refine Bj fun B => ?_
 exact ⟨true, G, A1 []⟩
 refine Aw ?_
 obtain ⟨l_2, hl_2, G⟩ := Ab G
 refine C0 (E5 rfl rfl h8) rfl (Vo Ek It hl_2) rfl rfl ?_
 refine Aw ?_
 obtain ⟨y, hy, G⟩ := Ab G
 refine Do (Jc _ _ _ hy) ?_
 refine Bj fun B => ?_
 exact ⟨y, G, A1 []⟩
 rintro x30_2 G
 replace G : Bx.j2 x11_1 x30_2 = some o1 := G
 show B2 _ _ _ _ (mk _ _ _)
 unfold Bx.j2 at G
 refine C4 rfl G (fun h11 G => ?_) fun h11 G => ?_
 refine Bh 0 8 A5 fun B => ?_
 refine Fg ?_
 replace G := Cn G hn1
 exact Zh
 refine Dg ?_
 refine Ak (B8 _ _ []) 0 16 A5 rfl rfl ?_
 refine Bj fun B => ?_
 obtain rfl := oi_ G
 exact ⟨(W (x11_1 + 1), m1), Nat.lt_succ_self _, hn1, A1 []⟩
 refine Jl ?_
 replace G := Cn G hn1
 refine Bh 8 16 B fun B => ?_
 exact La
theorem P4 (h' : C7) (r : Bool) (G : Cl h' = some r) : Fn Tryz.prog 75 0 [.agg (C7.dv h')] [] (fun d' b' => d' = .val (.bool r) /\ b' = []) := by
 unfold Cl at G
 refine Fn.of Tryz.func75 rfl rfl rfl fun w0 I ρ0 => ?_
 show B2 _ ⟨w0, I, ρ0, 0, 0, 37⟩ _ _ _
 refine Bh 0 16 A5 fun B => ?_
 refine Aj <| Bo (ι := Bool) (fun (x28_1 : Bool) => mk [(1, .ptr 0 0), (28, .val (.bool x28_1))] [(0, .box (C7.dv h') 48)] 1) (fun (x28_1 : Bool) => Cl.j1 h' x28_1 = some r) ?_ ?_
 refine Ak (B8 _ _ []) 16 224 B rfl rfl ?_
 refine Aw ?_
 rcases D9 G with ⟨h2, G⟩ | ⟨h2, G⟩
 refine Bj fun B => ?_
 exact ⟨true, G, A1 [(0, 0)]⟩
 refine Aw ?_
 rcases D9 G with ⟨h4, G⟩ | ⟨h4, G⟩
 refine Bj fun B => ?_
 exact ⟨true, G, A1 [(0, 0)]⟩
 refine Aw ?_
 rcases D9 G with ⟨h6, G⟩ | ⟨h6, G⟩
 refine Bj fun B => ?_
 exact ⟨true, G, A1 [(0, 0)]⟩
 refine Aw ?_
 rcases D9 G with ⟨h8, G⟩ | ⟨h8, G⟩
 refine Bj fun B => ?_
 exact ⟨true, G, A1 [(0, 0)]⟩
 refine Bj fun B => ?_
 exact ⟨decide (16 < (h'.Hashes.length : Int)), G, A1 [(0, 0)]⟩
 rintro x28_1 G
 replace G : Cl.j1 h' x28_1 = some r := G
 show B2 _ _ _ _ (mk _ _ _)
 unfold Cl.j1 at G
 refine C4 rfl G (fun h11 G => ?_) fun h11 G => ?_
 refine B9 1 9 A5 ?_
 exact De
 refine Dg ?_
 refine B9 1 73 A5 ?_
 refine Aw ?_
 obtain ⟨y, hy, G⟩ := Ab G
 refine Do (Mk _ _ _ _ hy) ?_
 refine Aw ?_
 rcases D9 G with ⟨h13, G⟩ | ⟨h13, G⟩
 refine Aw ?_
 obtain ⟨y_2, hy_2, G⟩ := Ab G
 refine Do (Mk _ _ _ _ hy_2) ?_
 exact De
 exact De
end Go.Proofs.YtidpkjdkfkkgiaaGreat
