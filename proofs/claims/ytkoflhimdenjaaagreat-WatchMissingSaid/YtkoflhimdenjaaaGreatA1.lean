import Derived.Test.YtkoflhimdenjaaaGreatT1
set_option linter.unusedVariables false
set_option linter.unusedSimpArgs false
set_option maxRecDepth 100000
set_option maxHeartbeats 1600000
namespace Go.Proofs.YtkoflhimdenjaaaGreat
open Go.RowKit
theorem aN (l : (List Int)) (r : Bool) (G : Ma l = some r) : Fn Tryz.prog 6 0 [.sl 1 (Aq eI l)] [] (fun d' b' => d' = .val (.bool r) /\ b' = []) := by
 unfold Ma at G
 refine Fn.of Tryz.func6 rfl rfl rfl fun w0 I ρ0 => ?_
 show B4 _ ⟨w0, I, ρ0, 0, 0, 6⟩ _ _ _
 refine Bk 0 8 A8 fun B => ?_
 refine Bk 8 40 B fun B => ?_
 exact Lz
theorem Zl (host : ByteArray) (day : Int) (r : Aa) (G : K0 host day = some r) : Fn Tryz.prog 12 0 [ws host, vk day] [] (fun d' b' => d' = .agg (Aa.dv r) /\ b' = []) := by
 unfold K0 at G
 refine Fn.of Tryz.func12 rfl rfl rfl fun w0 I ρ0 => ?_
 show B4 _ ⟨w0, I, ρ0, 0, 0, 8⟩ _ _ _
 refine Bk 0 8 A8 fun B => ?_
 refine B8 8 40 B ?_
 refine A6 ?_
 refine Cr rfl rfl (.build (r := [.val (.int .i64 3), ws host, .val (.int .i64 1), vk day, .val (.int .i64 90), .val (.int .i64 4), .val (.string (⟨#[116, 108, 115]⟩ : ByteArray)), .val (.int .i64 0), .val (.int .i64 0), .val (.int .i64 1), .val (.string (⟨#[]⟩ : ByteArray))]) Q8 aEe yU (by kernel_rfl) rfl) rfl rfl ?_
 exact C6
theorem Ml (s : (List Int)) (v : Int) (r : Int) (G : By s v = some r) : Fn Tryz.prog 78 0 [.sl 1 (Aq eI s), vk v] [] (fun d' b' => d' = vk r /\ b' = []) := by
 unfold By at G
 refine Fn.of Tryz.func78 rfl rfl rfl fun w0 I ρ0 => ?_
 show B4 _ ⟨w0, I, ρ0, 0, 0, 19⟩ _ _ _
 refine Bk 0 8 A8 fun B => ?_
 refine Ak <| Bk 8 32 B fun B => ?_
 refine Ar <| J3 (fun (x8_1 : Int) => mk [(0, .sl 1 (Aq eI s)), (1, vk v), (7, .val (.int .i64 (s.length : Int))), (8, vk x8_1)] [] 0) G (Bc []) ?_
 rintro x8_1 m1 o1 G hn1
 replace G : By.l1 s v x8_1 = some o1 := G
 show B4 _ _ _ _ (mk _ _ _)
 unfold By.l1 at G
 refine Bk 0 8 A8 fun B => ?_
 refine Ak <| C5 rfl G (fun h4 G => ?_) fun h4 G => ?_
 refine Dd ?_
 refine Ak <| Ar <| Bk 8 24 B fun B => ?_
 refine B8 24 72 B ?_
 refine A6 ?_
 obtain ⟨e, he, G⟩ := Ac G
 refine A6 ?_
 refine Vw he ?_
 refine Bq fun B => ?_
 refine C5 rfl G (fun h7 G => ?_) fun h7 G => ?_
 refine Bk 72 88 B fun B => ?_
 refine F3 ?_
 replace G := Cm G hn1
 exact bE
 refine Dd ?_
 refine An (Cj _ _ []) 72 88 B rfl rfl ?_
 refine Bq fun B => ?_
 obtain rfl := oi_ G
 exact ⟨(W (x8_1 + 1), m1), Nat.lt_succ_self _, hn1, Bc []⟩
 refine Ju ?_
 replace G := Cm G hn1
 refine Bk 8 16 B fun B => ?_
 exact Lz
theorem Hp (s : (List Int)) (v : Int) (r : Bool) (G : Cg s v = some r) : Fn Tryz.prog 50 0 [.sl 1 (Aq eI s), vk v] [] (fun d' b' => d' = .val (.bool r) /\ b' = []) := by
 unfold Cg at G
 refine Fn.of Tryz.func50 rfl rfl rfl fun w0 I ρ0 => ?_
 show B4 _ ⟨w0, I, ρ0, 0, 0, 9⟩ _ _ _
 refine Bk 0 8 A8 fun B => ?_
 refine B8 8 48 B ?_
 refine A6 ?_
 obtain ⟨y, hy, G⟩ := Ac G
 refine Dz (Ml _ _ _ hy) ?_
 exact C6
theorem Pt (x' : A5) (c0 : Aa) (r : Bool) (G : El x' c0 = some r) : Fn Tryz.prog 52 0 [.agg (A5.dv x'), .elt (([.int .i64 c0.Source, .str c0.Host, .int .i64 c0.Machine, .int .i64 c0.Day, .int .i64 c0.Confidence, .int .i64 c0.Kind, .str c0.Subject, .int .i64 c0.Use.Alg, .int .i64 c0.Use.Bits, .int .i64 c0.Number, .str c0.Text] : List C).drop 0)] [] (fun d' b' => d' = .val (.bool r) /\ b' = []) := by
 unfold El at G
 refine Fn.of Tryz.func52 rfl rfl rfl fun w0 I ρ0 => ?_
 show B4 _ ⟨w0, I, ρ0, 0, 0, 16⟩ _ _ _
 refine Bk 0 16 A8 fun B => ?_
 refine B8 16 120 B ?_
 refine A6 ?_
 refine Cr rfl rfl (Ou nE lJ (by decide) (Nat.le_of_ble_eq_true rfl)) rfl rfl ?_
 refine Cr rfl rfl (Dm lJ (cs2 := [.int .i64 c0.Use.Alg, .int .i64 c0.Use.Bits]) rfl (Nat.le_of_ble_eq_true rfl)) rfl rfl ?_
 refine Cr rfl rfl (Pq x'.Key c0.Use) rfl rfl ?_
 refine A6 ?_
 rcases Ef G with ⟨h2, G⟩ | ⟨h2, G⟩
 refine A6 ?_
 refine Cr (Fm rfl rfl h2) rfl (Ou nO jF (by decide) (Nat.le_of_ble_eq_true rfl)) rfl rfl ?_
 refine Cr (Fm rfl rfl h2) rfl (Dn jF (c := .int .i64 c0.Number) rfl) rfl rfl ?_
 exact C6
 exact C6
theorem H6 (s : (List A5)) (f : A5 -> Option (Bool)) (f_c0 : Aa) (hf_f : ∀ (x0 : A5) (y : Bool), f x0 = some y -> Fn Tryz.prog 52 0 [.agg (A5.dv x0), .elt (([.int .i64 f_c0.Source, .str f_c0.Host, .int .i64 f_c0.Machine, .int .i64 f_c0.Day, .int .i64 f_c0.Confidence, .int .i64 f_c0.Kind, .str f_c0.Subject, .int .i64 f_c0.Use.Alg, .int .i64 f_c0.Use.Bits, .int .i64 f_c0.Number, .str f_c0.Text] : List C).drop 0)] [] (fun d' b' => d' = .val (.bool y) /\ b' = [])) (r : Int) (G : Bg s f = some r) : Fn Tryz.prog 79 0 [.sl 4 (Aq A5.enc s), .clo 52 0 [.elt (([.int .i64 f_c0.Source, .str f_c0.Host, .int .i64 f_c0.Machine, .int .i64 f_c0.Day, .int .i64 f_c0.Confidence, .int .i64 f_c0.Kind, .str f_c0.Subject, .int .i64 f_c0.Use.Alg, .int .i64 f_c0.Use.Bits, .int .i64 f_c0.Number, .str f_c0.Text] : List C).drop 0)]] [] (fun d' b' => d' = vk r /\ b' = []) := by
 unfold Bg at G
 refine Fn.of Tryz.func79 rfl rfl rfl fun w0 I ρ0 => ?_
 show B4 _ ⟨w0, I, ρ0, 0, 0, 19⟩ _ _ _
 refine Bk 0 8 A8 fun B => ?_
 refine Ak <| Bk 8 32 B fun B => ?_
 refine Ar <| J3 (fun (x8_1 : Int) => mk [(0, .sl 4 (Aq A5.enc s)), (1, .clo 52 0 [.elt (([.int .i64 f_c0.Source, .str f_c0.Host, .int .i64 f_c0.Machine, .int .i64 f_c0.Day, .int .i64 f_c0.Confidence, .int .i64 f_c0.Kind, .str f_c0.Subject, .int .i64 f_c0.Use.Alg, .int .i64 f_c0.Use.Bits, .int .i64 f_c0.Number, .str f_c0.Text] : List C).drop 0)]), (7, .val (.int .i64 (s.length : Int))), (8, vk x8_1)] [] 0) G (Bc []) ?_
 rintro x8_1 m1 o1 G hn1
 replace G : Bg.l1 s f x8_1 = some o1 := G
 show B4 _ _ _ _ (mk _ _ _)
 unfold Bg.l1 at G
 refine Bk 0 8 A8 fun B => ?_
 refine Ak <| C5 rfl G (fun h4 G => ?_) fun h4 G => ?_
 refine Dd ?_
 refine Ak <| Ar <| Bk 8 24 B fun B => ?_
 refine B8 24 72 B ?_
 refine A6 ?_
 obtain ⟨e, he, G⟩ := Ac G
 refine A6 ?_
 refine lH he ?_
 obtain ⟨y, hy, G⟩ := Ac G
 refine B9 (rd := []) (ps := []) (gs := []) false rfl rfl (hf_f e _ hy) rfl rfl (.cons (.agg (.cons .val (.cons .val (.cons .val (.cons .sl .nil))))) (.cons .elt .nil)) rfl rfl (by intro h; cases h) rfl rfl rfl rfl ?_
 refine F7 fun B => ?_
 refine C5 rfl G (fun h7 G => ?_) fun h7 G => ?_
 refine Bk 72 88 B fun B => ?_
 refine F3 ?_
 replace G := Cm G hn1
 exact bE
 refine Dd ?_
 refine An (Cj _ _ []) 72 88 B rfl rfl ?_
 refine Bq fun B => ?_
 obtain rfl := oi_ G
 exact ⟨(W (x8_1 + 1), m1), Nat.lt_succ_self _, hn1, Bc []⟩
 refine Ju ?_
 replace G := Cm G hn1
 refine Bk 8 16 B fun B => ?_
 exact Lz
theorem Hg (s : (List A5)) (f : A5 -> Option (Bool)) (f_c0 : Aa) (hf_f : ∀ (x0 : A5) (y : Bool), f x0 = some y -> Fn Tryz.prog 52 0 [.agg (A5.dv x0), .elt (([.int .i64 f_c0.Source, .str f_c0.Host, .int .i64 f_c0.Machine, .int .i64 f_c0.Day, .int .i64 f_c0.Confidence, .int .i64 f_c0.Kind, .str f_c0.Subject, .int .i64 f_c0.Use.Alg, .int .i64 f_c0.Use.Bits, .int .i64 f_c0.Number, .str f_c0.Text] : List C).drop 0)] [] (fun d' b' => d' = .val (.bool y) /\ b' = [])) (r : Bool) (G : Ew s f = some r) : Fn Tryz.prog 51 0 [.sl 4 (Aq A5.enc s), .clo 52 0 [.elt (([.int .i64 f_c0.Source, .str f_c0.Host, .int .i64 f_c0.Machine, .int .i64 f_c0.Day, .int .i64 f_c0.Confidence, .int .i64 f_c0.Kind, .str f_c0.Subject, .int .i64 f_c0.Use.Alg, .int .i64 f_c0.Use.Bits, .int .i64 f_c0.Number, .str f_c0.Text] : List C).drop 0)]] [] (fun d' b' => d' = .val (.bool r) /\ b' = []) := by
 unfold Ew at G
 refine Fn.of Tryz.func51 rfl rfl rfl fun w0 I ρ0 => ?_
 show B4 _ ⟨w0, I, ρ0, 0, 0, 9⟩ _ _ _
 refine Bk 0 8 A8 fun B => ?_
 refine B8 8 48 B ?_
 refine A6 ?_
 obtain ⟨y, hy, G⟩ := Ac G
 refine Dz (H6 s f f_c0 hf_f _ hy) ?_
 exact C6
theorem Js (e : Ao) (f : Aa) (r : Bool) (G : D8 e f = some r) : Fn Tryz.prog 20 0 [.agg (Ao.dv e), .agg (Aa.dv f)] [] (fun d' b' => d' = .val (.bool r) /\ b' = []) := by
 unfold D8 at G
 refine Fn.of Tryz.func20 rfl rfl rfl fun w0 I ρ0 => ?_
 show B4 _ ⟨w0, I, ρ0, 0, 0, 49⟩ _ _ _
 refine Bk 0 24 A8 fun B => ?_
 refine Ak <| Bk 24 64 B fun B => ?_
 refine C5 rfl G (fun h3 G => ?_) fun h3 G => ?_
 refine B8 64 72 B ?_
 exact C6
 refine Dd ?_
 refine Ak <| Bk 64 80 B fun B => ?_
 refine Ar <| Bk 80 96 B fun B => ?_
 refine C5 rfl G (fun h7 G => ?_) fun h7 G => ?_
 refine B8 96 152 B ?_
 refine A6 ?_
 obtain ⟨y, hy, G⟩ := Ac G
 refine Dz (Hp _ _ _ hy) ?_
 exact C6
 refine Bk 96 112 B fun B => ?_
 refine C5 rfl G (fun h10 G => ?_) fun h10 G => ?_
 refine Ak <| Ec (σ' := mk [(2, .ptr 0 0), (3, .elt (([.int .i64 f.Source, .str f.Host, .int .i64 f.Machine, .int .i64 f.Day, .int .i64 f.Confidence, .int .i64 f.Kind, .str f.Subject, .int .i64 f.Use.Alg, .int .i64 f.Use.Bits, .int .i64 f.Number, .str f.Text] : List C).drop 0))] [(0, .box (Ao.dv e) 43)] 1) ((by exact Ns.lists [(0, 0)] rfl rfl ⟨⟨_, rfl, .ptr rfl⟩, ⟨_, rfl, .frzb (ks := [none, none, none, none, none, none, none, none, none, none, none]) rfl (.cons .int (.cons .str (.cons .int (.cons .int (.cons .int (.cons .int (.cons .str (.cons .int (.cons .int (.cons .int (.cons .str .nil))))))))))) (Ei rfl)⟩, trivial⟩ ⟨.inl ⟨0, _, rfl, rfl, ⟨rfl, .cons (.val _) (.cons (.val _) (.cons (.val _) (.cons (.sl _ _) (.cons (.val _) (.cons (.sl _ _) (.cons (.sl _ _) (.cons (.sl _ _) (.cons (.val _) .nil))))))))⟩⟩, trivial⟩)) ?_
 refine An (Cj _ _ []) 1 49 A8 rfl rfl ?_
 refine A6 ?_
 obtain ⟨y_2, hy_2, G⟩ := Ac G
 refine Dz (Hg e.Identities (fun x0 => El x0 f) f (fun x0 y h => Pt x0 f y h) _ hy_2) ?_
 exact C6
 refine Bk 112 128 B fun B => ?_
 refine C5 rfl G (fun h13 G => ?_) fun h13 G => ?_
 refine B8 128 176 B ?_
 exact C6
 refine Bk 128 144 B fun B => ?_
 refine C5 rfl G (fun h16 G => ?_) fun h16 G => ?_
 refine B8 144 192 B ?_
 exact C6
 refine Bk 144 160 B fun B => ?_
 refine C5 rfl G (fun h19 G => ?_) fun h19 G => ?_
 refine B8 160 216 B ?_
 refine A6 ?_
 obtain ⟨y_3, hy_3, G⟩ := Ac G
 refine Dz (Hp _ _ _ hy_3) ?_
 exact C6
 refine Dd ?_
 refine Bk 160 168 B fun B => ?_
 exact Lz
theorem Sj  (r : Bool) (G : Iz = some r) : Fn Tryz.prog 7 0 [] [] (fun d' b' => d' = .val (.bool r) /\ b' = []) := by
 unfold Iz at G
 refine Fn.of Tryz.func7 rfl rfl rfl fun w0 I ρ0 => ?_
 show B4 _ ⟨w0, I, ρ0, 0, 0, 20⟩ _ _ _
 refine Bk 0 8 A8 fun B => ?_
 refine B8 8 40 B ?_
 refine Ka G6 z3 Mi ([10] : List Int) eI ?_
 refine Ro Tg aC0 z43 ?_
 refine Bq fun B => ?_
 refine B8 40 64 B ?_
 obtain ⟨y, hy, G⟩ := Ac G
 refine Dz (Zl _ _ _ hy) ?_
 refine Bq fun B => ?_
 refine Bk 64 96 B fun B => ?_
 refine Bk 96 120 B fun B => ?_
 refine Bk 120 136 B fun B => ?_
 refine B8 136 216 B ?_
 refine A6 ?_
 obtain ⟨y_2, hy_2, G⟩ := Ac G
 refine K9 [8] [] [] true (Js _ _ _ hy_2) ?_
 refine A6 ?_
 rcases Ef G with ⟨h7, G⟩ | ⟨h7, G⟩
 refine A6 ?_
 obtain ⟨y_3, hy_3, G⟩ := Ac G
 refine K9 [8] [] [] true (Js _ _ _ hy_3) ?_
 exact C6
 exact C6
theorem cF (l : (List Int)) (r : Ah) (G : N0 l = some r) : Fn Tryz.prog 8 0 [.sl 1 (Aq eI l)] [] (fun d' b' => d' = .ptr 0 0 /\ b' = [.box [.sl 1 (Aq eI r.L), vk r.At] 71]) := by
 unfold N0 at G
 refine Fn.of Tryz.func8 rfl rfl rfl fun w0 I ρ0 => ?_
 show B4 _ ⟨w0, I, ρ0, 0, 0, 6⟩ _ _ _
 refine Bk 0 8 A8 fun B => ?_
 refine B8 8 40 B ?_
 refine A6 ?_
 refine Ro qI aDt z71 ?_
 refine Bq fun B => ?_
 refine F3 ?_
 obtain rfl := oi_ G
 exact Ht [(0, 24)] ⟨rfl, rfl⟩
theorem eU (n : Int) (k : Int) (r : Int) (G : Mx n k = some r) : Fn Tryz.prog 46 0 [vk n, vk k] [] (fun d' b' => d' = vk r /\ b' = []) := by
 unfold Mx at G
 refine Fn.of Tryz.func46 rfl rfl rfl fun w0 I ρ0 => ?_
 show B4 _ ⟨w0, I, ρ0, 0, 0, 14⟩ _ _ _
 refine Bk 0 8 A8 fun B => ?_
 refine Ak <| Bk 8 24 B fun B => ?_
 refine C5 rfl G (fun h3 G => ?_) fun h3 G => ?_
 refine B8 24 32 B ?_
 exact C6
 refine Dd ?_
 refine B8 24 88 B ?_
 refine A6 ?_
 obtain ⟨q, hq, G⟩ := Ac G
 refine Cr rfl rfl (Y5 hq) rfl rfl ?_
 refine A6 ?_
 obtain ⟨q_2, hq_2, G⟩ := Ac G
 refine Cr rfl rfl (Y5 hq_2) rfl rfl ?_
 exact C6
theorem Dp (d : Ah) (n : Int) (r : Int × Ah) (G : Cw d n = some r) : Fn Tryz.prog 18 1 [.ptr 0 0, vk n] [.box [.sl 1 (Aq eI d.L), vk d.At] 71] (fun d' b' => d' = vk r.1 /\ b' = [.box [.sl 1 (Aq eI r.2.L), vk r.2.At] 71]) := by
 unfold Cw at G
 refine Fn.of Tryz.func18 rfl rfl rfl fun w0 I ρ0 => ?_
 show B4 _ ⟨w0, I, ρ0, 1, 1, 35⟩ _ _ _
 refine Bk 1 9 A8 fun B => ?_
 refine Ak <| Ak <| Bv (Cj _ _ []) (by kernel_rfl) [0, 1, 3, 7, 0, 16, 48, 112, 240, 511] 9 89 B rfl rfl (by kernel_rfl) ?_
 refine Bq fun B => ?_
 refine C5 rfl G (fun h3 G => ?_) fun h3 G => ?_
 refine Bk 89 97 B fun B => ?_
 refine F3 ?_
 obtain rfl := oi_ G
 exact Ht [(0, 0)] ⟨rfl, rfl⟩
 refine Dd ?_
 refine Bk 89 153 B fun B => ?_
 refine Ak <| Bv (Cj _ _ []) (by kernel_rfl) [0, 1, 3, 7, 0, 16, 48, 112, 240, 511, 1023, 0, 4095, 8191] 153 265 B rfl rfl (by kernel_rfl) ?_
 refine A6 ?_
 obtain ⟨e, he, G⟩ := Ac G
 refine A6 ?_
 refine Vw he ?_
 refine A6 ?_
 obtain ⟨y, hy, G⟩ := Ac G
 refine Dz (eU _ _ _ hy) ?_
 refine Bq fun B => ?_
 refine F3 ?_
 obtain rfl := oi_ G
 exact Ht [(0, 0)] ⟨rfl, rfl⟩
theorem M5 (d : Ah) (l : (List Int)) (r : Int × Ah) (G : Hi d l = some r) : Fn Tryz.prog 31 1 [.ptr 0 0, .sl 1 (Aq eI l)] [.box [.sl 1 (Aq eI d.L), vk d.At] 71] (fun d' b' => d' = vk r.1 /\ b' = [.box [.sl 1 (Aq eI r.2.L), vk r.2.At] 71]) := by
 unfold Hi at G
 refine Fn.of Tryz.func31 rfl rfl rfl fun w0 I ρ0 => ?_
 show B4 _ ⟨w0, I, ρ0, 1, 1, 12⟩ _ _ _
 refine Bk 1 9 A8 fun B => ?_
 refine B8 9 73 B ?_
 refine A6 ?_
 obtain ⟨y, hy, G⟩ := Ac G
 refine K9 [0] [0] [] false (Dp _ _ _ hy) ?_
 obtain ⟨e, he, G⟩ := Ac G
 refine A6 ?_
 refine Vw he ?_
 refine Bq fun B => ?_
 refine F3 ?_
 obtain rfl := oi_ G
 exact Ht [(0, 0)] ⟨rfl, rfl⟩
theorem Py (d : Ah) (n : Int) (r : Bool × Ah) (G : Hx d n = some r) : Fn Tryz.prog 16 1 [.ptr 0 0, vk n] [.box [.sl 1 (Aq eI d.L), vk d.At] 71] (fun d' b' => d' = .val (.bool r.1) /\ b' = [.box [.sl 1 (Aq eI r.2.L), vk r.2.At] 71]) := by
 unfold Hx at G
 refine Fn.of Tryz.func16 rfl rfl rfl fun w0 I ρ0 => ?_
 show B4 _ ⟨w0, I, ρ0, 1, 1, 11⟩ _ _ _
 refine Bk 1 9 A8 fun B => ?_
 refine B8 9 65 B ?_
 refine A6 ?_
 obtain ⟨y, hy, G⟩ := Ac G
 refine K9 [0] [0] [] false (Dp _ _ _ hy) ?_
 refine Bq fun B => ?_
 refine F3 ?_
 obtain rfl := oi_ G
 exact Ht [(0, 0)] ⟨rfl, rfl⟩
theorem gP  (r : Aw) (G : O8 = some r) : Fn Tryz.prog 33 0 [] [] (fun d' b' => d' = .agg [vk r.Alg, vk r.Bits] /\ b' = []) := by
 unfold O8 at G
 refine Fn.of Tryz.func33 rfl rfl rfl fun w0 I ρ0 => ?_
 show B4 _ ⟨w0, I, ρ0, 0, 0, 2⟩ _ _ _
 refine Bk 0 8 A8 fun B => ?_
 refine B8 8 24 B ?_
 refine Ro J4 Qg Ym ?_
 exact C6
theorem bF (c : Ai) (r : Ai) (G : Kb c = some r) : Fn Tryz.prog 87 0 [.agg (Ai.dv c)] [] (fun d' b' => d' = .agg (Ai.dv r) /\ b' = []) := by
 unfold Kb at G
 refine Fn.of Tryz.func87 rfl rfl rfl fun w0 I ρ0 => ?_
 show B4 _ ⟨w0, I, ρ0, 0, 0, 9⟩ _ _ _
 refine Bk 0 16 A8 fun B => ?_
 refine B8 16 64 B ?_
 refine Cr rfl rfl (Fp Yk z9 (by decide) rfl rfl rfl rfl ck9 (cs := []) .nil rfl (l := ([] : List ByteArray)) (f := eS) rfl) rfl rfl ?_
 refine A6 ?_
 obtain ⟨l, hl, G⟩ := Ac G
 refine G4 (rd := [16]) rfl rfl (Fb Yk aM .row rfl .sl rfl hl rfl) rfl rfl ?_
 refine Bq fun B => ?_
 refine Bk 64 80 B fun B => ?_
 exact Lz
theorem Pv (s : ByteArray) (r : Bool) (G : B6 s = some r) : Fn Tryz.prog 96 0 [ws s] [] (fun d' b' => d' = .val (.bool r) /\ b' = []) := by
 unfold B6 at G
 refine Fn.of Tryz.func96 rfl rfl rfl fun w0 I ρ0 => ?_
 show B4 _ ⟨w0, I, ρ0, 0, 0, 28⟩ _ _ _
 refine Bk 0 8 A8 fun B => ?_
 refine Ak <| Bw (ι := Bool) (fun (x11_1 : Bool) => mk [(0, ws s), (11, .val (.bool x11_1))] [] 0) (fun (x11_1 : Bool) => B6.j1 s x11_1 = some r) ?_ ?_
 refine An (Cj _ _ []) 8 72 B rfl rfl ?_
 refine A6 ?_
 refine Cr rfl rfl (S6 Vk) rfl rfl ?_
 refine A6 ?_
 rcases Ef G with ⟨h2, G⟩ | ⟨h2, G⟩
 refine Bq fun B => ?_
 exact ⟨true, G, Bc []⟩
 refine A6 ?_
 refine Cr (Fm rfl rfl h2) rfl (S6 Vk) rfl rfl ?_
 refine Bq fun B => ?_
 exact ⟨decide (32 < (s.size : Int)), G, Bc []⟩
 rintro x11_1 G
 replace G : B6.j1 s x11_1 = some r := G
 show B4 _ _ _ _ (mk _ _ _)
 unfold B6.j1 at G
 refine C5 rfl G (fun h5 G => ?_) fun h5 G => ?_
 refine B8 0 8 A8 ?_
 exact C6
 refine Dd ?_
 refine Ak <| Bk 0 8 A8 fun B => ?_
 refine Ar <| J3 (fun (i_2 : Int) => mk [(0, ws s), (3, vk i_2)] [] 0) G (Bc []) ?_
 rintro i_2 m2 o2 G hn2
 replace G : B6.l2 s i_2 = some o2 := G
 show B4 _ _ _ _ (mk _ _ _)
 unfold B6.l2 at G
 refine Ak <| B8 0 32 A8 ?_
 refine A6 ?_
 refine Cr rfl rfl (S6 Vk) rfl rfl ?_
 refine Bq fun B => ?_
 refine C5 rfl G (fun h9 G => ?_) fun h9 G => ?_
 refine Dd ?_
 refine Ak <| Ar <| Bw (ι := Bool) (fun (x27_3 : Bool) => mk [(0, ws s), (3, vk i_2), (27, .val (.bool x27_3))] [] 0) (fun (x27_3 : Bool) => B6.j3 i_2 x27_3 = some o2) ?_ ?_
 refine An (Cj _ _ []) 32 112 B rfl rfl ?_
 refine A6 ?_
 obtain ⟨c, hc, G⟩ := Ac G
 refine Cr rfl rfl (eW Vk hc) rfl rfl ?_
 refine A6 ?_
 rcases Ef G with ⟨h10, G⟩ | ⟨h10, G⟩
 refine Bq fun B => ?_
 exact ⟨true, G, Bc []⟩
 refine A6 ?_
 obtain ⟨c_2, hc_2, G⟩ := Ac G
 refine Cr (Fm rfl rfl h10) rfl (eW Vk hc_2) rfl rfl ?_
 refine Bq fun B => ?_
 exact ⟨decide (126 < (c_2.toNat : Int)), G, Bc []⟩
 rintro x27_3 G
 replace G : B6.j3 i_2 x27_3 = some o2 := G
 show B4 _ _ _ _ (mk _ _ _)
 unfold B6.j3 at G
 refine C5 rfl G (fun h13 G => ?_) fun h13 G => ?_
 refine Bk 0 8 A8 fun B => ?_
 refine F3 ?_
 replace G := Cm G hn2
 exact bE
 refine Dd ?_
 refine An (Cj _ _ []) 0 24 A8 rfl rfl ?_
 refine Bq fun B => ?_
 obtain rfl := oi_ G
 exact ⟨(W (i_2 + 1), m2), Nat.lt_succ_self _, hn2, Bc []⟩
 refine Ju ?_
 replace G := Cm G hn2
 refine Bk 32 40 B fun B => ?_
 exact Lz
theorem Vy (b : Int) (r : Int) (G : C4 b = some r) : Fn Tryz.prog 172 0 [vk b] [] (fun d' b' => d' = vk r /\ b' = []) := by
 unfold C4 at G
 refine Fn.of Tryz.func172 rfl rfl rfl fun w0 I ρ0 => ?_
 show B4 _ ⟨w0, I, ρ0, 0, 0, 25⟩ _ _ _
 refine Bk 0 8 A8 fun B => ?_
 refine Ak <| Ar <| Bw (ι := Bool) (fun (x3_1 : Bool) => mk [(0, vk b), (3, .val (.bool x3_1))] [] 0) (fun (x3_1 : Bool) => C4.j1 b x3_1 = some r) ?_ ?_
 refine An (Cj _ _ []) 8 64 B rfl rfl ?_
 refine A6 ?_
 rcases Ef G with ⟨h2, G⟩ | ⟨h2, G⟩
 refine Bq fun B => ?_
 exact ⟨true, G, Bc []⟩
 refine Bq fun B => ?_
 exact ⟨decide (16384 < b), G, Bc []⟩
 rintro x3_1 G
 replace G : C4.j1 b x3_1 = some r := G
 show B4 _ _ _ _ (mk _ _ _)
 unfold C4.j1 at G
 refine C5 rfl G (fun h5 G => ?_) fun h5 G => ?_
 refine B8 0 8 A8 ?_
 exact C6
 refine Bk 0 24 A8 fun B => ?_
 refine C5 rfl G (fun h8 G => ?_) fun h8 G => ?_
 refine B8 24 32 B ?_
 exact C6
 refine Bk 24 48 B fun B => ?_
 refine C5 rfl G (fun h11 G => ?_) fun h11 G => ?_
 refine B8 48 56 B ?_
 exact C6
 refine Bk 48 72 B fun B => ?_
 refine C5 rfl G (fun h14 G => ?_) fun h14 G => ?_
 refine B8 72 80 B ?_
 exact C6
 refine Bk 72 96 B fun B => ?_
 refine C5 rfl G (fun h17 G => ?_) fun h17 G => ?_
 refine B8 96 104 B ?_
 exact C6
 refine Bk 96 120 B fun B => ?_
 refine C5 rfl G (fun h20 G => ?_) fun h20 G => ?_
 refine B8 120 128 B ?_
 exact C6
 refine Dd ?_
 refine Bk 120 128 B fun B => ?_
 exact Lz
theorem Iy (b : Int) (sizes : (List Int)) (strengths : (List Int)) (r : Int) (G : Bs b sizes strengths = some r) : Fn Tryz.prog 173 0 [vk b, .sl 1 (Aq eI sizes), .sl 1 (Aq eI strengths)] [] (fun d' b' => d' = vk r /\ b' = []) := by
 unfold Bs at G
 refine Fn.of Tryz.func173 rfl rfl rfl fun w0 I ρ0 => ?_
 show B4 _ ⟨w0, I, ρ0, 0, 0, 24⟩ _ _ _
 refine Bk 0 8 A8 fun B => ?_
 refine Ak <| Bk 8 16 B fun B => ?_
 refine Ar <| J3 (fun (i_1 : Int) => mk [(0, vk b), (1, .sl 1 (Aq eI sizes)), (2, .sl 1 (Aq eI strengths)), (7, vk i_1)] [] 0) G (Bc []) ?_
 rintro i_1 m1 o1 G hn1
 replace G : Bs.l1 b sizes strengths i_1 = some o1 := G
 show B4 _ _ _ _ (mk _ _ _)
 unfold Bs.l1 at G
 refine Ak <| Bk 0 32 A8 fun B => ?_
 refine C5 rfl G (fun h4 G => ?_) fun h4 G => ?_
 refine Dd ?_
 refine Ak <| Ar <| B8 32 80 B ?_
 refine A6 ?_
 obtain ⟨e, he, G⟩ := Ac G
 refine A6 ?_
 refine Vw he ?_
 refine Bq fun B => ?_
 refine C5 rfl G (fun h6 G => ?_) fun h6 G => ?_
 refine B8 80 120 B ?_
 refine A6 ?_
 obtain ⟨e_2, he_2, G⟩ := Ac G
 refine A6 ?_
 refine Vw he_2 ?_
 refine Bq fun B => ?_
 refine F3 ?_
 replace G := Cm G hn1
 exact bE
 refine Dd ?_
 refine An (Cj _ _ []) 80 104 B rfl rfl ?_
 refine Bq fun B => ?_
 obtain rfl := oi_ G
 exact ⟨(W (i_1 + 1), m1), Nat.lt_succ_self _, hn1, Bc []⟩
 refine Ju ?_
 replace G := Cm G hn1
 refine Bk 32 40 B fun B => ?_
 exact Lz
theorem Xk (alg : Int) (r : Int) (G : Cs alg = some r) : Fn Tryz.prog 174 0 [vk alg] [] (fun d' b' => d' = vk r /\ b' = []) := by
 unfold Cs at G
 refine Fn.of Tryz.func174 rfl rfl rfl fun w0 I ρ0 => ?_
 show B4 _ ⟨w0, I, ρ0, 0, 0, 21⟩ _ _ _
 refine Bk 0 8 A8 fun B => ?_
 refine Ak <| Bk 8 16 B fun B => ?_
 refine Ar <| Bk 16 32 B fun B => ?_
 refine C5 rfl G (fun h4 G => ?_) fun h4 G => ?_
 refine B8 32 40 B ?_
 exact C6
 refine Bk 32 48 B fun B => ?_
 refine C5 rfl G (fun h7 G => ?_) fun h7 G => ?_
 refine B8 48 56 B ?_
 exact C6
 refine Bw (ι := Bool) (fun (x8_1 : Bool) => mk [(3, vk alg), (8, .val (.bool x8_1))] [] 0) (fun (x8_1 : Bool) => Cs.j1 alg x8_1 = some r) ?_ ?_
 refine Bk 48 64 B fun B => ?_
 refine C5 rfl G (fun h10 G => ?_) fun h10 G => ?_
 refine Dd ?_
 exact ⟨decide (alg = 3), G, Bc []⟩
 refine Bk 64 80 B fun B => ?_
 refine C5 rfl G (fun h12 G => ?_) fun h12 G => ?_
 refine Dd ?_
 exact ⟨decide (alg = 8), G, Bc []⟩
 refine An (Cj _ _ []) 80 96 B rfl rfl ?_
 refine Bq fun B => ?_
 exact ⟨decide (alg = 21), G, Bc []⟩
 rintro x8_1 G
 replace G : Cs.j1 alg x8_1 = some r := G
 show B4 _ _ _ _ (mk _ _ _)
 unfold Cs.j1 at G
 refine C5 rfl G (fun h14 G => ?_) fun h14 G => ?_
 refine B8 0 8 A8 ?_
 exact C6
 refine Bk 0 16 A8 fun B => ?_
 refine C5 rfl G (fun h17 G => ?_) fun h17 G => ?_
 refine B8 16 24 B ?_
 exact C6
 refine Bw (ι := Bool) (fun (x14_2 : Bool) => mk [(3, vk alg), (14, .val (.bool x14_2))] [] 0) (fun (x14_2 : Bool) => Cs.j2 alg x14_2 = some r) ?_ ?_
 refine Bk 16 32 B fun B => ?_
 refine C5 rfl G (fun h20 G => ?_) fun h20 G => ?_
 refine Dd ?_
 exact ⟨decide (alg = 18), G, Bc []⟩
 refine An (Cj _ _ []) 32 48 B rfl rfl ?_
 refine Bq fun B => ?_
 exact ⟨decide (alg = 22), G, Bc []⟩
 rintro x14_2 G
 replace G : Cs.j2 alg x14_2 = some r := G
 show B4 _ _ _ _ (mk _ _ _)
 unfold Cs.j2 at G
 refine C5 rfl G (fun h22 G => ?_) fun h22 G => ?_
 refine B8 0 8 A8 ?_
 exact C6
 refine Bk 0 16 A8 fun B => ?_
 refine C5 rfl G (fun h25 G => ?_) fun h25 G => ?_
 refine B8 16 24 B ?_
 exact C6
 refine Bk 16 32 B fun B => ?_
 refine C5 rfl G (fun h28 G => ?_) fun h28 G => ?_
 refine B8 32 40 B ?_
 exact C6
 refine Dd ?_
 refine Bk 32 40 B fun B => ?_
 exact Lz
theorem Um (u : Aw) (r : Int) (G : As u = some r) : Fn Tryz.prog 125 0 [.agg [vk u.Alg, vk u.Bits]] [] (fun d' b' => d' = vk r /\ b' = []) := by
 unfold As at G
 refine Fn.of Tryz.func125 rfl rfl rfl fun w0 I ρ0 => ?_
 show B4 _ ⟨w0, I, ρ0, 0, 0, 76⟩ _ _ _
 refine Bk 0 16 A8 fun B => ?_
 refine Bk 16 40 B fun B => ?_
 refine Ak <| Bk 40 56 B fun B => ?_
 refine Ar <| Bw (ι := Bool) (fun (x8_1 : Bool) => mk [(1, .ptr 0 0), (3, vk u.Bits), (7, vk u.Alg), (8, .val (.bool x8_1))] [(0, .box [vk u.Alg, vk u.Bits] 34)] 1) (fun (x8_1 : Bool) => As.j1 u x8_1 = some r) ?_ ?_
 refine Bk 56 72 B fun B => ?_
 refine C5 rfl G (fun h5 G => ?_) fun h5 G => ?_
 refine Dd ?_
 exact ⟨decide (u.Alg = 5), G, Bc [(0, 0)]⟩
 refine Bk 72 88 B fun B => ?_
 refine C5 rfl G (fun h7 G => ?_) fun h7 G => ?_
 refine Dd ?_
 exact ⟨decide (u.Alg = 6), G, Bc [(0, 0)]⟩
 refine Bk 88 104 B fun B => ?_
 refine C5 rfl G (fun h9 G => ?_) fun h9 G => ?_
 refine Dd ?_
 exact ⟨decide (u.Alg = 10), G, Bc [(0, 0)]⟩
 refine An (Cj _ _ []) 104 120 B rfl rfl ?_
 refine Bq fun B => ?_
 exact ⟨decide (u.Alg = 11), G, Bc [(0, 0)]⟩
 rintro x8_1 G
 replace G : As.j1 u x8_1 = some r := G
 show B4 _ _ _ _ (mk _ _ _)
 unfold As.j1 at G
 refine C5 rfl G (fun h11 G => ?_) fun h11 G => ?_
 refine B8 1 25 A8 ?_
 refine A6 ?_
 obtain ⟨y, hy, G⟩ := Ac G
 refine Dz (Vy _ _ hy) ?_
 exact C6
 refine Bw (ι := Bool) (fun (x15_2 : Bool) => mk [(1, .ptr 0 0), (3, vk u.Bits), (7, vk u.Alg), (15, .val (.bool x15_2))] [(0, .box [vk u.Alg, vk u.Bits] 34)] 1) (fun (x15_2 : Bool) => As.j2 u x15_2 = some r) ?_ ?_
 refine Bk 1 17 A8 fun B => ?_
 refine C5 rfl G (fun h14 G => ?_) fun h14 G => ?_
 refine Dd ?_
 exact ⟨decide (u.Alg = 7), G, Bc [(0, 0)]⟩
 refine An (Cj _ _ []) 17 33 B rfl rfl ?_
 refine Bq fun B => ?_
 exact ⟨decide (u.Alg = 12), G, Bc [(0, 0)]⟩
 rintro x15_2 G
 replace G : As.j2 u x15_2 = some r := G
 show B4 _ _ _ _ (mk _ _ _)
 unfold As.j2 at G
 refine C5 rfl G (fun h16 G => ?_) fun h16 G => ?_
 refine Ak <| Bw (ι := Bool) (fun (x35_3 : Bool) => mk [(3, vk u.Bits), (35, .val (.bool x35_3))] [] 0) (fun (x35_3 : Bool) => As.j3 u x35_3 = some r) ?_ ?_
 refine An (Cj _ _ []) 1 145 A8 rfl rfl ?_
 refine A6 ?_
 rcases Ef G with ⟨h17, G⟩ | ⟨h17, G⟩
 refine Bq fun B => ?_
 exact ⟨true, G, Bc []⟩
 refine A6 ?_
 rcases Ef G with ⟨h19, G⟩ | ⟨h19, G⟩
 refine Bq fun B => ?_
 exact ⟨true, G, Bc []⟩
 refine A6 ?_
 rcases Ef G with ⟨h21, G⟩ | ⟨h21, G⟩
 refine Bq fun B => ?_
 exact ⟨true, G, Bc []⟩
 refine A6 ?_
 rcases Ef G with ⟨h23, G⟩ | ⟨h23, G⟩
 refine Bq fun B => ?_
 exact ⟨true, G, Bc []⟩
 refine Bq fun B => ?_
 exact ⟨decide (u.Bits = 521), G, Bc []⟩
 rintro x35_3 G
 replace G : As.j3 u x35_3 = some r := G
 show B4 _ _ _ _ (mk _ _ _)
 unfold As.j3 at G
 refine C5 rfl G (fun h26 G => ?_) fun h26 G => ?_
 refine B8 0 24 A8 ?_
 refine A6 ?_
 obtain ⟨q, hq, G⟩ := Ac G
 refine Cr rfl rfl (Q3 hq) rfl rfl ?_
 exact C6
 refine Dd ?_
 refine Bk 0 8 A8 fun B => ?_
 exact Lz
 refine Bk 1 17 A8 fun B => ?_
 refine C5 rfl G (fun h30 G => ?_) fun h30 G => ?_
 refine B8 17 57 B ?_
 refine A6 ?_
 refine Ka G6 z3 Mi ([44, 65, 87] : List Int) eI ?_
 refine Ka G6 z3 Mi ([128, 192, 256] : List Int) eI ?_
 obtain ⟨y_2, hy_2, G⟩ := Ac G
 refine K9 [25, 33] [] [] true (Iy _ _ _ _ hy_2) ?_
 exact C6
 refine Bk 17 33 B fun B => ?_
 refine C5 rfl G (fun h33 G => ?_) fun h33 G => ?_
 refine B8 33 73 B ?_
 refine A6 ?_
 refine Ka G6 z3 Mi ([512, 768, 1024] : List Int) eI ?_
 refine Ka G6 z3 Mi ([128, 192, 256] : List Int) eI ?_
 obtain ⟨y_3, hy_3, G⟩ := Ac G
 refine K9 [41, 49] [] [] true (Iy _ _ _ _ hy_3) ?_
 exact C6
 refine Bk 33 49 B fun B => ?_
 refine C5 rfl G (fun h36 G => ?_) fun h36 G => ?_
 refine B8 49 89 B ?_
 refine A6 ?_
 refine Ka G6 z3 Mi ([40, 128] : List Int) eI ?_
 refine Ka G6 z3 Mi ([40, 60] : List Int) eI ?_
 obtain ⟨y_4, hy_4, G⟩ := Ac G
 refine K9 [57, 65] [] [] true (Iy _ _ _ _ hy_4) ?_
 exact C6
 refine Bk 49 65 B fun B => ?_
 refine C5 rfl G (fun h39 G => ?_) fun h39 G => ?_
 refine B8 65 105 B ?_
 refine A6 ?_
 refine Ka G6 z3 Mi ([112, 168] : List Int) eI ?_
 refine Ka G6 z3 Mi ([80, 112] : List Int) eI ?_
 obtain ⟨y_5, hy_5, G⟩ := Ac G
 refine K9 [73, 81] [] [] true (Iy _ _ _ _ hy_5) ?_
 exact C6
 refine Bw (ι := Bool) (fun (x62_4 : Bool) => mk [(1, .ptr 0 0), (3, vk u.Bits), (62, .val (.bool x62_4))] [(0, .box [vk u.Alg, vk u.Bits] 34)] 1) (fun (x62_4 : Bool) => As.j4 u x62_4 = some r) ?_ ?_
 refine Bk 65 81 B fun B => ?_
 refine C5 rfl G (fun h42 G => ?_) fun h42 G => ?_
 refine Dd ?_
 exact ⟨decide (u.Alg = 16), G, Bc [(0, 0)]⟩
 refine An (Cj _ _ []) 81 97 B rfl rfl ?_
 refine Bq fun B => ?_
 exact ⟨decide (u.Alg = 17), G, Bc [(0, 0)]⟩
 rintro x62_4 G
 replace G : As.j4 u x62_4 = some r := G
 show B4 _ _ _ _ (mk _ _ _)
 unfold As.j4 at G
 refine C5 rfl G (fun h44 G => ?_) fun h44 G => ?_
 refine B8 1 41 A8 ?_
 refine A6 ?_
 refine Ka G6 z3 Mi ([128, 256] : List Int) eI ?_
 refine Ka G6 z3 Mi ([128, 256] : List Int) eI ?_
 obtain ⟨y_6, hy_6, G⟩ := Ac G
 refine K9 [9, 17] [] [] true (Iy _ _ _ _ hy_6) ?_
 exact C6
 refine Dd ?_
 refine B8 1 65 A8 ?_
 refine A6 ?_
 refine Ka G6 z3 Mi ([0] : List Int) eI ?_
 refine A6 ?_
 obtain ⟨y_7, hy_7, G⟩ := Ac G
 refine Dz (Xk _ _ hy_7) ?_
 refine Ka G6 z3 Mi ([y_7] : List Int) eI ?_
 obtain ⟨y_8, hy_8, G⟩ := Ac G
 refine K9 [9, 41] [] [] true (Iy _ _ _ _ hy_8) ?_
 exact C6
theorem Sh (u : Aw) (r : Bool) (G : I0 u = some r) : Fn Tryz.prog 97 0 [.agg [vk u.Alg, vk u.Bits]] [] (fun d' b' => d' = .val (.bool r) /\ b' = []) := by
 unfold I0 at G
 refine Fn.of Tryz.func97 rfl rfl rfl fun w0 I ρ0 => ?_
 show B4 _ ⟨w0, I, ρ0, 0, 0, 6⟩ _ _ _
 refine Bk 0 16 A8 fun B => ?_
 refine B8 16 48 B ?_
 refine A6 ?_
 obtain ⟨y, hy, G⟩ := Ac G
 refine Dz (Um _ _ hy) ?_
 exact C6
theorem aR  (r : (List Ap)) (G : Pf = some r) : Fn Tryz.prog 124 0 [] [] (fun d' b' => d' = .sl 2 (Aq Ap.enc r) /\ b' = []) := by
 unfold Pf at G
 refine Fn.of Tryz.func124 rfl rfl rfl fun w0 I ρ0 => ?_
 show B4 _ ⟨w0, I, ρ0, 0, 0, 25⟩ _ _ _
 refine Bk 0 8 A8 fun B => ?_
 refine B8 8 208 B ?_
 refine Cr rfl rfl (.build (r := [.val (.string (⟨#[]⟩ : ByteArray)), .val (.int .i64 0)]) G1 Jk Lv (by kernel_rfl) rfl) rfl rfl ?_
 refine Cr rfl rfl (.build (r := [.val (.string (⟨#[109, 100, 53]⟩ : ByteArray)), .val (.int .i64 1)]) G1 Jk Lv (by kernel_rfl) rfl) rfl rfl ?_
 refine Cr rfl rfl (.build (r := [.val (.string (⟨#[115, 104, 97, 49]⟩ : ByteArray)), .val (.int .i64 1)]) G1 Jk Lv (by kernel_rfl) rfl) rfl rfl ?_
 refine Cr rfl rfl (.build (r := [.val (.string (⟨#[115, 104, 97, 50, 53, 54]⟩ : ByteArray)), .val (.int .i64 1)]) G1 Jk Lv (by kernel_rfl) rfl) rfl rfl ?_
 refine Cr rfl rfl (.build (r := [.val (.string (⟨#[115, 104, 97, 51, 56, 52]⟩ : ByteArray)), .val (.int .i64 1)]) G1 Jk Lv (by kernel_rfl) rfl) rfl rfl ?_
 refine Cr rfl rfl (.build (r := [.val (.string (⟨#[114, 115, 97]⟩ : ByteArray)), .val (.int .i64 2)]) G1 Jk Lv (by kernel_rfl) rfl) rfl rfl ?_
 refine Cr rfl rfl (.build (r := [.val (.string (⟨#[100, 115, 97]⟩ : ByteArray)), .val (.int .i64 2)]) G1 Jk Lv (by kernel_rfl) rfl) rfl rfl ?_
 refine Cr rfl rfl (.build (r := [.val (.string (⟨#[101, 99, 100, 115, 97]⟩ : ByteArray)), .val (.int .i64 2)]) G1 Jk Lv (by kernel_rfl) rfl) rfl rfl ?_
 refine Cr rfl rfl (.build (r := [.val (.string (⟨#[101, 100, 50, 53, 53, 49, 57]⟩ : ByteArray)), .val (.int .i64 2)]) G1 Jk Lv (by kernel_rfl) rfl) rfl rfl ?_
 refine Cr rfl rfl (.build (r := [.val (.string (⟨#[109, 108, 100, 115, 97]⟩ : ByteArray)), .val (.int .i64 2)]) G1 Jk Lv (by kernel_rfl) rfl) rfl rfl ?_
 refine Cr rfl rfl (.build (r := [.val (.string (⟨#[114, 115, 97, 107, 120]⟩ : ByteArray)), .val (.int .i64 3)]) G1 Jk Lv (by kernel_rfl) rfl) rfl rfl ?_
 refine Cr rfl rfl (.build (r := [.val (.string (⟨#[100, 104, 101]⟩ : ByteArray)), .val (.int .i64 3)]) G1 Jk Lv (by kernel_rfl) rfl) rfl rfl ?_
 refine Cr rfl rfl (.build (r := [.val (.string (⟨#[101, 99, 100, 104, 101]⟩ : ByteArray)), .val (.int .i64 3)]) G1 Jk Lv (by kernel_rfl) rfl) rfl rfl ?_
 refine Cr rfl rfl (.build (r := [.val (.string (⟨#[109, 108, 107, 101, 109]⟩ : ByteArray)), .val (.int .i64 3)]) G1 Jk Lv (by kernel_rfl) rfl) rfl rfl ?_
 refine Cr rfl rfl (.build (r := [.val (.string (⟨#[114, 99, 52]⟩ : ByteArray)), .val (.int .i64 4)]) G1 Jk Lv (by kernel_rfl) rfl) rfl rfl ?_
 refine Cr rfl rfl (.build (r := [.val (.string (⟨#[100, 101, 115, 51]⟩ : ByteArray)), .val (.int .i64 4)]) G1 Jk Lv (by kernel_rfl) rfl) rfl rfl ?_
 refine Cr rfl rfl (.build (r := [.val (.string (⟨#[97, 101, 115, 99, 98, 99]⟩ : ByteArray)), .val (.int .i64 4)]) G1 Jk Lv (by kernel_rfl) rfl) rfl rfl ?_
 refine Cr rfl rfl (.build (r := [.val (.string (⟨#[97, 101, 115, 103, 99, 109]⟩ : ByteArray)), .val (.int .i64 4)]) G1 Jk Lv (by kernel_rfl) rfl) rfl rfl ?_
 refine Cr rfl rfl (.build (r := [.val (.string (⟨#[99, 104, 97, 99, 104, 97]⟩ : ByteArray)), .val (.int .i64 4)]) G1 Jk Lv (by kernel_rfl) rfl) rfl rfl ?_
 refine Cr rfl rfl (.build (r := [.val (.string (⟨#[104, 109, 97, 99, 109, 100, 53]⟩ : ByteArray)), .val (.int .i64 5)]) G1 Jk Lv (by kernel_rfl) rfl) rfl rfl ?_
 refine Cr rfl rfl (.build (r := [.val (.string (⟨#[104, 109, 97, 99, 115, 104, 97, 49]⟩ : ByteArray)), .val (.int .i64 5)]) G1 Jk Lv (by kernel_rfl) rfl) rfl rfl ?_
 refine Cr rfl rfl (.build (r := [.val (.string (⟨#[104, 109, 97, 99, 115, 104, 97, 50, 53, 54]⟩ : ByteArray)), .val (.int .i64 5)]) G1 Jk Lv (by kernel_rfl) rfl) rfl rfl ?_
 refine Cr rfl rfl (.build (r := [.val (.string (⟨#[97, 101, 97, 100]⟩ : ByteArray)), .val (.int .i64 5)]) G1 Jk Lv (by kernel_rfl) rfl) rfl rfl ?_
 refine Cr rfl rfl (Fp uX Lv (by decide) rfl rfl rfl rfl aCq (cs := [.str (⟨#[]⟩ : ByteArray), .int .i64 0, .str (⟨#[109, 100, 53]⟩ : ByteArray), .int .i64 1, .str (⟨#[115, 104, 97, 49]⟩ : ByteArray), .int .i64 1, .str (⟨#[115, 104, 97, 50, 53, 54]⟩ : ByteArray), .int .i64 1, .str (⟨#[115, 104, 97, 51, 56, 52]⟩ : ByteArray), .int .i64 1, .str (⟨#[114, 115, 97]⟩ : ByteArray), .int .i64 2, .str (⟨#[100, 115, 97]⟩ : ByteArray), .int .i64 2, .str (⟨#[101, 99, 100, 115, 97]⟩ : ByteArray), .int .i64 2, .str (⟨#[101, 100, 50, 53, 53, 49, 57]⟩ : ByteArray), .int .i64 2, .str (⟨#[109, 108, 100, 115, 97]⟩ : ByteArray), .int .i64 2, .str (⟨#[114, 115, 97, 107, 120]⟩ : ByteArray), .int .i64 3, .str (⟨#[100, 104, 101]⟩ : ByteArray), .int .i64 3, .str (⟨#[101, 99, 100, 104, 101]⟩ : ByteArray), .int .i64 3, .str (⟨#[109, 108, 107, 101, 109]⟩ : ByteArray), .int .i64 3, .str (⟨#[114, 99, 52]⟩ : ByteArray), .int .i64 4, .str (⟨#[100, 101, 115, 51]⟩ : ByteArray), .int .i64 4, .str (⟨#[97, 101, 115, 99, 98, 99]⟩ : ByteArray), .int .i64 4, .str (⟨#[97, 101, 115, 103, 99, 109]⟩ : ByteArray), .int .i64 4, .str (⟨#[99, 104, 97, 99, 104, 97]⟩ : ByteArray), .int .i64 4, .str (⟨#[104, 109, 97, 99, 109, 100, 53]⟩ : ByteArray), .int .i64 5, .str (⟨#[104, 109, 97, 99, 115, 104, 97, 49]⟩ : ByteArray), .int .i64 5, .str (⟨#[104, 109, 97, 99, 115, 104, 97, 50, 53, 54]⟩ : ByteArray), .int .i64 5, .str (⟨#[97, 101, 97, 100]⟩ : ByteArray), .int .i64 5]) (.cons .str (.cons .int (.cons .str (.cons .int (.cons .str (.cons .int (.cons .str (.cons .int (.cons .str (.cons .int (.cons .str (.cons .int (.cons .str (.cons .int (.cons .str (.cons .int (.cons .str (.cons .int (.cons .str (.cons .int (.cons .str (.cons .int (.cons .str (.cons .int (.cons .str (.cons .int (.cons .str (.cons .int (.cons .str (.cons .int (.cons .str (.cons .int (.cons .str (.cons .int (.cons .str (.cons .int (.cons .str (.cons .int (.cons .str (.cons .int (.cons .str (.cons .int (.cons .str (.cons .int (.cons .str (.cons .int .nil)))))))))))))))))))))))))))))))))))))))))))))) rfl (l := ([(Ap.mk (⟨#[]⟩ : ByteArray) 0), (Ap.mk (⟨#[109, 100, 53]⟩ : ByteArray) 1), (Ap.mk (⟨#[115, 104, 97, 49]⟩ : ByteArray) 1), (Ap.mk (⟨#[115, 104, 97, 50, 53, 54]⟩ : ByteArray) 1), (Ap.mk (⟨#[115, 104, 97, 51, 56, 52]⟩ : ByteArray) 1), (Ap.mk (⟨#[114, 115, 97]⟩ : ByteArray) 2), (Ap.mk (⟨#[100, 115, 97]⟩ : ByteArray) 2), (Ap.mk (⟨#[101, 99, 100, 115, 97]⟩ : ByteArray) 2), (Ap.mk (⟨#[101, 100, 50, 53, 53, 49, 57]⟩ : ByteArray) 2), (Ap.mk (⟨#[109, 108, 100, 115, 97]⟩ : ByteArray) 2), (Ap.mk (⟨#[114, 115, 97, 107, 120]⟩ : ByteArray) 3), (Ap.mk (⟨#[100, 104, 101]⟩ : ByteArray) 3), (Ap.mk (⟨#[101, 99, 100, 104, 101]⟩ : ByteArray) 3), (Ap.mk (⟨#[109, 108, 107, 101, 109]⟩ : ByteArray) 3), (Ap.mk (⟨#[114, 99, 52]⟩ : ByteArray) 4), (Ap.mk (⟨#[100, 101, 115, 51]⟩ : ByteArray) 4), (Ap.mk (⟨#[97, 101, 115, 99, 98, 99]⟩ : ByteArray) 4), (Ap.mk (⟨#[97, 101, 115, 103, 99, 109]⟩ : ByteArray) 4), (Ap.mk (⟨#[99, 104, 97, 99, 104, 97]⟩ : ByteArray) 4), (Ap.mk (⟨#[104, 109, 97, 99, 109, 100, 53]⟩ : ByteArray) 5), (Ap.mk (⟨#[104, 109, 97, 99, 115, 104, 97, 49]⟩ : ByteArray) 5), (Ap.mk (⟨#[104, 109, 97, 99, 115, 104, 97, 50, 53, 54]⟩ : ByteArray) 5), (Ap.mk (⟨#[97, 101, 97, 100]⟩ : ByteArray) 5)] : List Ap)) (f := Ap.enc) rfl) rfl rfl ?_
 exact C6
theorem Tw (alg : Int) (r : Int) (G : D9 alg = some r) : Fn Tryz.prog 95 0 [vk alg] [] (fun d' b' => d' = vk r /\ b' = []) := by
 unfold D9 at G
 refine Fn.of Tryz.func95 rfl rfl rfl fun w0 I ρ0 => ?_
 show B4 _ ⟨w0, I, ρ0, 0, 0, 14⟩ _ _ _
 refine Bk 0 8 A8 fun B => ?_
 refine Ak <| Bw (ι := Bool) (fun (x8_1 : Bool) => mk [(0, vk alg), (8, .val (.bool x8_1))] [] 0) (fun (x8_1 : Bool) => D9.j1 alg x8_1 = some r) ?_ ?_
 refine An (Cj _ _ []) 8 56 B rfl rfl ?_
 refine A6 ?_
 rcases Ef G with ⟨h2, G⟩ | ⟨h2, G⟩
 refine Bq fun B => ?_
 exact ⟨true, G, Bc []⟩
 refine Bq fun B => ?_
 exact ⟨decide (22 < alg), G, Bc []⟩
 rintro x8_1 G
 replace G : D9.j1 alg x8_1 = some r := G
 show B4 _ _ _ _ (mk _ _ _)
 unfold D9.j1 at G
 refine C5 rfl G (fun h5 G => ?_) fun h5 G => ?_
 refine B8 0 8 A8 ?_
 exact C6
 refine Dd ?_
 refine B8 0 48 A8 ?_
 obtain ⟨y, hy, G⟩ := Ac G
 refine Dz (aR _ hy) ?_
 refine A6 ?_
 obtain ⟨e, he, G⟩ := Ac G
 refine A6 ?_
 refine Cr rfl rfl (Ou hZ jF (by decide) (fC Ap.enc_len (Cq he) (o := 1) (by decide) rfl)) rfl rfl ?_
 refine Cr rfl rfl (Dn jF (Is Ap.enc_len (Cq he) (o := 1) (c := .int .i64 e.kind) rfl rfl)) rfl rfl ?_
 exact C6
end Go.Proofs.YtkoflhimdenjaaaGreat
