import Derived.Test.YtkoflhimdenjaaaGreatT1
import Derived.Test.YtkoflhimdenjaaaGreatA1
import Derived.Test.YtkoflhimdenjaaaGreatA2
set_option linter.unusedVariables false
set_option linter.unusedSimpArgs false
set_option maxRecDepth 100000
set_option maxHeartbeats 1600000
namespace Go.Proofs.YtkoflhimdenjaaaGreat
open Go.RowKit
theorem Q1.F (rec : Ae -> Option ((List UInt8))) (hrec : ∀ (v : Ae) (r : (List UInt8)), rec v = some r -> Fn Tryz.prog 164 0 [.agg (Ae.dv v)] [] (fun d' b' => d' = .sl 1 (Aq e8 r) /\ b' = [])) (v : Ae) (r : (List UInt8)) (G : Cz.F rec v = some r) : Fn Tryz.prog 164 0 [.agg (Ae.dv v)] [] (fun d' b' => d' = .sl 1 (Aq e8 r) /\ b' = []) := by
 unfold Cz.F at G
 refine Fn.of Tryz.func164 rfl rfl rfl fun w0 I ρ0 => ?_
 show B4 _ ⟨w0, I, ρ0, 0, 0, 34⟩ _ _ _
 refine Bk 0 16 A8 fun B => ?_
 refine B8 16 56 B ?_
 refine Cr rfl rfl (Fp Kk z5 (by decide) rfl rfl rfl rfl qP (cs := []) .nil rfl (l := ([] : List UInt8)) (f := e8) rfl) rfl rfl ?_
 refine A6 ?_
 obtain ⟨l, hl, G⟩ := Ac G
 refine G4 (rd := [16]) rfl rfl (Fb Kk Jx .row rfl .sl rfl hl rfl) rfl rfl ?_
 refine Bq fun B => ?_
 refine Ak <| Bk 56 64 B fun B => ?_
 refine Ar <| J3 (fun ((i_1, b_1) : Int × List UInt8) => mk [(1, .ptr 0 0), (3, .row 1), (4, vk i_1)] [(0, .box (Ae.dv v) 170), (1, .row 5 1 (Aq e8 b_1))] 2) G (Bc [(0, 0), (1, 40)]) ?_
 rintro ⟨i_1, b_1⟩ m1 o1 G hn1
 replace G : Cz.l1 rec v i_1 b_1 = some o1 := G
 show B4 _ _ _ _ (mk _ _ _)
 unfold Cz.l1 at G
 refine Ak <| Bk 2 42 A8 fun B => ?_
 refine C5 rfl G (fun h5 G => ?_) fun h5 G => ?_
 refine Dd ?_
 refine Ak <| Ar <| An (Cj _ _ []) 42 114 B rfl rfl ?_
 refine A6 ?_
 obtain ⟨e, he, G⟩ := Ac G
 refine A6 ?_
 refine Cr rfl rfl (Dm cW (Ie Ae.enc_len (Cq he) (o := 0) (m := 4) (cs := [.int .i64 e.Tag, .sl 1 (Aq e8 e.Bytes), .bool e.Nested, .sl 4 (Aq Ae.enc e.Elements)]) (by simp only [Ae.enc_eq]; rfl) (by decide) rfl) (Ek Ae.enc_len (Cq he) (o := 0) (m := 4) (by decide) rfl)) rfl rfl ?_
 obtain ⟨y, hy, G⟩ := Ac G
 refine Dz (hrec _ _ hy) ?_
 obtain ⟨l_2, hl_2, G⟩ := Ac G
 refine G4 (rd := [1]) rfl rfl (Fb Kk Jx .row rfl .sl rfl hl_2 rfl) rfl rfl ?_
 refine Bq fun B => ?_
 refine An (Cj _ _ []) 114 138 B rfl rfl ?_
 refine Bq fun B => ?_
 obtain rfl := oi_ G
 exact ⟨((W (i_1 + 1), l_2), m1), Nat.lt_succ_self _, hn1, Bc [(0, 0), (1, 98)]⟩
 refine Ju ?_
 replace G := Cm G hn1
 refine Ak <| Bv (Cj _ _ []) (by kernel_rfl) [0, 1, 3, 7, 0, 16, 48, 127, 0, 511, 1023] 42 130 B rfl rfl (by kernel_rfl) ?_
 refine A6 ?_
 refine Cr rfl rfl (K1 V0 Vz) rfl rfl ?_
 refine Ka Kk z5 qP ([(u8 v.Tag)] : List UInt8) e8 ?_
 refine A6 ?_
 obtain ⟨y_2, hy_2, G⟩ := Ac G
 refine Dz (Xg _ _ hy_2) ?_
 obtain ⟨l_3, hl_3, G⟩ := Ac G
 refine G4 (rd := [66]) rfl rfl (Fb Kk Jx .row rfl .sl rfl hl_3 rfl) rfl rfl ?_
 refine A6 ?_
 obtain ⟨l_4, hl_4, G⟩ := Ac G
 refine G4 (rd := [98, 1]) rfl rfl (Fb Kk Jx .row rfl .row rfl hl_4 rfl) rfl rfl ?_
 exact C6
theorem Q1 (v : Ae) (r : (List UInt8)) (G : Cz v = some r) : Fn Tryz.prog 164 0 [.agg (Ae.dv v)] [] (fun d' b' => d' = .sl 1 (Aq e8 r) /\ b' = []) :=
 Rb (motive := fun (x : Ae) (r : (List UInt8)) => Fn Tryz.prog 164 0 [.agg (Ae.dv x)] [] (fun d' b' => d' = .sl 1 (Aq e8 r) /\ b' = [])) (fun rec hrec x r h => Q1.F _ (fun v r h => hrec v r h) x r h) v r G
theorem Ya (v : Ae) (r : (List UInt8) × Int) (G : Jd v = some r) : Fn Tryz.prog 121 0 [.agg (Ae.dv v)] [] (fun d' b' => d' = .tup [.sl 1 (Aq e8 r.1), vk r.2] /\ b' = []) := by
 unfold Jd at G
 refine Fn.of Tryz.func121 rfl rfl rfl fun w0 I ρ0 => ?_
 show B4 _ ⟨w0, I, ρ0, 0, 0, 17⟩ _ _ _
 refine Bk 0 24 A8 fun B => ?_
 refine Ak <| B8 24 48 B ?_
 refine A6 ?_
 obtain ⟨y, hy, G⟩ := Ac G
 refine Dz (Ni _ _ hy) ?_
 refine Bq fun B => ?_
 refine C5 rfl G (fun h3 G => ?_) fun h3 G => ?_
 refine B8 48 64 B ?_
 exact C6
 refine Dd ?_
 refine Ak <| B8 48 72 B ?_
 refine A6 ?_
 obtain ⟨y_2, hy_2, G⟩ := Ac G
 refine Dz (N6 _ _ hy_2) ?_
 refine Bq fun B => ?_
 refine C5 rfl G (fun h6 G => ?_) fun h6 G => ?_
 refine B8 72 88 B ?_
 exact C6
 refine Dd ?_
 refine B8 72 96 B ?_
 refine A6 ?_
 obtain ⟨y_3, hy_3, G⟩ := Ac G
 refine Dz (Q1 _ _ hy_3) ?_
 refine Bq fun B => ?_
 refine Ak <| Bk 96 120 B fun B => ?_
 refine C5 rfl G (fun h10 G => ?_) fun h10 G => ?_
 refine B8 120 136 B ?_
 exact C6
 refine Dd ?_
 refine Bk 120 144 B fun B => ?_
 exact Lz
theorem Yq (c : Ai) (r : (List UInt8) × Int) (G : I1 c = some r) : Fn Tryz.prog 89 0 [.agg (Ai.dv c)] [] (fun d' b' => d' = .tup [.sl 1 (Aq e8 r.1), vk r.2] /\ b' = []) := by
 unfold I1 at G
 refine Fn.of Tryz.func89 rfl rfl rfl fun w0 I ρ0 => ?_
 show B4 _ ⟨w0, I, ρ0, 0, 0, 12⟩ _ _ _
 refine Bk 0 24 A8 fun B => ?_
 refine Ak <| B8 24 48 B ?_
 refine A6 ?_
 obtain ⟨y, hy, G⟩ := Ac G
 refine Dz (Sk _ _ hy) ?_
 refine Bq fun B => ?_
 refine C5 rfl G (fun h3 G => ?_) fun h3 G => ?_
 refine B8 48 64 B ?_
 exact C6
 refine Dd ?_
 refine B8 48 104 B ?_
 refine A6 ?_
 obtain ⟨y_2, hy_2, G⟩ := Ac G
 refine Dz (aO _ _ hy_2) ?_
 obtain ⟨y_3, hy_3, G⟩ := Ac G
 refine Dz (Ya _ _ hy_3) ?_
 exact C6
theorem dC (b : (List UInt8)) (r : Int) (G : En b = some r) : Fn Tryz.prog 90 0 [.sl 1 (Aq e8 b)] [] (fun d' b' => d' = vk r /\ b' = []) := by
 unfold En at G
 refine Fn.of Tryz.func90 rfl rfl rfl fun w0 I ρ0 => ?_
 show B4 _ ⟨w0, I, ρ0, 0, 0, 21⟩ _ _ _
 refine Bk 0 8 A8 fun B => ?_
 refine Bk 8 16 B fun B => ?_
 refine Ak <| Bk 16 24 B fun B => ?_
 refine Ar <| J3 (fun ((h_1, i_1) : Int × Int) => mk [(0, .sl 1 (Aq e8 b)), (3, .val (.int .u32 h_1)), (4, vk i_1)] [] 0) G (Bc []) ?_
 rintro ⟨h_1, i_1⟩ m1 o1 G hn1
 replace G : En.l1 b h_1 i_1 = some o1 := G
 show B4 _ _ _ _ (mk _ _ _)
 unfold En.l1 at G
 refine Ak <| Bk 0 32 A8 fun B => ?_
 refine C5 rfl G (fun h5 G => ?_) fun h5 G => ?_
 refine Dd ?_
 refine Ak <| Ar <| An (Cj _ _ []) 32 104 B rfl rfl ?_
 refine A6 ?_
 obtain ⟨e, he, G⟩ := Ac G
 refine A6 ?_
 refine Vw he ?_
 refine Cr rfl rfl (Wi Vz mC) rfl rfl ?_
 refine Cr rfl rfl aB rfl rfl ?_
 refine Cr rfl rfl yV rfl rfl ?_
 refine Bq fun B => ?_
 refine An (Cj _ _ []) 104 128 B rfl rfl ?_
 refine Bq fun B => ?_
 obtain rfl := oi_ G
 exact ⟨((IntKind.wrap .u32 ((Ow .u32 h_1 (IntKind.wrap .u32 (e.toNat : Int))) * 16777619), W (i_1 + 1)), m1), Nat.lt_succ_self _, hn1, Bc []⟩
 refine Ju ?_
 replace G := Cm G hn1
 refine B8 32 56 B ?_
 refine A6 ?_
 refine Cr rfl rfl (Xp mC V0) rfl rfl ?_
 exact C6
theorem Z8 (c : Ai) (key : Int) (r : Ai × Int) (G : Ee c key = some r) : Fn Tryz.prog 61 0 [.agg (Ai.dv c), vk key] [] (fun d' b' => d' = .tup [.agg (Ai.dv r.1), vk r.2] /\ b' = []) := by
 unfold Ee at G
 refine Fn.of Tryz.func61 rfl rfl rfl fun w0 I ρ0 => ?_
 show B4 _ ⟨w0, I, ρ0, 0, 0, 35⟩ _ _ _
 refine Bk 0 24 A8 fun B => ?_
 refine B8 24 48 B ?_
 refine A6 ?_
 obtain ⟨y, hy, G⟩ := Ac G
 refine Dz (bF _ _ hy) ?_
 refine Bq fun B => ?_
 refine B8 48 72 B ?_
 refine Ro aS uQ aAl ?_
 refine Bq fun B => ?_
 refine Ak <| Bw (ι := Bool) (fun (x22_1 : Bool) => mk [(1, vk key), (2, .ptr 0 0), (4, .ptr 1 0), (22, .val (.bool x22_1))] [(0, .box [vk y.Serial, ws y.Issuer, ws y.Subject, vk y.Key.Alg, vk y.Key.Bits, vk y.KeyId, vk y.Hash.Alg, vk y.Hash.Bits, vk y.From, vk y.To, .val (.bool y.Authority), vk y.Path, .sl 1 (Aq eS y.Names), .val (.int .i64 0), .val (.int .i64 0)] 111), (1, .box [.val (.int .i64 0), .val (.string (⟨#[]⟩ : ByteArray)), .val (.string (⟨#[]⟩ : ByteArray)), .val (.int .i64 0), .val (.int .i64 0), .val (.int .i64 0), .val (.int .i64 0), .val (.int .i64 0), .val (.int .i64 0), .val (.int .i64 0), .val (.bool false), .val (.int .i64 0), .val (.slice none 0 0), .val (.int .i64 0), .val (.int .i64 0)] 111)] 2) (fun (x22_1 : Bool) => Ee.j1 key y x22_1 = some r) ?_ ?_
 refine An (Cj _ _ []) 72 160 B rfl rfl ?_
 refine A6 ?_
 obtain ⟨y_2, hy_2, G⟩ := Ac G
 refine Dz (Sk _ _ hy_2) ?_
 refine A6 ?_
 rcases Ef G with ⟨h4, G⟩ | ⟨h4, G⟩
 refine Bq fun B => ?_
 exact ⟨true, G, Bc [(0, 0), (1, 8)]⟩
 refine A6 ?_
 rcases Ef G with ⟨h6, G⟩ | ⟨h6, G⟩
 refine Bq fun B => ?_
 exact ⟨true, G, Bc [(0, 0), (1, 8)]⟩
 refine Bq fun B => ?_
 exact ⟨decide (2147483648 < key), G, Bc [(0, 0), (1, 8)]⟩
 rintro x22_1 G
 replace G : Ee.j1 key y x22_1 = some r := G
 show B4 _ _ _ _ (mk _ _ _)
 unfold Ee.j1 at G
 refine C5 rfl G (fun h9 G => ?_) fun h9 G => ?_
 refine B8 2 26 A8 ?_
 refine Cr rfl rfl (.build (r := [.val (.int .i64 0), .val (.string (⟨#[]⟩ : ByteArray)), .val (.string (⟨#[]⟩ : ByteArray)), .val (.int .i64 0), .val (.int .i64 0), .val (.int .i64 0), .val (.int .i64 0), .val (.int .i64 0), .val (.int .i64 0), .val (.int .i64 0), .val (.bool false), .val (.int .i64 0), .val (.slice none 0 0), .val (.int .i64 0), .val (.int .i64 0)]) Kp vG qV (by kernel_rfl) rfl) rfl rfl ?_
 exact C6
 refine Dd ?_
 refine B8 2 58 A8 ?_
 refine A6 ?_
 obtain ⟨y_3, hy_3, G⟩ := Ac G
 refine Dz (Yq _ _ hy_3) ?_
 refine Bq fun B => ?_
 refine B8 58 106 B ?_
 refine A6 ?_
 obtain ⟨y_4, hy_4, G⟩ := Ac G
 refine Dz (dC _ _ hy_4) ?_
 refine Ro aS uQ aAl ?_
 refine Bq fun B => ?_
 refine Bk 106 130 B fun B => ?_
 exact Lz
theorem cU (name : ByteArray) (key : Aw) (id : Int) (anchor : Int) (to : Int) (r : A5) (G : J6 name key id anchor to = some r) : Fn Tryz.prog 32 0 [ws name, .agg [vk key.Alg, vk key.Bits], vk id, vk anchor, vk to] [] (fun d' b' => d' = .agg (A5.dv r) /\ b' = []) := by
 unfold J6 at G
 refine Fn.of Tryz.func32 rfl rfl rfl fun w0 I ρ0 => ?_
 show B4 _ ⟨w0, I, ρ0, 0, 0, 32⟩ _ _ _
 refine Bk 0 16 A8 fun B => ?_
 refine B8 16 104 B ?_
 refine A6 ?_
 refine Ro J4 Qg Ym ?_
 refine A6 ?_
 refine Ka Yk z9 ck9 ([name] : List ByteArray) eS ?_
 refine Cr rfl rfl (.build (r := [vk id, .val (.string (⟨#[114, 111, 111, 116]⟩ : ByteArray)), ws name, vk key.Alg, vk key.Bits, vk id, .val (.int .i64 3), .val (.int .i64 0), .val (.int .i64 0), vk to, .val (.bool false), .val (.int .i64 0), .row 72, .val (.int .i64 0), .val (.int .i64 0)]) Kp vG qV (by kernel_rfl) rfl) rfl rfl ?_
 refine Bq fun B => ?_
 refine Ak <| Ec (σ' := mk [(2, vk id), (3, vk anchor), (6, .ptr 0 0), (10, .ptr 1 0), (11, .ptr 2 0)] [(0, .box [vk key.Alg, vk key.Bits] 34), (1, .box [.val (.int .i64 0), .val (.int .i64 0), .val (.int .i64 0), .val (.slice none 0 0)] 37), (2, .box [vk id, .val (.string (⟨#[114, 111, 111, 116]⟩ : ByteArray)), ws name, vk key.Alg, vk key.Bits, vk id, .val (.int .i64 3), .val (.int .i64 0), .val (.int .i64 0), vk to, .val (.bool false), .val (.int .i64 0), .sl 1 (Aq eS ([name] : List ByteArray)), .val (.int .i64 0), .val (.int .i64 0)] 111)] 3) (Bc [(0, 0), (1, 8), (2, 88)]) ?_
 refine An (Cj _ _ []) 3 59 A8 rfl rfl ?_
 refine A6 ?_
 obtain ⟨y, hy, G⟩ := Ac G
 refine Dz (Z8 _ _ _ hy) ?_
 refine Bq fun B => ?_
 refine B8 59 107 B ?_
 refine A6 ?_
 refine Ka aC8 qV aCi ([y.1] : List Ai) Ai.enc ?_
 refine Ro iG aDs z37 ?_
 exact C6
theorem Uk (d : Ah) (l : (List ByteArray)) (r : ByteArray × Ah) (G : Ik d l = some r) : Fn Tryz.prog 35 1 [.ptr 0 0, .sl 1 (Aq eS l)] [.box [.sl 1 (Aq eI d.L), vk d.At] 71] (fun d' b' => d' = ws r.1 /\ b' = [.box [.sl 1 (Aq eI r.2.L), vk r.2.At] 71]) := by
 unfold Ik at G
 refine Fn.of Tryz.func35 rfl rfl rfl fun w0 I ρ0 => ?_
 show B4 _ ⟨w0, I, ρ0, 1, 1, 12⟩ _ _ _
 refine Bk 1 9 A8 fun B => ?_
 refine B8 9 73 B ?_
 refine A6 ?_
 obtain ⟨y, hy, G⟩ := Ac G
 refine K9 [0] [0] [] false (Dp _ _ _ hy) ?_
 obtain ⟨e, he, G⟩ := Ac G
 refine A6 ?_
 refine Vw he ?_
 refine Bq fun B => ?_
 refine F3 ?_
 obtain rfl := oi_ G
 exact Ht [(0, 0)] ⟨rfl, rfl⟩
theorem cB (d : Ah) (name : ByteArray) (r : Di × Ah) (G : F6 d name = some r) : Fn Tryz.prog 34 1 [.ptr 0 0, ws name] [.box [.sl 1 (Aq eI d.L), vk d.At] 71] (fun d' b' => d' = .agg (Di.dv r.1) /\ b' = [.box [.sl 1 (Aq eI r.2.L), vk r.2.At] 71]) := by
 unfold F6 at G
 refine Fn.of Tryz.func34 rfl rfl rfl fun w0 I ρ0 => ?_
 show B4 _ ⟨w0, I, ρ0, 1, 1, 62⟩ _ _ _
 refine Bk 1 9 A8 fun B => ?_
 refine B8 9 89 B ?_
 refine A6 ?_
 obtain ⟨y, hy, G⟩ := Ac G
 refine K9 [0] [0] [] false (Dp _ _ _ hy) ?_
 refine A6 ?_
 obtain ⟨y_2, hy_2, G⟩ := Ac G
 refine K9 [0] [0] [] false (Dp _ _ _ hy_2) ?_
 refine A6 ?_
 refine Ro nZ aE0 z81 ?_
 refine Bq fun B => ?_
 refine B8 89 113 B ?_
 refine A6 ?_
 obtain ⟨y_3, hy_3, G⟩ := Ac G
 refine K9 [0] [0] [] false (Dp _ _ _ hy_3) ?_
 refine Bq fun B => ?_
 refine Ak <| B8 113 145 B ?_
 refine A6 ?_
 obtain ⟨y_4, hy_4, G⟩ := Ac G
 refine K9 [0] [0] [] false (Dp _ _ _ hy_4) ?_
 refine Bq fun B => ?_
 refine Ar <| J3 (fun ((day_1, i_1, d_1, l_1) : Int × Int × Ah × List C2) => mk [(0, .ptr 0 0), (4, .ptr 1 0), (5, .ptr 2 0), (6, vk day_1), (7, vk i_1)] [(0, .box [.sl 1 (Aq eI d_1.L), vk d_1.At] 71), (1, .box [.val (.string (⟨#[]⟩ : ByteArray)), .val (.int .i64 0), .val (.int .i64 0), .val (.slice none 0 0), .val (.int .i64 0)] 81), (2, .box [ws name, .val (.int .i64 (W (1 + y.1))), .val (.int .i64 (W (1 + y_2.1))), .row 3, .val (.int .i64 0)] 81), (3, .row 115 3 (Aq C2.enc l_1))] 4) G (Bc [(0, 0), (1, 1), (2, 73)]) ?_
 rintro ⟨day_1, i_1, d_1, l_1⟩ m1 o1 G hn1
 replace G : F6.l1 name y y_2 day_1 i_1 d_1 l_1 = some o1 := G
 show B4 _ _ _ _ (mk _ _ _)
 unfold F6.l1 at G
 refine Ak <| Bk 4 20 A8 fun B => ?_
 refine C5 rfl G (fun h6 G => ?_) fun h6 G => ?_
 refine Dd ?_
 refine Ak <| Ar <| B8 20 124 B ?_
 refine Ro J4 Qg Ym ?_
 refine Ro J4 Qg Ym ?_
 refine Ro J4 Qg Ym ?_
 refine Ro J4 Qg Ym ?_
 refine Ro J4 Qg Ym ?_
 refine Ro J4 Qg Ym ?_
 refine Ka aCy Ym aFf ([(Aw.mk 2 0), (Aw.mk 1 0), (Aw.mk 5 2048), (Aw.mk 16 128), (Aw.mk 3 0), (Aw.mk 15 168)] : List Aw) Aw.enc ?_
 refine A6 ?_
 obtain ⟨y_5, hy_5, G⟩ := Ac G
 refine K9 [0] [0] [] false (Dp _ _ _ hy_5) ?_
 obtain ⟨e, he, G⟩ := Ac G
 refine A6 ?_
 refine J7 he ?_
 refine Bq fun B => ?_
 refine B8 124 196 B ?_
 refine A6 ?_
 refine Ro oC aCb vO ?_
 refine Ka aAa vO aDh ([(C2.mk e day_1)] : List C2) C2.enc ?_
 obtain ⟨l, hl, G⟩ := Ac G
 refine G4 (rd := [3, 164]) rfl rfl (Fb aAa C2.enc_len .row rfl .row rfl hl rfl) rfl rfl ?_
 refine Bq fun B => ?_
 refine An (Cj _ _ [220]) 196 252 B rfl rfl ?_
 refine A6 ?_
 refine zW G6 z3 Mi ([5, 30, 0, 100] : List Int) eI ?_
 obtain ⟨y_6, hy_6, G⟩ := Ac G
 refine K9 [0] [0] [] false (M5 _ _ _ hy_6) ?_
 refine Bq fun B => ?_
 refine An (Cj _ _ []) 252 276 B rfl rfl ?_
 refine Bq fun B => ?_
 obtain rfl := oi_ G
 exact ⟨((W ((W (day_1 + 1)) + y_6.1), W (i_1 - 1), y_6.2, l), m1), Nat.lt_succ_self _, hn1, Bc [(0, 0), (1, 1), (2, 2), (3, 172)]⟩
 refine Ju ?_
 replace G := Cm G hn1
 refine Ak <| Bv (Cj _ _ [68]) (by kernel_rfl) [0, 1, 3, 7, 15, 0, 0, 96, 255, 511, 1023] 20 108 B rfl rfl (by kernel_rfl) ?_
 refine A6 ?_
 obtain ⟨e_2, he_2, G⟩ := Ac G
 refine A6 ?_
 refine G4 (rd := [3]) rfl rfl (.loadR1 jF (Is C2.enc_len (Cq he_2) (o := 2) (c := .int .i64 e_2.Day) rfl rfl)) rfl rfl ?_
 refine A6 ?_
 refine zW G6 z3 Mi ([50, 300, 0, 3000] : List Int) eI ?_
 obtain ⟨y_7, hy_7, G⟩ := Ac G
 refine K9 [0] [0] [] false (M5 _ _ _ hy_7) ?_
 refine Bq fun B => ?_
 refine Bk 108 124 B fun B => ?_
 refine F3 ?_
 obtain rfl := oi_ G
 exact Ht [(0, 0)] ⟨rfl, rfl⟩
theorem aH (d : Ah) (r : C1 × Ah) (G : Bd d = some r) : Fn Tryz.prog 9 1 [.ptr 0 0] [.box [.sl 1 (Aq eI d.L), vk d.At] 71] (fun d' b' => d' = .agg (C1.dv r.1) /\ b' = [.box [.sl 1 (Aq eI r.2.L), vk r.2.At] 71]) := by
 unfold Bd at G
 refine Fn.of Tryz.func9 rfl rfl rfl fun w0 I ρ0 => ?_
 show B4 _ ⟨w0, I, ρ0, 1, 1, 122⟩ _ _ _
 refine Bk 1 9 A8 fun B => ?_
 refine Bk 9 17 B fun B => ?_
 refine B8 17 65 B ?_
 refine Ka Yk z9 ck9 ([(⟨#[97, 112, 112]⟩ : ByteArray), (⟨#[100, 98]⟩ : ByteArray), (⟨#[119, 101, 98]⟩ : ByteArray)] : List ByteArray) eS ?_
 refine A6 ?_
 obtain ⟨y, hy, G⟩ := Ac G
 refine K9 [0] [0] [] false (Dp _ _ _ hy) ?_
 refine A6 ?_
 obtain ⟨l, hl, G⟩ := Ac G
 refine G4 (rd := [17]) rfl rfl (U3 Yk aM hl) rfl rfl ?_
 refine Bq fun B => ?_
 refine Ak <| B8 65 89 B ?_
 refine A6 ?_
 refine Cr rfl rfl (.len Yk.elem .part) rfl rfl ?_
 refine Bq fun B => ?_
 refine Ar <| J3 (fun ((x18_1, d_1, l_1) : Int × Ah × List Ao) => mk [(0, .ptr 0 0), (2, .ptr 1 0), (3, .ptr 2 0), (4, .part 3 (((0 : Int).toNat) * 1) ((W (2 + y.1) : Int).toNat - (0 : Int).toNat)), (16, .part 3 (((0 : Int).toNat) * 1) ((W (2 + y.1) : Int).toNat - (0 : Int).toNat)), (17, .val (.int .i64 ((((W (2 + y.1) : Int).toNat - (0 : Int).toNat) : Nat) : Int))), (18, vk x18_1)] [(0, .box [.sl 1 (Aq eI d_1.L), vk d_1.At] 71), (1, .box [.val (.slice none 0 0), .val (.slice none 0 0), .val (.slice none 0 0)] 31), (2, .box [.row 4, .val (.slice none 0 0), .val (.slice none 0 0)] 31), (3, .row 9 1 (Aq eS ([(⟨#[97, 112, 112]⟩ : ByteArray), (⟨#[100, 98]⟩ : ByteArray), (⟨#[119, 101, 98]⟩ : ByteArray)] : List ByteArray))), (4, .row 43 9 (Aq Ao.enc l_1))] 5) G (Bc [(0, 0), (1, 1), (2, 9), (3, 17)]) ?_
 rintro ⟨x18_1, d_1, l_1⟩ m1 o1 G hn1
 replace G : Bd.l1 y x18_1 d_1 l_1 = some o1 := G
 show B4 _ _ _ _ (mk _ _ _)
 unfold Bd.l1 at G
 refine Bk 5 13 A8 fun B => ?_
 refine Ak <| C5 rfl G (fun h6 G => ?_) fun h6 G => ?_
 refine Dd ?_
 refine Ak <| Ar <| B8 13 53 B ?_
 refine A6 ?_
 obtain ⟨e, he, G⟩ := Ac G
 refine G4 (rd := [3]) rfl rfl (Z9 Yk (Pi he) (Cq he)) rfl rfl ?_
 refine G4 (rd := [3]) rfl rfl (.loadR1 ty9 (Is aM (Pc (a := (0 : Int).toNat) (Cq he)) (o := 0) (c := .str e) rfl rfl)) rfl rfl ?_
 refine Bq fun B => ?_
 refine Ak <| Bv (Cj _ _ [69, 85, 93, 101]) (by kernel_rfl) [0, 0, 0, 6, 0, 0, 0, 112, 0, 270, 1022, 2046, 0, 4878, 0, 0, 0, 78606, 262143, 0, 1048575] 53 221 B rfl rfl (by kernel_rfl) ?_
 refine A6 ?_
 refine zW G6 z3 Mi ([3, 3, 4] : List Int) eI ?_
 obtain ⟨y_2, hy_2, G⟩ := Ac G
 refine K9 [0] [0] [] false (M5 _ _ _ hy_2) ?_
 refine zW G6 z3 Mi ([10, 8, 2] : List Int) eI ?_
 refine zW G6 z3 Mi ([8, 2] : List Int) eI ?_
 refine zW G6 z3 Mi ([2, 10, 8, 3] : List Int) eI ?_
 refine Ka aBg z22 aEv ([([10, 8, 2] : List Int), ([8, 2] : List Int), ([2, 10, 8, 3] : List Int)] : List (List Int)) (eL 1 eI) ?_
 refine A6 ?_
 obtain ⟨y_3, hy_3, G⟩ := Ac G
 refine K9 [0] [0] [] false (Dp _ _ _ hy_3) ?_
 obtain ⟨e_2, he_2, G⟩ := Ac G
 refine A6 ?_
 refine G4 (rd := [109]) rfl rfl (.loadR1 aBj (Is (qD _ _) (Cq he_2) (o := 0) (c := .sl 1 (Aq eI e_2)) rfl rfl)) rfl rfl ?_
 refine A6 ?_
 obtain ⟨y_4, hy_4, G⟩ := Ac G
 refine K9 [0] [0] [] false (Py _ _ _ hy_4) ?_
 refine Ka G6 z3 Mi ([1] : List Int) eI ?_
 refine Ka G6 z3 Mi ([2, 3] : List Int) eI ?_
 refine A6 ?_
 obtain ⟨y_5, hy_5, G⟩ := Ac G
 refine K9 [0] [0] [] false (Py _ _ _ hy_5) ?_
 refine Ro Tg aC0 z43 ?_
 refine Bq fun B => ?_
 refine Bw (ι := List Int) (fun (x_2 : List Int) => mk [(0, .ptr 0 0), (2, .ptr 1 0), (3, .ptr 2 0), (4, .part 3 (((0 : Int).toNat) * 1) ((W (2 + y.1) : Int).toNat - (0 : Int).toNat)), (5, vk x18_1), (6, ws e), (7, .ptr 4 0), (16, .part 3 (((0 : Int).toNat) * 1) ((W (2 + y.1) : Int).toNat - (0 : Int).toNat)), (17, .val (.int .i64 ((((W (2 + y.1) : Int).toNat - (0 : Int).toNat) : Nat) : Int))), (18, vk x18_1)] [(0, .box [.sl 1 (Aq eI y_5.2.L), vk y_5.2.At] 71), (1, .box [.val (.slice none 0 0), .val (.slice none 0 0), .val (.slice none 0 0)] 31), (2, .box [.row 5, .val (.slice none 0 0), .val (.slice none 0 0)] 31), (3, .row 9 1 (Aq eS ([(⟨#[97, 112, 112]⟩ : ByteArray), (⟨#[100, 98]⟩ : ByteArray), (⟨#[119, 101, 98]⟩ : ByteArray)] : List ByteArray))), (4, .box [ws e, .val (.int .i64 1), vk y_2.1, .sl 1 (Aq eI x_2), .val (.bool y_4.1), .val (.slice none 0 0), .row 6, .row 7, .val (.bool y_5.1)] 43), (5, .row 43 9 (Aq Ao.enc l_1)), (6, .row 3 1 (Aq eI ([1] : List Int))), (7, .row 3 1 (Aq eI ([2, 3] : List Int)))] 8) (fun (x_2 : List Int) => Bd.j2 x18_1 l_1 e y_2 y_4 y_5 x_2 = some o1) ?_ ?_
 refine Bk 221 245 B fun B => ?_
 refine C5 rfl G (fun h10 G => ?_) fun h10 G => ?_
 refine An (Cj _ _ []) 245 293 B rfl rfl ?_
 refine Ka G6 z3 Mi ([14] : List Int) eI ?_
 refine A6 ?_
 obtain ⟨l_2, hl_2, G⟩ := Ac G
 refine G4 (rd := [245]) rfl rfl (Fb G6 Xu .row rfl .sl rfl hl_2 rfl) rfl rfl ?_
 refine Bq fun B => ?_
 exact ⟨l_2, G, Bc [(0, 0), (1, 1), (2, 2), (3, 3), (4, 205), (5, 4), (6, 165), (7, 173)]⟩
 refine Dd ?_
 exact ⟨e_2, G, Bc [(0, 0), (1, 1), (2, 2), (3, 3), (4, 205), (5, 4), (6, 165), (7, 173)]⟩
 rintro x_2 G
 replace G : Bd.j2 x18_1 l_1 e y_2 y_4 y_5 x_2 = some o1 := G
 show B4 _ _ _ _ (mk _ _ _)
 unfold Bd.j2 at G
 refine B8 8 72 A8 ?_
 refine A6 ?_
 obtain ⟨y_6, hy_6, G⟩ := Ac G
 refine Dz (gP _ hy_6) ?_
 refine A6 ?_
 obtain ⟨y_7, hy_7, G⟩ := Ac G
 refine Dz (cU _ _ _ _ _ _ hy_7) ?_
 refine Ka aBd z37 aEo ([y_7] : List A5) A5.enc ?_
 refine Bq fun B => ?_
 refine Ec (σ' := mk [(0, .ptr 0 0), (2, .ptr 1 0), (3, .ptr 2 0), (4, .part 3 (((0 : Int).toNat) * 1) ((W (2 + y.1) : Int).toNat - (0 : Int).toNat)), (7, .ptr 4 0), (16, .part 3 (((0 : Int).toNat) * 1) ((W (2 + y.1) : Int).toNat - (0 : Int).toNat)), (17, .val (.int .i64 ((((W (2 + y.1) : Int).toNat - (0 : Int).toNat) : Nat) : Int))), (18, vk x18_1)] [(0, .box [.sl 1 (Aq eI y_5.2.L), vk y_5.2.At] 71), (1, .box [.val (.slice none 0 0), .val (.slice none 0 0), .val (.slice none 0 0)] 31), (2, .box [.row 5, .val (.slice none 0 0), .val (.slice none 0 0)] 31), (3, .row 9 1 (Aq eS ([(⟨#[97, 112, 112]⟩ : ByteArray), (⟨#[100, 98]⟩ : ByteArray), (⟨#[119, 101, 98]⟩ : ByteArray)] : List ByteArray))), (4, .box [ws e, .val (.int .i64 1), vk y_2.1, .sl 1 (Aq eI x_2), .val (.bool y_4.1), .sl 4 (Aq A5.enc ([y_7] : List A5)), .row 6, .row 7, .val (.bool y_5.1)] 43), (5, .row 43 9 (Aq Ao.enc l_1)), (6, .row 3 1 (Aq eI ([1] : List Int))), (7, .row 3 1 (Aq eI ([2, 3] : List Int)))] 8) (Bc [(0, 0), (1, 1), (2, 2), (3, 3), (4, 4), (5, 5), (6, 6), (7, 7)]) ?_
 refine Ec (σ' := mk [(0, .ptr 0 0), (2, .ptr 1 0), (3, .ptr 2 0), (4, .part 3 (((0 : Int).toNat) * 1) ((W (2 + y.1) : Int).toNat - (0 : Int).toNat)), (7, .ptr 4 0), (16, .part 3 (((0 : Int).toNat) * 1) ((W (2 + y.1) : Int).toNat - (0 : Int).toNat)), (17, .val (.int .i64 ((((W (2 + y.1) : Int).toNat - (0 : Int).toNat) : Nat) : Int))), (18, vk x18_1)] [(0, .box [.sl 1 (Aq eI y_5.2.L), vk y_5.2.At] 71), (1, .box [.val (.slice none 0 0), .val (.slice none 0 0), .val (.slice none 0 0)] 31), (2, .box [.row 5, .val (.slice none 0 0), .val (.slice none 0 0)] 31), (3, .row 9 1 (Aq eS ([(⟨#[97, 112, 112]⟩ : ByteArray), (⟨#[100, 98]⟩ : ByteArray), (⟨#[119, 101, 98]⟩ : ByteArray)] : List ByteArray))), (4, .box [ws e, .val (.int .i64 1), vk y_2.1, .sl 1 (Aq eI x_2), .val (.bool y_4.1), .sl 4 (Aq A5.enc ([y_7] : List A5)), .sl 1 (Aq eI ([1] : List Int)), .row 6, .val (.bool y_5.1)] 43), (5, .row 43 9 (Aq Ao.enc l_1)), (6, .row 3 1 (Aq eI ([2, 3] : List Int)))] 7) (Bc [(0, 0), (1, 1), (2, 2), (3, 3), (4, 4), (5, 5), (6, 7)]) ?_
 refine Ec (σ' := mk [(0, .ptr 0 0), (2, .ptr 1 0), (3, .ptr 2 0), (4, .part 3 (((0 : Int).toNat) * 1) ((W (2 + y.1) : Int).toNat - (0 : Int).toNat)), (7, .ptr 4 0), (16, .part 3 (((0 : Int).toNat) * 1) ((W (2 + y.1) : Int).toNat - (0 : Int).toNat)), (17, .val (.int .i64 ((((W (2 + y.1) : Int).toNat - (0 : Int).toNat) : Nat) : Int))), (18, vk x18_1)] [(0, .box [.sl 1 (Aq eI y_5.2.L), vk y_5.2.At] 71), (1, .box [.val (.slice none 0 0), .val (.slice none 0 0), .val (.slice none 0 0)] 31), (2, .box [.row 5, .val (.slice none 0 0), .val (.slice none 0 0)] 31), (3, .row 9 1 (Aq eS ([(⟨#[97, 112, 112]⟩ : ByteArray), (⟨#[100, 98]⟩ : ByteArray), (⟨#[119, 101, 98]⟩ : ByteArray)] : List ByteArray))), (4, .box [ws e, .val (.int .i64 1), vk y_2.1, .sl 1 (Aq eI x_2), .val (.bool y_4.1), .sl 4 (Aq A5.enc ([y_7] : List A5)), .sl 1 (Aq eI ([1] : List Int)), .sl 1 (Aq eI ([2, 3] : List Int)), .val (.bool y_5.1)] 43), (5, .row 43 9 (Aq Ao.enc l_1))] 6) (Bc [(0, 0), (1, 1), (2, 2), (3, 3), (4, 4), (5, 5)]) ?_
 refine An (Cj _ _ []) 6 62 A8 rfl rfl ?_
 refine A6 ?_
 refine Ka zL z43 aD0 ([(Ao.mk e 1 y_2.1 x_2 y_4.1 ([y_7] : List A5) ([1] : List Int) ([2, 3] : List Int) y_5.1)] : List Ao) Ao.enc ?_
 obtain ⟨l_3, hl_3, G⟩ := Ac G
 refine G4 (rd := [5, 30]) rfl rfl (Fb zL Ao.enc_len .row rfl .row rfl hl_3 rfl) rfl rfl ?_
 refine Bq fun B => ?_
 refine An (Cj _ _ []) 62 78 B rfl rfl ?_
 refine Bq fun B => ?_
 obtain rfl := oi_ G
 exact ⟨((W (x18_1 + 1), y_5.2, l_3), m1), Nat.lt_succ_self _, hn1, Bc [(0, 0), (1, 1), (2, 2), (3, 3), (4, 38)]⟩
 refine Ju ?_
 replace G := Cm G hn1
 refine Ak <| B8 13 37 B ?_
 refine A6 ?_
 refine Cr rfl rfl (.len Yk.elem .part) rfl rfl ?_
 refine Bq fun B => ?_
 refine Ar <| J3 (fun ((x66_6, d_6, l_6) : Int × Ah × List Bo) => mk [(0, .ptr 0 0), (2, .ptr 1 0), (3, .ptr 2 0), (4, .part 3 (((0 : Int).toNat) * 1) ((W (2 + y.1) : Int).toNat - (0 : Int).toNat)), (65, .val (.int .i64 ((((W (2 + y.1) : Int).toNat - (0 : Int).toNat) : Nat) : Int))), (66, vk x66_6)] [(0, .box [.sl 1 (Aq eI d_6.L), vk d_6.At] 71), (1, .box [.val (.slice none 0 0), .val (.slice none 0 0), .val (.slice none 0 0)] 31), (2, .box [.row 4, .row 5, .val (.slice none 0 0)] 31), (3, .row 9 1 (Aq eS ([(⟨#[97, 112, 112]⟩ : ByteArray), (⟨#[100, 98]⟩ : ByteArray), (⟨#[119, 101, 98]⟩ : ByteArray)] : List ByteArray))), (4, .row 43 9 (Aq Ao.enc l_1)), (5, .row 78 2 (Aq Bo.enc l_6))] 6) G (Bc [(0, 0), (1, 1), (2, 2), (3, 3), (4, 4)]) ?_
 rintro ⟨x66_6, d_6, l_6⟩ m6 o6 G hn6
 replace G : Bd.l6 y l_1 x66_6 d_6 l_6 = some o6 := G
 show B4 _ _ _ _ (mk _ _ _)
 unfold Bd.l6 at G
 refine Bk 6 14 A8 fun B => ?_
 refine Ak <| C5 rfl G (fun h17 G => ?_) fun h17 G => ?_
 refine Dd ?_
 refine Ak <| Ar <| Bk 14 30 B fun B => ?_
 refine B8 30 54 B ?_
 refine A6 ?_
 refine Cr rfl rfl (.len Yk.elem .part) rfl rfl ?_
 refine Bq fun B => ?_
 refine Ar <| J3 (fun ((x71_7, d_7, l_7) : Int × Ah × List Bo) => mk [(0, .ptr 0 0), (2, .ptr 1 0), (3, .ptr 2 0), (4, .part 3 (((0 : Int).toNat) * 1) ((W (2 + y.1) : Int).toNat - (0 : Int).toNat)), (8, vk x66_6), (65, .val (.int .i64 ((((W (2 + y.1) : Int).toNat - (0 : Int).toNat) : Nat) : Int))), (66, vk x66_6), (70, .val (.int .i64 ((((W (2 + y.1) : Int).toNat - (0 : Int).toNat) : Nat) : Int))), (71, vk x71_7)] [(0, .box [.sl 1 (Aq eI d_7.L), vk d_7.At] 71), (1, .box [.val (.slice none 0 0), .val (.slice none 0 0), .val (.slice none 0 0)] 31), (2, .box [.row 4, .row 5, .val (.slice none 0 0)] 31), (3, .row 9 1 (Aq eS ([(⟨#[97, 112, 112]⟩ : ByteArray), (⟨#[100, 98]⟩ : ByteArray), (⟨#[119, 101, 98]⟩ : ByteArray)] : List ByteArray))), (4, .row 43 9 (Aq Ao.enc l_1)), (5, .row 78 2 (Aq Bo.enc l_7))] 6) G (Bc [(0, 0), (1, 1), (2, 2), (3, 3), (4, 4), (5, 5)]) ?_
 rintro ⟨x71_7, d_7, l_7⟩ m7 o7 G hn7
 replace G : Bd.l7 y x66_6 x71_7 d_7 l_7 = some o7 := G
 show B4 _ _ _ _ (mk _ _ _)
 unfold Bd.l7 at G
 refine Bk 6 14 A8 fun B => ?_
 refine Ak <| C5 rfl G (fun h21 G => ?_) fun h21 G => ?_
 refine Dd ?_
 refine Bw (ι := Ah × List Bo) (fun ((d_9, l_9) : Ah × List Bo) => mk [(0, .ptr 0 0), (2, .ptr 1 0), (3, .ptr 2 0), (4, .part 3 (((0 : Int).toNat) * 1) ((W (2 + y.1) : Int).toNat - (0 : Int).toNat)), (8, vk x66_6), (65, .val (.int .i64 ((((W (2 + y.1) : Int).toNat - (0 : Int).toNat) : Nat) : Int))), (66, vk x66_6), (70, .val (.int .i64 ((((W (2 + y.1) : Int).toNat - (0 : Int).toNat) : Nat) : Int))), (71, vk x71_7)] [(0, .box [.sl 1 (Aq eI d_9.L), vk d_9.At] 71), (1, .box [.val (.slice none 0 0), .val (.slice none 0 0), .val (.slice none 0 0)] 31), (2, .box [.row 4, .row 5, .val (.slice none 0 0)] 31), (3, .row 9 1 (Aq eS ([(⟨#[97, 112, 112]⟩ : ByteArray), (⟨#[100, 98]⟩ : ByteArray), (⟨#[119, 101, 98]⟩ : ByteArray)] : List ByteArray))), (4, .row 43 9 (Aq Ao.enc l_1)), (5, .row 78 2 (Aq Bo.enc l_9))] 6) (fun ((d_9, l_9) : Ah × List Bo) => Bd.j9 x71_7 d_9 l_9 = some o7) ?_ ?_
 refine Ar <| Bk 14 30 B fun B => ?_
 refine Bw (ι := Bool × Ah) (fun ((x87_8, d_8) : Bool × Ah) => mk [(0, .ptr 0 0), (2, .ptr 1 0), (3, .ptr 2 0), (4, .part 3 (((0 : Int).toNat) * 1) ((W (2 + y.1) : Int).toNat - (0 : Int).toNat)), (8, vk x66_6), (9, vk x71_7), (65, .val (.int .i64 ((((W (2 + y.1) : Int).toNat - (0 : Int).toNat) : Nat) : Int))), (66, vk x66_6), (70, .val (.int .i64 ((((W (2 + y.1) : Int).toNat - (0 : Int).toNat) : Nat) : Int))), (71, vk x71_7), (87, .val (.bool x87_8))] [(0, .box [.sl 1 (Aq eI d_8.L), vk d_8.At] 71), (1, .box [.val (.slice none 0 0), .val (.slice none 0 0), .val (.slice none 0 0)] 31), (2, .box [.row 4, .row 5, .val (.slice none 0 0)] 31), (3, .row 9 1 (Aq eS ([(⟨#[97, 112, 112]⟩ : ByteArray), (⟨#[100, 98]⟩ : ByteArray), (⟨#[119, 101, 98]⟩ : ByteArray)] : List ByteArray))), (4, .row 43 9 (Aq Ao.enc l_1)), (5, .row 78 2 (Aq Bo.enc l_7))] 6) (fun ((x87_8, d_8) : Bool × Ah) => Bd.j8 x66_6 x71_7 l_7 x87_8 d_8 = some o7) ?_ ?_
 refine An (Cj _ _ []) 30 142 B rfl rfl ?_
 refine A6 ?_
 rcases Ef G with ⟨h23, G⟩ | ⟨h23, G⟩
 refine A6 ?_
 obtain ⟨y_8, hy_8, G⟩ := Ac G
 refine K9 [0] [0] [] false (Dp _ _ _ hy_8) ?_
 refine A6 ?_
 rcases Ef G with ⟨h24, G⟩ | ⟨h24, G⟩
 refine Bq fun B => ?_
 exact ⟨(decide ((l_7.length : Int) < 3), y_8.2), G, Bc [(0, 0), (1, 1), (2, 2), (3, 3), (4, 4), (5, 5)]⟩
 refine Bq fun B => ?_
 exact ⟨(false, y_8.2), G, Bc [(0, 0), (1, 1), (2, 2), (3, 3), (4, 4), (5, 5)]⟩
 refine Bq fun B => ?_
 exact ⟨(false, d_7), G, Bc [(0, 0), (1, 1), (2, 2), (3, 3), (4, 4), (5, 5)]⟩
 rintro ⟨x87_8, d_8⟩ G
 replace G : Bd.j8 x66_6 x71_7 l_7 x87_8 d_8 = some o7 := G
 show B4 _ _ _ _ (mk _ _ _)
 unfold Bd.j8 at G
 refine C5 rfl G (fun h28 G => ?_) fun h28 G => ?_
 refine An (Cj _ _ []) 6 78 A8 rfl rfl ?_
 refine A6 ?_
 refine Ro uU aBe z78 ?_
 refine Ka sK z78 aCd ([(Bo.mk x66_6 x71_7)] : List Bo) Bo.enc ?_
 obtain ⟨l_4, hl_4, G⟩ := Ac G
 refine G4 (rd := [5, 46]) rfl rfl (Fb sK Bo.enc_len .row rfl .row rfl hl_4 rfl) rfl rfl ?_
 refine Bq fun B => ?_
 exact ⟨(d_8, l_4), G, Bc [(0, 0), (1, 1), (2, 2), (3, 3), (4, 4), (5, 54)]⟩
 refine Dd ?_
 exact ⟨(d_8, l_7), G, Bc [(0, 0), (1, 1), (2, 2), (3, 3), (4, 4), (5, 5)]⟩
 rintro ⟨d_9, l_9⟩ G
 replace G : Bd.j9 x71_7 d_9 l_9 = some o7 := G
 show B4 _ _ _ _ (mk _ _ _)
 unfold Bd.j9 at G
 refine An (Cj _ _ []) 6 22 A8 rfl rfl ?_
 refine Bq fun B => ?_
 obtain rfl := oi_ G
 exact ⟨((W (x71_7 + 1), d_9, l_9), m7), Nat.lt_succ_self _, hn7, Bc [(0, 0), (1, 1), (2, 2), (3, 3), (4, 4), (5, 5)]⟩
 refine Ju ?_
 replace G := Cm G hn7
 refine An (Cj _ _ []) 14 30 B rfl rfl ?_
 refine Bq fun B => ?_
 obtain rfl := oi_ G
 exact ⟨((W (x66_6 + 1), d_7, l_7), m6), Nat.lt_succ_self _, hn6, Bc [(0, 0), (1, 1), (2, 2), (3, 3), (4, 4), (5, 5)]⟩
 refine Ju ?_
 replace G := Cm G hn6
 refine Bw (ι := List Bo) (fun (l_10 : List Bo) => mk [(0, .ptr 0 0), (2, .ptr 1 0), (3, .ptr 2 0)] [(0, .box [.sl 1 (Aq eI d_6.L), vk d_6.At] 71), (1, .box [.val (.slice none 0 0), .val (.slice none 0 0), .val (.slice none 0 0)] 31), (2, .box [.row 3, .row 4, .val (.slice none 0 0)] 31), (3, .row 43 9 (Aq Ao.enc l_1)), (4, .row 78 2 (Aq Bo.enc l_10))] 5) (fun (l_10 : List Bo) => Bd.j10 l_1 d_6 l_10 = some r) ?_ ?_
 refine Bk 14 46 B fun B => ?_
 refine C5 rfl G (fun h33 G => ?_) fun h33 G => ?_
 refine An (Cj _ _ []) 46 78 B rfl rfl ?_
 refine Ro uU aBe z78 ?_
 refine Ka sK z78 aCd ([(Bo.mk 0 1)] : List Bo) Bo.enc ?_
 refine Bq fun B => ?_
 exact ⟨([(Bo.mk 0 1)] : List Bo), G, Bc [(0, 0), (1, 1), (2, 2), (3, 4), (4, 54)]⟩
 refine Dd ?_
 exact ⟨l_6, G, Bc [(0, 0), (1, 1), (2, 2), (3, 4), (4, 5)]⟩
 rintro l_10 G
 replace G : Bd.j10 l_1 d_6 l_10 = some r := G
 show B4 _ _ _ _ (mk _ _ _)
 unfold Bd.j10 at G
 refine Ak <| B8 5 29 A8 ?_
 refine A6 ?_
 obtain ⟨y_9, hy_9, G⟩ := Ac G
 refine K9 [0] [0] [] false (Dp _ _ _ hy_9) ?_
 refine Bq fun B => ?_
 refine Ar <| J3 (fun ((i_11, d_11, l_11) : Int × Ah × List Di) => mk [(0, .ptr 0 0), (2, .ptr 1 0), (3, .ptr 2 0), (10, vk i_11)] [(0, .box [.sl 1 (Aq eI d_11.L), vk d_11.At] 71), (1, .box [.val (.slice none 0 0), .val (.slice none 0 0), .val (.slice none 0 0)] 31), (2, .box [.row 3, .row 4, .row 5] 31), (3, .row 43 9 (Aq Ao.enc l_1)), (4, .row 78 2 (Aq Bo.enc l_10)), (5, .row 81 5 (Aq Di.enc l_11))] 6) G (Bc [(0, 0), (1, 1), (2, 2), (3, 3), (4, 4)]) ?_
 rintro ⟨i_11, d_11, l_11⟩ m11 o11 G hn11
 replace G : Bd.l11 l_1 l_10 i_11 d_11 l_11 = some o11 := G
 show B4 _ _ _ _ (mk _ _ _)
 unfold Bd.l11 at G
 refine Ak <| Bk 6 22 A8 fun B => ?_
 refine C5 rfl G (fun h37 G => ?_) fun h37 G => ?_
 refine Dd ?_
 refine Ak <| Ar <| Bv (Cj _ _ [54]) (by kernel_rfl) [0, 1, 0, 0, 0, 24, 60, 124, 255, 511, 1023] 22 110 B rfl rfl (by kernel_rfl) ?_
 refine A6 ?_
 refine zW Yk z9 ck9 ([(⟨#[98, 97, 99, 107, 117, 112]⟩ : ByteArray), (⟨#[100, 101, 101, 100]⟩ : ByteArray)] : List ByteArray) eS ?_
 obtain ⟨y_10, hy_10, G⟩ := Ac G
 refine K9 [0] [0] [] false (Uk _ _ _ hy_10) ?_
 obtain ⟨y_11, hy_11, G⟩ := Ac G
 refine K9 [0] [0] [] false (cB _ _ _ hy_11) ?_
 refine Ka yD z81 aEh ([y_11.1] : List Di) Di.enc ?_
 obtain ⟨l_5, hl_5, G⟩ := Ac G
 refine G4 (rd := [5, 78]) rfl rfl (Fb yD Di.enc_len .row rfl .row rfl hl_5 rfl) rfl rfl ?_
 refine Bq fun B => ?_
 refine An (Cj _ _ []) 110 134 B rfl rfl ?_
 refine Bq fun B => ?_
 obtain rfl := oi_ G
 exact ⟨((W (i_11 - 1), y_11.2, l_5), m11), Nat.lt_succ_self _, hn11, Bc [(0, 0), (1, 1), (2, 2), (3, 3), (4, 4), (5, 86)]⟩
 refine Ju ?_
 replace G := Cm G hn11
 refine Bk 22 38 B fun B => ?_
 refine F3 ?_
 obtain rfl := oi_ G
 exact Ht [(0, 0)] ⟨rfl, rfl⟩
theorem Hy (s : ByteArray) (r : Bool) (G : Bz s = some r) : Fn Tryz.prog 118 0 [ws s] [] (fun d' b' => d' = .val (.bool r) /\ b' = []) := by
 unfold Bz at G
 refine Fn.of Tryz.func118 rfl rfl rfl fun w0 I ρ0 => ?_
 show B4 _ ⟨w0, I, ρ0, 0, 0, 27⟩ _ _ _
 refine Bk 0 8 A8 fun B => ?_
 refine Ak <| B8 8 40 B ?_
 refine A6 ?_
 refine Cr rfl rfl (Z5 Vk fT Vz) rfl rfl ?_
 refine Bq fun B => ?_
 refine Ar <| J3 (fun (x8_1 : Int) => mk [(0, ws s), (6, .sl 1 (Aq e8 (Jc s))), (7, .val (.int .i64 ((Jc s).length : Int))), (8, vk x8_1)] [] 0) G (Bc []) ?_
 rintro x8_1 m1 o1 G hn1
 replace G : Bz.l1 s x8_1 = some o1 := G
 show B4 _ _ _ _ (mk _ _ _)
 unfold Bz.l1 at G
 refine Bk 0 8 A8 fun B => ?_
 refine Ak <| C5 rfl G (fun h4 G => ?_) fun h4 G => ?_
 refine Dd ?_
 refine Ak <| Ar <| B8 8 32 B ?_
 obtain ⟨e, he, G⟩ := Ac G
 refine A6 ?_
 refine Vw he ?_
 refine Bq fun B => ?_
 refine Bw (ι := Bool) (fun (x17_2 : Bool) => mk [(0, ws s), (6, .sl 1 (Aq e8 (Jc s))), (7, .val (.int .i64 ((Jc s).length : Int))), (8, vk x8_1), (17, .val (.bool x17_2))] [] 0) (fun (x17_2 : Bool) => Bz.j2 x8_1 x17_2 = some o1) ?_ ?_
 refine An (Cj _ _ []) 32 80 B rfl rfl ?_
 refine A6 ?_
 rcases Ef G with ⟨h6, G⟩ | ⟨h6, G⟩
 refine Bq fun B => ?_
 exact ⟨true, G, Bc []⟩
 refine Bq fun B => ?_
 exact ⟨decide (126 < (e.toNat : Int)), G, Bc []⟩
 rintro x17_2 G
 replace G : Bz.j2 x8_1 x17_2 = some o1 := G
 show B4 _ _ _ _ (mk _ _ _)
 unfold Bz.j2 at G
 refine C5 rfl G (fun h9 G => ?_) fun h9 G => ?_
 refine Bk 0 8 A8 fun B => ?_
 refine F3 ?_
 replace G := Cm G hn1
 exact bE
 refine Dd ?_
 refine An (Cj _ _ []) 0 16 A8 rfl rfl ?_
 refine Bq fun B => ?_
 obtain rfl := oi_ G
 exact ⟨(W (x8_1 + 1), m1), Nat.lt_succ_self _, hn1, Bc []⟩
 refine Ju ?_
 replace G := Cm G hn1
 refine B8 8 80 B ?_
 refine A6 ?_
 refine Cr rfl rfl (S6 Vk) rfl rfl ?_
 refine A6 ?_
 rcases Ef G with ⟨h12, G⟩ | ⟨h12, G⟩
 refine A6 ?_
 refine Cr (Fm rfl rfl h12) rfl (S6 Vk) rfl rfl ?_
 exact C6
 exact C6
theorem X3  (r : (List Bu)) (G : M8 = some r) : Fn Tryz.prog 202 0 [] [] (fun d' b' => d' = .agg [.val (.string ((r[0]!).name)), .val (.int .i64 ((r[0]!).kind)), .val (.int .i64 ((r[0]!).way)), .sl 1 (Aq eI ((r[0]!).sizes)), .sl 1 (Aq eI ((r[0]!).strengths)), .val (.string ((r[1]!).name)), .val (.int .i64 ((r[1]!).kind)), .val (.int .i64 ((r[1]!).way)), .sl 1 (Aq eI ((r[1]!).sizes)), .sl 1 (Aq eI ((r[1]!).strengths)), .val (.string ((r[2]!).name)), .val (.int .i64 ((r[2]!).kind)), .val (.int .i64 ((r[2]!).way)), .sl 1 (Aq eI ((r[2]!).sizes)), .sl 1 (Aq eI ((r[2]!).strengths)), .val (.string ((r[3]!).name)), .val (.int .i64 ((r[3]!).kind)), .val (.int .i64 ((r[3]!).way)), .sl 1 (Aq eI ((r[3]!).sizes)), .sl 1 (Aq eI ((r[3]!).strengths)), .val (.string ((r[4]!).name)), .val (.int .i64 ((r[4]!).kind)), .val (.int .i64 ((r[4]!).way)), .sl 1 (Aq eI ((r[4]!).sizes)), .sl 1 (Aq eI ((r[4]!).strengths)), .val (.string ((r[5]!).name)), .val (.int .i64 ((r[5]!).kind)), .val (.int .i64 ((r[5]!).way)), .sl 1 (Aq eI ((r[5]!).sizes)), .sl 1 (Aq eI ((r[5]!).strengths)), .val (.string ((r[6]!).name)), .val (.int .i64 ((r[6]!).kind)), .val (.int .i64 ((r[6]!).way)), .sl 1 (Aq eI ((r[6]!).sizes)), .sl 1 (Aq eI ((r[6]!).strengths)), .val (.string ((r[7]!).name)), .val (.int .i64 ((r[7]!).kind)), .val (.int .i64 ((r[7]!).way)), .sl 1 (Aq eI ((r[7]!).sizes)), .sl 1 (Aq eI ((r[7]!).strengths)), .val (.string ((r[8]!).name)), .val (.int .i64 ((r[8]!).kind)), .val (.int .i64 ((r[8]!).way)), .sl 1 (Aq eI ((r[8]!).sizes)), .sl 1 (Aq eI ((r[8]!).strengths)), .val (.string ((r[9]!).name)), .val (.int .i64 ((r[9]!).kind)), .val (.int .i64 ((r[9]!).way)), .sl 1 (Aq eI ((r[9]!).sizes)), .sl 1 (Aq eI ((r[9]!).strengths)), .val (.string ((r[10]!).name)), .val (.int .i64 ((r[10]!).kind)), .val (.int .i64 ((r[10]!).way)), .sl 1 (Aq eI ((r[10]!).sizes)), .sl 1 (Aq eI ((r[10]!).strengths)), .val (.string ((r[11]!).name)), .val (.int .i64 ((r[11]!).kind)), .val (.int .i64 ((r[11]!).way)), .sl 1 (Aq eI ((r[11]!).sizes)), .sl 1 (Aq eI ((r[11]!).strengths)), .val (.string ((r[12]!).name)), .val (.int .i64 ((r[12]!).kind)), .val (.int .i64 ((r[12]!).way)), .sl 1 (Aq eI ((r[12]!).sizes)), .sl 1 (Aq eI ((r[12]!).strengths)), .val (.string ((r[13]!).name)), .val (.int .i64 ((r[13]!).kind)), .val (.int .i64 ((r[13]!).way)), .sl 1 (Aq eI ((r[13]!).sizes)), .sl 1 (Aq eI ((r[13]!).strengths)), .val (.string ((r[14]!).name)), .val (.int .i64 ((r[14]!).kind)), .val (.int .i64 ((r[14]!).way)), .sl 1 (Aq eI ((r[14]!).sizes)), .sl 1 (Aq eI ((r[14]!).strengths)), .val (.string ((r[15]!).name)), .val (.int .i64 ((r[15]!).kind)), .val (.int .i64 ((r[15]!).way)), .sl 1 (Aq eI ((r[15]!).sizes)), .sl 1 (Aq eI ((r[15]!).strengths)), .val (.string ((r[16]!).name)), .val (.int .i64 ((r[16]!).kind)), .val (.int .i64 ((r[16]!).way)), .sl 1 (Aq eI ((r[16]!).sizes)), .sl 1 (Aq eI ((r[16]!).strengths)), .val (.string ((r[17]!).name)), .val (.int .i64 ((r[17]!).kind)), .val (.int .i64 ((r[17]!).way)), .sl 1 (Aq eI ((r[17]!).sizes)), .sl 1 (Aq eI ((r[17]!).strengths)), .val (.string ((r[18]!).name)), .val (.int .i64 ((r[18]!).kind)), .val (.int .i64 ((r[18]!).way)), .sl 1 (Aq eI ((r[18]!).sizes)), .sl 1 (Aq eI ((r[18]!).strengths)), .val (.string ((r[19]!).name)), .val (.int .i64 ((r[19]!).kind)), .val (.int .i64 ((r[19]!).way)), .sl 1 (Aq eI ((r[19]!).sizes)), .sl 1 (Aq eI ((r[19]!).strengths)), .val (.string ((r[20]!).name)), .val (.int .i64 ((r[20]!).kind)), .val (.int .i64 ((r[20]!).way)), .sl 1 (Aq eI ((r[20]!).sizes)), .sl 1 (Aq eI ((r[20]!).strengths)), .val (.string ((r[21]!).name)), .val (.int .i64 ((r[21]!).kind)), .val (.int .i64 ((r[21]!).way)), .sl 1 (Aq eI ((r[21]!).sizes)), .sl 1 (Aq eI ((r[21]!).strengths)), .val (.string ((r[22]!).name)), .val (.int .i64 ((r[22]!).kind)), .val (.int .i64 ((r[22]!).way)), .sl 1 (Aq eI ((r[22]!).sizes)), .sl 1 (Aq eI ((r[22]!).strengths))] /\ b' = []) := by
 unfold M8 at G
 refine Fn.of Tryz.func202 rfl rfl rfl fun w0 I ρ0 => ?_
 show B4 _ ⟨w0, I, ρ0, 0, 0, 46⟩ _ _ _
 refine Bk 0 8 A8 fun B => ?_
 refine B8 8 376 B ?_
 refine Ka G6 z3 Mi ([18] : List Int) eI ?_
 refine Cr rfl rfl (.build (r := [.val (.string (⟨#[109, 100, 53]⟩ : ByteArray)), .val (.int .i64 1), .val (.int .i64 0), .val (.slice none 0 0), .row 8]) Fu Jl L8 (by kernel_rfl) rfl) rfl rfl ?_
 refine Ka G6 z3 Mi ([60] : List Int) eI ?_
 refine Cr rfl rfl (.build (r := [.val (.string (⟨#[115, 104, 97, 49]⟩ : ByteArray)), .val (.int .i64 1), .val (.int .i64 0), .val (.slice none 0 0), .row 24]) Fu Jl L8 (by kernel_rfl) rfl) rfl rfl ?_
 refine Ka G6 z3 Mi ([128] : List Int) eI ?_
 refine Cr rfl rfl (.build (r := [.val (.string (⟨#[115, 104, 97, 50, 53, 54]⟩ : ByteArray)), .val (.int .i64 1), .val (.int .i64 0), .val (.slice none 0 0), .row 40]) Fu Jl L8 (by kernel_rfl) rfl) rfl rfl ?_
 refine Ka G6 z3 Mi ([192] : List Int) eI ?_
 refine Cr rfl rfl (.build (r := [.val (.string (⟨#[115, 104, 97, 51, 56, 52]⟩ : ByteArray)), .val (.int .i64 1), .val (.int .i64 0), .val (.slice none 0 0), .row 56]) Fu Jl L8 (by kernel_rfl) rfl) rfl rfl ?_
 refine Cr rfl rfl (.build (r := [.val (.string (⟨#[114, 115, 97]⟩ : ByteArray)), .val (.int .i64 2), .val (.int .i64 1), .val (.slice none 0 0), .val (.slice none 0 0)]) Fu Jl L8 (by kernel_rfl) rfl) rfl rfl ?_
 refine Cr rfl rfl (.build (r := [.val (.string (⟨#[100, 115, 97]⟩ : ByteArray)), .val (.int .i64 2), .val (.int .i64 1), .val (.slice none 0 0), .val (.slice none 0 0)]) Fu Jl L8 (by kernel_rfl) rfl) rfl rfl ?_
 refine Cr rfl rfl (.build (r := [.val (.string (⟨#[101, 99, 100, 115, 97]⟩ : ByteArray)), .val (.int .i64 2), .val (.int .i64 2), .val (.slice none 0 0), .val (.slice none 0 0)]) Fu Jl L8 (by kernel_rfl) rfl) rfl rfl ?_
 refine Ka G6 z3 Mi ([128] : List Int) eI ?_
 refine Cr rfl rfl (.build (r := [.val (.string (⟨#[101, 100, 50, 53, 53, 49, 57]⟩ : ByteArray)), .val (.int .i64 2), .val (.int .i64 0), .val (.slice none 0 0), .row 96]) Fu Jl L8 (by kernel_rfl) rfl) rfl rfl ?_
 refine Ka G6 z3 Mi ([44, 65, 87] : List Int) eI ?_
 refine Ka G6 z3 Mi ([128, 192, 256] : List Int) eI ?_
 refine Cr rfl rfl (.build (r := [.val (.string (⟨#[109, 108, 100, 115, 97]⟩ : ByteArray)), .val (.int .i64 2), .val (.int .i64 3), .row 112, .row 120]) Fu Jl L8 (by kernel_rfl) rfl) rfl rfl ?_
 refine Cr rfl rfl (.build (r := [.val (.string (⟨#[114, 115, 97, 107, 120]⟩ : ByteArray)), .val (.int .i64 3), .val (.int .i64 1), .val (.slice none 0 0), .val (.slice none 0 0)]) Fu Jl L8 (by kernel_rfl) rfl) rfl rfl ?_
 refine Cr rfl rfl (.build (r := [.val (.string (⟨#[100, 104, 101]⟩ : ByteArray)), .val (.int .i64 3), .val (.int .i64 1), .val (.slice none 0 0), .val (.slice none 0 0)]) Fu Jl L8 (by kernel_rfl) rfl) rfl rfl ?_
 refine Cr rfl rfl (.build (r := [.val (.string (⟨#[101, 99, 100, 104, 101]⟩ : ByteArray)), .val (.int .i64 3), .val (.int .i64 2), .val (.slice none 0 0), .val (.slice none 0 0)]) Fu Jl L8 (by kernel_rfl) rfl) rfl rfl ?_
 refine Ka G6 z3 Mi ([512, 768, 1024] : List Int) eI ?_
 refine Ka G6 z3 Mi ([128, 192, 256] : List Int) eI ?_
 refine Cr rfl rfl (.build (r := [.val (.string (⟨#[109, 108, 107, 101, 109]⟩ : ByteArray)), .val (.int .i64 3), .val (.int .i64 3), .row 160, .row 168]) Fu Jl L8 (by kernel_rfl) rfl) rfl rfl ?_
 refine Ka G6 z3 Mi ([40, 128] : List Int) eI ?_
 refine Ka G6 z3 Mi ([40, 60] : List Int) eI ?_
 refine Cr rfl rfl (.build (r := [.val (.string (⟨#[114, 99, 52]⟩ : ByteArray)), .val (.int .i64 4), .val (.int .i64 3), .row 184, .row 192]) Fu Jl L8 (by kernel_rfl) rfl) rfl rfl ?_
 refine Ka G6 z3 Mi ([112, 168] : List Int) eI ?_
 refine Ka G6 z3 Mi ([80, 112] : List Int) eI ?_
 refine Cr rfl rfl (.build (r := [.val (.string (⟨#[100, 101, 115, 51]⟩ : ByteArray)), .val (.int .i64 4), .val (.int .i64 3), .row 208, .row 216]) Fu Jl L8 (by kernel_rfl) rfl) rfl rfl ?_
 refine Ka G6 z3 Mi ([128, 256] : List Int) eI ?_
 refine Ka G6 z3 Mi ([128, 256] : List Int) eI ?_
 refine Cr rfl rfl (.build (r := [.val (.string (⟨#[97, 101, 115, 99, 98, 99]⟩ : ByteArray)), .val (.int .i64 4), .val (.int .i64 3), .row 232, .row 240]) Fu Jl L8 (by kernel_rfl) rfl) rfl rfl ?_
 refine Ka G6 z3 Mi ([128, 256] : List Int) eI ?_
 refine Ka G6 z3 Mi ([128, 256] : List Int) eI ?_
 refine Cr rfl rfl (.build (r := [.val (.string (⟨#[97, 101, 115, 103, 99, 109]⟩ : ByteArray)), .val (.int .i64 4), .val (.int .i64 3), .row 256, .row 264]) Fu Jl L8 (by kernel_rfl) rfl) rfl rfl ?_
 refine Ka G6 z3 Mi ([256] : List Int) eI ?_
 refine Cr rfl rfl (.build (r := [.val (.string (⟨#[99, 104, 97, 99, 104, 97]⟩ : ByteArray)), .val (.int .i64 4), .val (.int .i64 0), .val (.slice none 0 0), .row 280]) Fu Jl L8 (by kernel_rfl) rfl) rfl rfl ?_
 refine Ka G6 z3 Mi ([64] : List Int) eI ?_
 refine Cr rfl rfl (.build (r := [.val (.string (⟨#[104, 109, 97, 99, 109, 100, 53]⟩ : ByteArray)), .val (.int .i64 5), .val (.int .i64 0), .val (.slice none 0 0), .row 296]) Fu Jl L8 (by kernel_rfl) rfl) rfl rfl ?_
 refine Ka G6 z3 Mi ([80] : List Int) eI ?_
 refine Cr rfl rfl (.build (r := [.val (.string (⟨#[104, 109, 97, 99, 115, 104, 97, 49]⟩ : ByteArray)), .val (.int .i64 5), .val (.int .i64 0), .val (.slice none 0 0), .row 312]) Fu Jl L8 (by kernel_rfl) rfl) rfl rfl ?_
 refine Ka G6 z3 Mi ([128] : List Int) eI ?_
 refine Cr rfl rfl (.build (r := [.val (.string (⟨#[104, 109, 97, 99, 115, 104, 97, 50, 53, 54]⟩ : ByteArray)), .val (.int .i64 5), .val (.int .i64 0), .val (.slice none 0 0), .row 328]) Fu Jl L8 (by kernel_rfl) rfl) rfl rfl ?_
 refine Ka G6 z3 Mi ([256] : List Int) eI ?_
 refine Cr rfl rfl (.build (r := [.val (.string (⟨#[97, 101, 97, 100]⟩ : ByteArray)), .val (.int .i64 5), .val (.int .i64 0), .val (.slice none 0 0), .row 344]) Fu Jl L8 (by kernel_rfl) rfl) rfl rfl ?_
 refine Cr rfl rfl (.buildArr (sz := 5) (r := [.val (.string (⟨#[]⟩ : ByteArray)), .val (.int .i64 0), .val (.int .i64 0), .val (.slice none 0 0), .val (.slice none 0 0), .val (.string (⟨#[109, 100, 53]⟩ : ByteArray)), .val (.int .i64 1), .val (.int .i64 0), .val (.slice none 0 0), .row 8, .val (.string (⟨#[115, 104, 97, 49]⟩ : ByteArray)), .val (.int .i64 1), .val (.int .i64 0), .val (.slice none 0 0), .row 24, .val (.string (⟨#[115, 104, 97, 50, 53, 54]⟩ : ByteArray)), .val (.int .i64 1), .val (.int .i64 0), .val (.slice none 0 0), .row 40, .val (.string (⟨#[115, 104, 97, 51, 56, 52]⟩ : ByteArray)), .val (.int .i64 1), .val (.int .i64 0), .val (.slice none 0 0), .row 56, .val (.string (⟨#[114, 115, 97]⟩ : ByteArray)), .val (.int .i64 2), .val (.int .i64 1), .val (.slice none 0 0), .val (.slice none 0 0), .val (.string (⟨#[100, 115, 97]⟩ : ByteArray)), .val (.int .i64 2), .val (.int .i64 1), .val (.slice none 0 0), .val (.slice none 0 0), .val (.string (⟨#[101, 99, 100, 115, 97]⟩ : ByteArray)), .val (.int .i64 2), .val (.int .i64 2), .val (.slice none 0 0), .val (.slice none 0 0), .val (.string (⟨#[101, 100, 50, 53, 53, 49, 57]⟩ : ByteArray)), .val (.int .i64 2), .val (.int .i64 0), .val (.slice none 0 0), .row 96, .val (.string (⟨#[109, 108, 100, 115, 97]⟩ : ByteArray)), .val (.int .i64 2), .val (.int .i64 3), .row 112, .row 120, .val (.string (⟨#[114, 115, 97, 107, 120]⟩ : ByteArray)), .val (.int .i64 3), .val (.int .i64 1), .val (.slice none 0 0), .val (.slice none 0 0), .val (.string (⟨#[100, 104, 101]⟩ : ByteArray)), .val (.int .i64 3), .val (.int .i64 1), .val (.slice none 0 0), .val (.slice none 0 0), .val (.string (⟨#[101, 99, 100, 104, 101]⟩ : ByteArray)), .val (.int .i64 3), .val (.int .i64 2), .val (.slice none 0 0), .val (.slice none 0 0), .val (.string (⟨#[109, 108, 107, 101, 109]⟩ : ByteArray)), .val (.int .i64 3), .val (.int .i64 3), .row 160, .row 168, .val (.string (⟨#[114, 99, 52]⟩ : ByteArray)), .val (.int .i64 4), .val (.int .i64 3), .row 184, .row 192, .val (.string (⟨#[100, 101, 115, 51]⟩ : ByteArray)), .val (.int .i64 4), .val (.int .i64 3), .row 208, .row 216, .val (.string (⟨#[97, 101, 115, 99, 98, 99]⟩ : ByteArray)), .val (.int .i64 4), .val (.int .i64 3), .row 232, .row 240, .val (.string (⟨#[97, 101, 115, 103, 99, 109]⟩ : ByteArray)), .val (.int .i64 4), .val (.int .i64 3), .row 256, .row 264, .val (.string (⟨#[99, 104, 97, 99, 104, 97]⟩ : ByteArray)), .val (.int .i64 4), .val (.int .i64 0), .val (.slice none 0 0), .row 280, .val (.string (⟨#[104, 109, 97, 99, 109, 100, 53]⟩ : ByteArray)), .val (.int .i64 5), .val (.int .i64 0), .val (.slice none 0 0), .row 296, .val (.string (⟨#[104, 109, 97, 99, 115, 104, 97, 49]⟩ : ByteArray)), .val (.int .i64 5), .val (.int .i64 0), .val (.slice none 0 0), .row 312, .val (.string (⟨#[104, 109, 97, 99, 115, 104, 97, 50, 53, 54]⟩ : ByteArray)), .val (.int .i64 5), .val (.int .i64 0), .val (.slice none 0 0), .row 328, .val (.string (⟨#[97, 101, 97, 100]⟩ : ByteArray)), .val (.int .i64 5), .val (.int .i64 0), .val (.slice none 0 0), .row 344]) mS (by kernel_rfl) aCm (by kernel_rfl) rfl) rfl rfl ?_
 exact C6
end Go.Proofs.YtkoflhimdenjaaaGreat
