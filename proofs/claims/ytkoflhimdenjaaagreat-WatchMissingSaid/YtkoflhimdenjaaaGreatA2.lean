import Derived.Test.YtkoflhimdenjaaaGreatT1
import Derived.Test.YtkoflhimdenjaaaGreatA1
set_option linter.unusedVariables false
set_option linter.unusedSimpArgs false
set_option maxRecDepth 100000
set_option maxHeartbeats 1600000
namespace Go.Proofs.YtkoflhimdenjaaaGreat
open Go.RowKit
theorem T7 (u : Aw) (r : Bool) (G : H5 u = some r) : Fn Tryz.prog 120 0 [.agg [vk u.Alg, vk u.Bits]] [] (fun d' b' => d' = .val (.bool r) /\ b' = []) := by
 unfold H5 at G
 refine Fn.of Tryz.func120 rfl rfl rfl fun w0 I ρ0 => ?_
 show B4 _ ⟨w0, I, ρ0, 0, 0, 11⟩ _ _ _
 refine Bk 0 16 A8 fun B => ?_
 refine B8 16 88 B ?_
 refine A6 ?_
 obtain ⟨y, hy, G⟩ := Ac G
 refine Dz (Sh _ _ hy) ?_
 refine A6 ?_
 rcases Ef G with ⟨h2, G⟩ | ⟨h2, G⟩
 refine A6 ?_
 obtain ⟨y_2, hy_2, G⟩ := Ac G
 refine Dz (Tw _ _ hy_2) ?_
 exact C6
 exact C6
theorem Sk (c : Ai) (r : Int) (G : A1 c = some r) : Fn Tryz.prog 88 0 [.agg (Ai.dv c)] [] (fun d' b' => d' = vk r /\ b' = []) := by
 unfold A1 at G
 refine Fn.of Tryz.func88 rfl rfl rfl fun w0 I ρ0 => ?_
 show B4 _ ⟨w0, I, ρ0, 0, 0, 146⟩ _ _ _
 refine Bk 0 16 A8 fun B => ?_
 refine Ak <| Bw (ι := Bool) (fun (x39_1 : Bool) => mk [(1, .ptr 0 0), (39, .val (.bool x39_1))] [(0, .box (Ai.dv c) 111)] 1) (fun (x39_1 : Bool) => A1.j1 c x39_1 = some r) ?_ ?_
 refine An (Cj _ _ []) 16 304 B rfl rfl ?_
 refine A6 ?_
 rcases Ef G with ⟨h2, G⟩ | ⟨h2, G⟩
 refine Bq fun B => ?_
 exact ⟨true, G, Bc [(0, 0)]⟩
 refine A6 ?_
 rcases Ef G with ⟨h4, G⟩ | ⟨h4, G⟩
 refine Bq fun B => ?_
 exact ⟨true, G, Bc [(0, 0)]⟩
 refine A6 ?_
 obtain ⟨y, hy, G⟩ := Ac G
 refine Dz (Pv _ _ hy) ?_
 refine A6 ?_
 rcases Ef G with ⟨h6, G⟩ | ⟨h6, G⟩
 refine Bq fun B => ?_
 exact ⟨true, G, Bc [(0, 0)]⟩
 refine A6 ?_
 obtain ⟨y_2, hy_2, G⟩ := Ac G
 refine Dz (Pv _ _ hy_2) ?_
 refine A6 ?_
 rcases Ef G with ⟨h8, G⟩ | ⟨h8, G⟩
 refine Bq fun B => ?_
 exact ⟨true, G, Bc [(0, 0)]⟩
 refine A6 ?_
 obtain ⟨y_3, hy_3, G⟩ := Ac G
 refine Dz (T7 _ _ hy_3) ?_
 refine A6 ?_
 rcases Ef G with ⟨h10, G⟩ | ⟨h10, G⟩
 refine Bq fun B => ?_
 exact ⟨true, G, Bc [(0, 0)]⟩
 refine A6 ?_
 rcases Ef G with ⟨h12, G⟩ | ⟨h12, G⟩
 refine Bq fun B => ?_
 exact ⟨true, G, Bc [(0, 0)]⟩
 refine Bq fun B => ?_
 exact ⟨decide (2147483648 < c.KeyId), G, Bc [(0, 0)]⟩
 rintro x39_1 G
 replace G : A1.j1 c x39_1 = some r := G
 show B4 _ _ _ _ (mk _ _ _)
 unfold A1.j1 at G
 refine C5 rfl G (fun h15 G => ?_) fun h15 G => ?_
 refine B8 1 9 A8 ?_
 exact C6
 refine Dd ?_
 refine Ak <| Bw (ι := Bool) (fun (x67_2 : Bool) => mk [(1, .ptr 0 0), (67, .val (.bool x67_2))] [(0, .box (Ai.dv c) 111)] 1) (fun (x67_2 : Bool) => A1.j2 c x67_2 = some r) ?_ ?_
 refine An (Cj _ _ []) 1 225 A8 rfl rfl ?_
 refine A6 ?_
 obtain ⟨y_4, hy_4, G⟩ := Ac G
 refine Dz (Sh _ _ hy_4) ?_
 refine A6 ?_
 rcases Ef G with ⟨h17, G⟩ | ⟨h17, G⟩
 refine Bq fun B => ?_
 exact ⟨true, G, Bc [(0, 0)]⟩
 refine A6 ?_
 obtain ⟨y_5, hy_5, G⟩ := Ac G
 refine Dz (Tw _ _ hy_5) ?_
 refine A6 ?_
 rcases Ef G with ⟨h19, G⟩ | ⟨h19, G⟩
 refine Bq fun B => ?_
 exact ⟨true, G, Bc [(0, 0)]⟩
 refine A6 ?_
 rcases Ef G with ⟨h21, G⟩ | ⟨h21, G⟩
 refine Bq fun B => ?_
 exact ⟨true, G, Bc [(0, 0)]⟩
 refine A6 ?_
 rcases Ef G with ⟨h23, G⟩ | ⟨h23, G⟩
 refine Bq fun B => ?_
 exact ⟨true, G, Bc [(0, 0)]⟩
 refine Bq fun B => ?_
 exact ⟨decide (40000 < c.To), G, Bc [(0, 0)]⟩
 rintro x67_2 G
 replace G : A1.j2 c x67_2 = some r := G
 show B4 _ _ _ _ (mk _ _ _)
 unfold A1.j2 at G
 refine C5 rfl G (fun h26 G => ?_) fun h26 G => ?_
 refine B8 1 9 A8 ?_
 exact C6
 refine Dd ?_
 refine Ak <| Bw (ι := Bool) (fun (x91_3 : Bool) => mk [(1, .ptr 0 0), (91, .val (.bool x91_3))] [(0, .box (Ai.dv c) 111)] 1) (fun (x91_3 : Bool) => A1.j3 c x91_3 = some r) ?_ ?_
 refine An (Cj _ _ []) 1 193 A8 rfl rfl ?_
 refine A6 ?_
 rcases Ef G with ⟨h28, G⟩ | ⟨h28, G⟩
 refine Bq fun B => ?_
 exact ⟨true, G, Bc [(0, 0)]⟩
 refine A6 ?_
 rcases Ef G with ⟨h30, G⟩ | ⟨h30, G⟩
 refine Bq fun B => ?_
 exact ⟨true, G, Bc [(0, 0)]⟩
 refine A6 ?_
 rcases Ef G with ⟨h32, G⟩ | ⟨h32, G⟩
 refine A6 ?_
 rcases Ef G with ⟨h33, G⟩ | ⟨h33, G⟩
 refine Bq fun B => ?_
 exact ⟨true, G, Bc [(0, 0)]⟩
 refine Bq fun B => ?_
 exact ⟨decide (8 < (c.Names.length : Int)), G, Bc [(0, 0)]⟩
 refine Bq fun B => ?_
 exact ⟨decide (8 < (c.Names.length : Int)), G, Bc [(0, 0)]⟩
 rintro x91_3 G
 replace G : A1.j3 c x91_3 = some r := G
 show B4 _ _ _ _ (mk _ _ _)
 unfold A1.j3 at G
 refine C5 rfl G (fun h37 G => ?_) fun h37 G => ?_
 refine B8 1 9 A8 ?_
 exact C6
 refine Dd ?_
 refine Ak <| Bk 1 9 A8 fun B => ?_
 refine Ar <| J3 (fun (i_4 : Int) => mk [(1, .ptr 0 0), (3, vk i_4)] [(0, .box (Ai.dv c) 111)] 1) G (Bc [(0, 0)]) ?_
 rintro i_4 m4 o4 G hn4
 replace G : A1.l4 c i_4 = some o4 := G
 show B4 _ _ _ _ (mk _ _ _)
 unfold A1.l4 at G
 refine Ak <| Bk 1 41 A8 fun B => ?_
 refine C5 rfl G (fun h41 G => ?_) fun h41 G => ?_
 refine Dd ?_
 refine Ak <| Ar <| Bw (ι := Bool) (fun (x123_5 : Bool) => mk [(1, .ptr 0 0), (3, vk i_4), (123, .val (.bool x123_5))] [(0, .box (Ai.dv c) 111)] 1) (fun (x123_5 : Bool) => A1.j5 i_4 x123_5 = some o4) ?_ ?_
 refine Bv (Cj _ _ []) (by kernel_rfl) [0, 1, 0, 7, 15, 31, 63, 127, 255, 511, 1023, 2047, 4095, 2047, 10239, 32767, 65535, 2047, 133119, 2047, 919551, 1968127, 4194303, 8388607, 16777215] 41 241 B rfl rfl (by kernel_rfl) ?_
 refine A6 ?_
 obtain ⟨e, he, G⟩ := Ac G
 refine A6 ?_
 refine Vw he ?_
 obtain ⟨y_6, hy_6, G⟩ := Ac G
 refine Dz (Pv _ _ hy_6) ?_
 refine A6 ?_
 rcases Ef G with ⟨h42, G⟩ | ⟨h42, G⟩
 refine Bq fun B => ?_
 exact ⟨true, G, Bc [(0, 0)]⟩
 refine A6 ?_
 rcases Ef G with ⟨h44, G⟩ | ⟨h44, G⟩
 refine A6 ?_
 obtain ⟨e_2, he_2, G⟩ := Ac G
 refine A6 ?_
 refine Vw he_2 ?_
 refine A6 ?_
 refine Vw he ?_
 refine Cr (Fm rfl rfl h44) rfl nT rfl rfl ?_
 refine Bq fun B => ?_
 exact ⟨!Lu (Jc e_2) (Jc e), G, Bc [(0, 0)]⟩
 refine Bq fun B => ?_
 exact ⟨false, G, Bc [(0, 0)]⟩
 rintro x123_5 G
 replace G : A1.j5 i_4 x123_5 = some o4 := G
 show B4 _ _ _ _ (mk _ _ _)
 unfold A1.j5 at G
 refine C5 rfl G (fun h47 G => ?_) fun h47 G => ?_
 refine Bk 1 9 A8 fun B => ?_
 refine F3 ?_
 replace G := Cm G hn4
 exact bE
 refine Dd ?_
 refine An (Cj _ _ []) 1 25 A8 rfl rfl ?_
 refine Bq fun B => ?_
 obtain rfl := oi_ G
 exact ⟨(W (i_4 + 1), m4), Nat.lt_succ_self _, hn4, Bc [(0, 0)]⟩
 refine Ju ?_
 replace G := Cm G hn4
 refine Ak <| Bw (ι := Bool) (fun (x145_6 : Bool) => mk [(145, .val (.bool x145_6))] [] 0) (fun (x145_6 : Bool) => A1.j6 x145_6 = some r) ?_ ?_
 refine An (Cj _ _ []) 41 217 B rfl rfl ?_
 refine A6 ?_
 rcases Ef G with ⟨h50, G⟩ | ⟨h50, G⟩
 refine Bq fun B => ?_
 exact ⟨true, G, Bc []⟩
 refine A6 ?_
 rcases Ef G with ⟨h52, G⟩ | ⟨h52, G⟩
 refine Bq fun B => ?_
 exact ⟨true, G, Bc []⟩
 refine A6 ?_
 rcases Ef G with ⟨h54, G⟩ | ⟨h54, G⟩
 refine Bq fun B => ?_
 exact ⟨true, G, Bc []⟩
 refine Bq fun B => ?_
 exact ⟨decide (4294967296 <= c.Seal.Sum), G, Bc []⟩
 rintro x145_6 G
 replace G : A1.j6 x145_6 = some r := G
 show B4 _ _ _ _ (mk _ _ _)
 unfold A1.j6 at G
 refine C5 rfl G (fun h57 G => ?_) fun h57 G => ?_
 refine B8 0 8 A8 ?_
 exact C6
 refine Dd ?_
 refine Bk 0 8 A8 fun B => ?_
 exact Lz
theorem Pj (s : ByteArray) (r : Ae) (G : Iq s = some r) : Fn Tryz.prog 165 0 [ws s] [] (fun d' b' => d' = .agg (Ae.dv r) /\ b' = []) := by
 unfold Iq at G
 refine Fn.of Tryz.func165 rfl rfl rfl fun w0 I ρ0 => ?_
 show B4 _ ⟨w0, I, ρ0, 0, 0, 6⟩ _ _ _
 refine Bk 0 8 A8 fun B => ?_
 refine B8 8 40 B ?_
 refine A6 ?_
 refine Cr rfl rfl (Z5 Vk fT Vz) rfl rfl ?_
 refine Ro Pg dL Yu ?_
 exact C6
theorem Jf (n : Int) (r : Ae) (G : B5 n = some r) : Fn Tryz.prog 167 0 [vk n] [] (fun d' b' => d' = .agg (Ae.dv r) /\ b' = []) := by
 unfold B5 at G
 refine Fn.of Tryz.func167 rfl rfl rfl fun w0 I ρ0 => ?_
 show B4 _ ⟨w0, I, ρ0, 0, 0, 45⟩ _ _ _
 refine Bk 0 8 A8 fun B => ?_
 refine B8 8 40 B ?_
 refine A6 ?_
 refine Cr rfl rfl (K1 V0 Vz) rfl rfl ?_
 refine Ka Kk z5 qP ([(u8 n)] : List UInt8) e8 ?_
 refine Bq fun B => ?_
 refine Ak <| B8 40 64 B ?_
 refine A6 ?_
 obtain ⟨q, hq, G⟩ := Ac G
 refine Cr rfl rfl (Sn hq) rfl rfl ?_
 refine Bq fun B => ?_
 refine Ar <| J3 (fun ((x_1, b_1) : Int × List UInt8) => mk [(2, .ptr 0 0), (3, .row 1), (4, vk x_1)] [(0, .box [.val (.int .i64 0), .val (.slice none 0 0), .val (.bool false), .val (.slice none 0 0)] 170), (1, .row 5 1 (Aq e8 b_1))] 2) G (Bc [(0, 0), (1, 24)]) ?_
 rintro ⟨x_1, b_1⟩ m1 o1 G hn1
 replace G : B5.l1 x_1 b_1 = some o1 := G
 show B4 _ _ _ _ (mk _ _ _)
 unfold B5.l1 at G
 refine Ak <| Bw (ι := Bool) (fun (x35_2 : Bool) => mk [(2, .ptr 0 0), (3, .row 1), (4, vk x_1), (35, .val (.bool x35_2))] [(0, .box [.val (.int .i64 0), .val (.slice none 0 0), .val (.bool false), .val (.slice none 0 0)] 170), (1, .row 5 1 (Aq e8 b_1))] 2) (fun (x35_2 : Bool) => B5.j2 x_1 b_1 x35_2 = some o1) ?_ ?_
 refine An (Cj _ _ []) 2 210 A8 rfl rfl ?_
 refine A6 ?_
 rcases Ef G with ⟨h4, G⟩ | ⟨h4, G⟩
 refine A6 ?_
 rcases Ef G with ⟨h5, G⟩ | ⟨h5, G⟩
 refine Bq fun B => ?_
 exact ⟨true, G, Bc [(0, 0), (1, 1)]⟩
 refine A6 ?_
 rcases Ef G with ⟨h7, G⟩ | ⟨h7, G⟩
 refine A6 ?_
 obtain ⟨e, he, G⟩ := Ac G
 refine A6 ?_
 refine G4 (rd := [1]) (Fm rfl rfl h7) rfl (.loadR1 ty5 (Is Jx (Cq he) (o := 0) (c := .int .u8 (e.toNat : Int)) rfl rfl)) rfl rfl ?_
 refine A6 ?_
 rcases Ef G with ⟨h8, G⟩ | ⟨h8, G⟩
 refine Bq fun B => ?_
 exact ⟨true, G, Bc [(0, 0), (1, 1)]⟩
 refine A6 ?_
 rcases Ef G with ⟨h10, G⟩ | ⟨h10, G⟩
 refine A6 ?_
 refine G4 (rd := [1]) (Fm rfl rfl h10) rfl (.loadR1 ty5 (Is Jx (Cq he) (o := 0) (c := .int .u8 (e.toNat : Int)) rfl rfl)) rfl rfl ?_
 refine Bq fun B => ?_
 exact ⟨decide ((e.toNat : Int) < 128), G, Bc [(0, 0), (1, 1)]⟩
 refine Bq fun B => ?_
 exact ⟨false, G, Bc [(0, 0), (1, 1)]⟩
 refine A6 ?_
 rcases Ef G with ⟨h13, G⟩ | ⟨h13, G⟩
 refine A6 ?_
 obtain ⟨e_2, he_2, G⟩ := Ac G
 refine A6 ?_
 refine G4 (rd := [1]) (Fm rfl rfl h13) rfl (.loadR1 ty5 (Is Jx (Cq he_2) (o := 0) (c := .int .u8 (e_2.toNat : Int)) rfl rfl)) rfl rfl ?_
 refine Bq fun B => ?_
 exact ⟨decide ((e_2.toNat : Int) < 128), G, Bc [(0, 0), (1, 1)]⟩
 refine Bq fun B => ?_
 exact ⟨false, G, Bc [(0, 0), (1, 1)]⟩
 refine A6 ?_
 rcases Ef G with ⟨h16, G⟩ | ⟨h16, G⟩
 refine A6 ?_
 obtain ⟨e_3, he_3, G⟩ := Ac G
 refine A6 ?_
 refine G4 (rd := [1]) (Fm rfl rfl h16) rfl (.loadR1 ty5 (Is Jx (Cq he_3) (o := 0) (c := .int .u8 (e_3.toNat : Int)) rfl rfl)) rfl rfl ?_
 refine A6 ?_
 rcases Ef G with ⟨h17, G⟩ | ⟨h17, G⟩
 refine Bq fun B => ?_
 exact ⟨true, G, Bc [(0, 0), (1, 1)]⟩
 refine A6 ?_
 rcases Ef G with ⟨h19, G⟩ | ⟨h19, G⟩
 refine A6 ?_
 refine G4 (rd := [1]) (Fm rfl rfl h19) rfl (.loadR1 ty5 (Is Jx (Cq he_3) (o := 0) (c := .int .u8 (e_3.toNat : Int)) rfl rfl)) rfl rfl ?_
 refine Bq fun B => ?_
 exact ⟨decide ((e_3.toNat : Int) < 128), G, Bc [(0, 0), (1, 1)]⟩
 refine Bq fun B => ?_
 exact ⟨false, G, Bc [(0, 0), (1, 1)]⟩
 refine A6 ?_
 rcases Ef G with ⟨h22, G⟩ | ⟨h22, G⟩
 refine A6 ?_
 obtain ⟨e_4, he_4, G⟩ := Ac G
 refine A6 ?_
 refine G4 (rd := [1]) (Fm rfl rfl h22) rfl (.loadR1 ty5 (Is Jx (Cq he_4) (o := 0) (c := .int .u8 (e_4.toNat : Int)) rfl rfl)) rfl rfl ?_
 refine Bq fun B => ?_
 exact ⟨decide ((e_4.toNat : Int) < 128), G, Bc [(0, 0), (1, 1)]⟩
 refine Bq fun B => ?_
 exact ⟨false, G, Bc [(0, 0), (1, 1)]⟩
 rintro x35_2 G
 replace G : B5.j2 x_1 b_1 x35_2 = some o1 := G
 show B4 _ _ _ _ (mk _ _ _)
 unfold B5.j2 at G
 refine C5 rfl G (fun h25 G => ?_) fun h25 G => ?_
 refine Dd ?_
 refine Ak <| Ar <| An (Cj _ _ []) 2 50 A8 rfl rfl ?_
 refine A6 ?_
 refine Cr rfl rfl (K1 V0 Vz) rfl rfl ?_
 refine Ka Kk z5 qP ([(u8 x_1)] : List UInt8) e8 ?_
 refine A6 ?_
 obtain ⟨l, hl, G⟩ := Ac G
 refine G4 (rd := [18, 1]) rfl rfl (Fb Kk Jx .row rfl .row rfl hl rfl) rfl rfl ?_
 refine Bq fun B => ?_
 refine An (Cj _ _ []) 50 74 B rfl rfl ?_
 refine A6 ?_
 obtain ⟨q_2, hq_2, G⟩ := Ac G
 refine Cr rfl rfl (Sn hq_2) rfl rfl ?_
 refine Bq fun B => ?_
 obtain rfl := oi_ G
 exact ⟨((q_2, l), m1), Nat.lt_succ_self _, hn1, Bc [(0, 0), (1, 34)]⟩
 refine Ju ?_
 replace G := Cm G hn1
 refine B8 2 26 A8 ?_
 refine A6 ?_
 refine Ro Pg dL Yu ?_
 exact C6
theorem Na.F (rec : (List Ae) -> Option ((List Ae))) (hrec : ∀ (l : (List Ae)) (r : (List Ae)), rec l = some r -> Fn Tryz.prog 198 0 [.sl 4 (Aq Ae.enc l)] [] (fun d' b' => d' = .sl 4 (Aq Ae.enc r) /\ b' = [])) (l : (List Ae)) (r : (List Ae)) (G : Ca.F rec l = some r) : Fn Tryz.prog 198 0 [.sl 4 (Aq Ae.enc l)] [] (fun d' b' => d' = .sl 4 (Aq Ae.enc r) /\ b' = []) := by
 unfold Ca.F at G
 refine Fn.of Tryz.func198 rfl rfl rfl fun w0 I ρ0 => ?_
 show B4 _ ⟨w0, I, ρ0, 0, 0, 30⟩ _ _ _
 refine Bk 0 8 A8 fun B => ?_
 refine Bk 8 16 B fun B => ?_
 refine Ak <| Bk 16 24 B fun B => ?_
 refine Ar <| J3 (fun ((i_1, out_1) : Int × List Ae) => mk [(0, .sl 4 (Aq Ae.enc l)), (3, .row 0), (4, vk i_1)] [(0, .row 170 4 (Aq Ae.enc out_1))] 1) G (Bc []) ?_
 rintro ⟨i_1, out_1⟩ m1 o1 G hn1
 replace G : Ca.l1 rec l i_1 out_1 = some o1 := G
 show B4 _ _ _ _ (mk _ _ _)
 unfold Ca.l1 at G
 refine Ak <| Bk 1 33 A8 fun B => ?_
 refine C5 rfl G (fun h5 G => ?_) fun h5 G => ?_
 refine Dd ?_
 refine Ak <| Ar <| B8 33 81 B ?_
 refine A6 ?_
 obtain ⟨e, he, G⟩ := Ac G
 refine A6 ?_
 refine Cr rfl rfl (Dm cW (Ie Ae.enc_len (Cq he) (o := 0) (m := 4) (cs := [.int .i64 e.Tag, .sl 1 (Aq e8 e.Bytes), .bool e.Nested, .sl 4 (Aq Ae.enc e.Elements)]) (by simp only [Ae.enc_eq]; rfl) (by decide) rfl) (Ek Ae.enc_len (Cq he) (o := 0) (m := 4) (by decide) rfl)) rfl rfl ?_
 refine Bq fun B => ?_
 refine B8 81 129 B ?_
 refine Cr rfl rfl (Fp Kk z5 (by decide) rfl rfl rfl rfl qP (cs := []) .nil rfl (l := ([] : List UInt8)) (f := e8) rfl) rfl rfl ?_
 refine A6 ?_
 obtain ⟨l_2, hl_2, G⟩ := Ac G
 refine G4 (rd := [81]) rfl rfl (Fb Kk Jx .row rfl .sl rfl hl_2 rfl) rfl rfl ?_
 refine Bq fun B => ?_
 refine B8 129 169 B ?_
 refine A6 ?_
 obtain ⟨y, hy, G⟩ := Ac G
 refine Dz (hrec _ _ hy) ?_
 refine Bq fun B => ?_
 refine Ec (σ' := mk [(0, .sl 4 (Aq Ae.enc l)), (3, .row 0), (4, vk i_1), (5, .ptr 1 0)] [(0, .row 170 4 (Aq Ae.enc out_1)), (1, .box [vk e.Tag, .sl 1 (Aq e8 l_2), .val (.bool e.Nested), .sl 4 (Aq Ae.enc y)] 170)] 2) (Bc [(0, 0), (1, 65)]) ?_
 refine An (Cj _ _ []) 2 42 A8 rfl rfl ?_
 refine A6 ?_
 refine Cr rfl rfl (Fp Xb Yu (by decide) rfl rfl rfl rfl iF (cs := [.int .i64 e.Tag, .sl 1 (Aq e8 l_2), .bool e.Nested, .sl 4 (Aq Ae.enc y)]) (.cons .int (.cons .sl (.cons .bool (.cons .sl .nil)))) rfl (l := ([(Ae.mk e.Tag l_2 e.Nested y)] : List Ae)) (f := Ae.enc) (by simp only [Aq, List.flatMap_cons, List.flatMap_nil, Ae.enc_eq]; rfl)) rfl rfl ?_
 obtain ⟨l_3, hl_3, G⟩ := Ac G
 refine G4 (rd := [0, 18]) rfl rfl (Fb Xb Ae.enc_len .row rfl .row rfl hl_3 rfl) rfl rfl ?_
 refine Bq fun B => ?_
 refine An (Cj _ _ []) 42 66 B rfl rfl ?_
 refine Bq fun B => ?_
 obtain rfl := oi_ G
 exact ⟨((W (i_1 + 1), l_3), m1), Nat.lt_succ_self _, hn1, Bc [(0, 26)]⟩
 refine Ju ?_
 replace G := Cm G hn1
 refine Bk 33 49 B fun B => ?_
 exact Lz
theorem Na (l : (List Ae)) (r : (List Ae)) (G : Ca l = some r) : Fn Tryz.prog 198 0 [.sl 4 (Aq Ae.enc l)] [] (fun d' b' => d' = .sl 4 (Aq Ae.enc r) /\ b' = []) :=
 Rb (motive := fun (x : (List Ae)) (r : (List Ae)) => Fn Tryz.prog 198 0 [.sl 4 (Aq Ae.enc x)] [] (fun d' b' => d' = .sl 4 (Aq Ae.enc r) /\ b' = [])) (fun rec hrec x r h => Na.F _ (fun l r h => hrec l r h) x r h) l r G
theorem Pk (l : (List Ae)) (r : Ae) (G : H4 l = some r) : Fn Tryz.prog 166 0 [.sl 4 (Aq Ae.enc l)] [] (fun d' b' => d' = .agg (Ae.dv r) /\ b' = []) := by
 unfold H4 at G
 refine Fn.of Tryz.func166 rfl rfl rfl fun w0 I ρ0 => ?_
 show B4 _ ⟨w0, I, ρ0, 0, 0, 6⟩ _ _ _
 refine Bk 0 8 A8 fun B => ?_
 refine B8 8 40 B ?_
 refine A6 ?_
 obtain ⟨y, hy, G⟩ := Ac G
 refine Dz (Na _ _ hy) ?_
 refine Ro Pg dL Yu ?_
 exact C6
theorem Vq (u : Aw) (r : Ae) (G : J1 u = some r) : Fn Tryz.prog 168 0 [.agg [vk u.Alg, vk u.Bits]] [] (fun d' b' => d' = .agg (Ae.dv r) /\ b' = []) := by
 unfold J1 at G
 refine Fn.of Tryz.func168 rfl rfl rfl fun w0 I ρ0 => ?_
 show B4 _ ⟨w0, I, ρ0, 0, 0, 11⟩ _ _ _
 refine Bk 0 16 A8 fun B => ?_
 refine Ak <| Bv (Cj _ _ [64]) (by kernel_rfl) [0, 1, 3, 0, 8, 31, 63, 127, 255] 16 88 B rfl rfl (by kernel_rfl) ?_
 refine A6 ?_
 obtain ⟨y, hy, G⟩ := Ac G
 refine Dz (Jf _ _ hy) ?_
 refine A6 ?_
 obtain ⟨y_2, hy_2, G⟩ := Ac G
 refine Dz (Jf _ _ hy_2) ?_
 refine yM (rd := []) rfl rfl (Fp Xb Yu (by decide) rfl rfl rfl rfl iF (cs := [.int .i64 y.Tag, .sl 1 (Aq e8 y.Bytes), .bool y.Nested, .sl 4 (Aq Ae.enc y.Elements), .int .i64 y_2.Tag, .sl 1 (Aq e8 y_2.Bytes), .bool y_2.Nested, .sl 4 (Aq Ae.enc y_2.Elements)]) (.cons .int (.cons .sl (.cons .bool (.cons .sl (.cons .int (.cons .sl (.cons .bool (.cons .sl .nil)))))))) rfl (l := ([y, y_2] : List Ae)) (f := Ae.enc) (by simp only [Aq, List.flatMap_cons, List.flatMap_nil, Ae.enc_eq]; rfl)) rfl rfl rfl ?_
 obtain ⟨y_3, hy_3, G⟩ := Ac G
 refine Dz (Pk _ _ hy_3) ?_
 exact C6
theorem aQ (b : Bool) (r : Ae) (G : L6 b = some r) : Fn Tryz.prog 169 0 [.val (.bool b)] [] (fun d' b' => d' = .agg (Ae.dv r) /\ b' = []) := by
 unfold L6 at G
 refine Fn.of Tryz.func169 rfl rfl rfl fun w0 I ρ0 => ?_
 show B4 _ ⟨w0, I, ρ0, 0, 0, 8⟩ _ _ _
 refine Bk 0 8 A8 fun B => ?_
 refine Ak <| Bk 8 16 B fun B => ?_
 refine C5 rfl G (fun h3 G => ?_) fun h3 G => ?_
 refine B8 16 40 B ?_
 refine Ka Kk z5 qP ([(255 : UInt8)] : List UInt8) e8 ?_
 refine Ro Pg dL Yu ?_
 exact C6
 refine Dd ?_
 refine B8 16 40 B ?_
 refine Ka Kk z5 qP ([(0 : UInt8)] : List UInt8) e8 ?_
 refine Ro Pg dL Yu ?_
 exact C6
theorem aO (c : Ai) (r : Ae) (G : D1 c = some r) : Fn Tryz.prog 122 0 [.agg (Ai.dv c)] [] (fun d' b' => d' = .agg (Ae.dv r) /\ b' = []) := by
 unfold D1 at G
 refine Fn.of Tryz.func122 rfl rfl rfl fun w0 I ρ0 => ?_
 show B4 _ ⟨w0, I, ρ0, 0, 0, 55⟩ _ _ _
 refine Bk 0 16 A8 fun B => ?_
 refine Bk 16 24 B fun B => ?_
 refine Ak <| Bk 24 32 B fun B => ?_
 refine Ar <| J3 (fun ((i_1, names_1) : Int × List Ae) => mk [(1, .ptr 0 0), (2, .ptr 1 0), (3, .row 2), (4, vk i_1)] [(0, .box (Ai.dv c) 111), (1, .box [.val (.int .i64 0), .val (.slice none 0 0), .val (.bool false), .val (.slice none 0 0)] 170), (2, .row 170 4 (Aq Ae.enc names_1))] 3) G (Bc [(0, 0), (1, 8)]) ?_
 rintro ⟨i_1, names_1⟩ m1 o1 G hn1
 replace G : D1.l1 c i_1 names_1 = some o1 := G
 show B4 _ _ _ _ (mk _ _ _)
 unfold D1.l1 at G
 refine Ak <| Bk 3 43 A8 fun B => ?_
 refine C5 rfl G (fun h5 G => ?_) fun h5 G => ?_
 refine Dd ?_
 refine Ak <| Ar <| An (Cj _ _ []) 43 123 B rfl rfl ?_
 refine A6 ?_
 obtain ⟨e, he, G⟩ := Ac G
 refine A6 ?_
 refine Vw he ?_
 obtain ⟨y, hy, G⟩ := Ac G
 refine Dz (Pj _ _ hy) ?_
 refine Cr rfl rfl (Fp Xb Yu (by decide) rfl rfl rfl rfl iF (cs := [.int .i64 y.Tag, .sl 1 (Aq e8 y.Bytes), .bool y.Nested, .sl 4 (Aq Ae.enc y.Elements)]) (.cons .int (.cons .sl (.cons .bool (.cons .sl .nil)))) rfl (l := ([y] : List Ae)) (f := Ae.enc) (by simp only [Aq, List.flatMap_cons, List.flatMap_nil, Ae.enc_eq]; rfl)) rfl rfl ?_
 obtain ⟨l, hl, G⟩ := Ac G
 refine G4 (rd := [2, 99]) rfl rfl (Fb Xb Ae.enc_len .row rfl .row rfl hl rfl) rfl rfl ?_
 refine Bq fun B => ?_
 refine An (Cj _ _ []) 123 147 B rfl rfl ?_
 refine Bq fun B => ?_
 obtain rfl := oi_ G
 exact ⟨((W (i_1 + 1), l), m1), Nat.lt_succ_self _, hn1, Bc [(0, 0), (1, 1), (2, 107)]⟩
 refine Ju ?_
 replace G := Cm G hn1
 refine Ak <| Ec (σ' := mk [(1, .ptr 0 0), (2, .ptr 1 0), (3, .sl 4 (Aq Ae.enc names_1))] [(0, .box (Ai.dv c) 111), (1, .box [.val (.int .i64 0), .val (.slice none 0 0), .val (.bool false), .val (.slice none 0 0)] 170)] 2) (Bc [(0, 0), (1, 1)]) ?_
 refine Bv (Cj _ _ [258]) (by kernel_rfl) [0, 1, 3, 0, 8, 31, 0, 64, 255, 0, 512, 2047, 0, 4096, 16383, 0, 32768, 131071, 0, 262144, 1048575, 0, 2097152, 8388607, 0, 16777216, 67108863, 0, 134217728, 536870911, 0, 2147483647, 4294967295, 8589934591, 17179869183] 2 282 A8 rfl rfl (by kernel_rfl) ?_
 refine A6 ?_
 obtain ⟨y_12, hy_12, G⟩ := Ac G
 refine Dz (Jf _ _ hy_12) ?_
 refine A6 ?_
 obtain ⟨y_13, hy_13, G⟩ := Ac G
 refine Dz (Pj _ _ hy_13) ?_
 refine A6 ?_
 obtain ⟨y_14, hy_14, G⟩ := Ac G
 refine Dz (Pj _ _ hy_14) ?_
 refine A6 ?_
 obtain ⟨y_15, hy_15, G⟩ := Ac G
 refine Dz (Vq _ _ hy_15) ?_
 refine A6 ?_
 obtain ⟨y_16, hy_16, G⟩ := Ac G
 refine Dz (Jf _ _ hy_16) ?_
 refine A6 ?_
 obtain ⟨y_17, hy_17, G⟩ := Ac G
 refine Dz (Vq _ _ hy_17) ?_
 refine A6 ?_
 obtain ⟨y_18, hy_18, G⟩ := Ac G
 refine Dz (Jf _ _ hy_18) ?_
 refine A6 ?_
 obtain ⟨y_19, hy_19, G⟩ := Ac G
 refine Dz (Jf _ _ hy_19) ?_
 refine A6 ?_
 obtain ⟨y_20, hy_20, G⟩ := Ac G
 refine Dz (aQ _ _ hy_20) ?_
 refine A6 ?_
 obtain ⟨y_21, hy_21, G⟩ := Ac G
 refine Dz (Jf _ _ hy_21) ?_
 refine A6 ?_
 obtain ⟨y_22, hy_22, G⟩ := Ac G
 refine Dz (Pk _ _ hy_22) ?_
 refine yM (rd := []) rfl rfl (Fp Xb Yu (by decide) rfl rfl rfl rfl iF (cs := [.int .i64 y_12.Tag, .sl 1 (Aq e8 y_12.Bytes), .bool y_12.Nested, .sl 4 (Aq Ae.enc y_12.Elements), .int .i64 y_13.Tag, .sl 1 (Aq e8 y_13.Bytes), .bool y_13.Nested, .sl 4 (Aq Ae.enc y_13.Elements), .int .i64 y_14.Tag, .sl 1 (Aq e8 y_14.Bytes), .bool y_14.Nested, .sl 4 (Aq Ae.enc y_14.Elements), .int .i64 y_15.Tag, .sl 1 (Aq e8 y_15.Bytes), .bool y_15.Nested, .sl 4 (Aq Ae.enc y_15.Elements), .int .i64 y_16.Tag, .sl 1 (Aq e8 y_16.Bytes), .bool y_16.Nested, .sl 4 (Aq Ae.enc y_16.Elements), .int .i64 y_17.Tag, .sl 1 (Aq e8 y_17.Bytes), .bool y_17.Nested, .sl 4 (Aq Ae.enc y_17.Elements), .int .i64 y_18.Tag, .sl 1 (Aq e8 y_18.Bytes), .bool y_18.Nested, .sl 4 (Aq Ae.enc y_18.Elements), .int .i64 y_19.Tag, .sl 1 (Aq e8 y_19.Bytes), .bool y_19.Nested, .sl 4 (Aq Ae.enc y_19.Elements), .int .i64 y_20.Tag, .sl 1 (Aq e8 y_20.Bytes), .bool y_20.Nested, .sl 4 (Aq Ae.enc y_20.Elements), .int .i64 y_21.Tag, .sl 1 (Aq e8 y_21.Bytes), .bool y_21.Nested, .sl 4 (Aq Ae.enc y_21.Elements), .int .i64 y_22.Tag, .sl 1 (Aq e8 y_22.Bytes), .bool y_22.Nested, .sl 4 (Aq Ae.enc y_22.Elements)]) (.cons .int (.cons .sl (.cons .bool (.cons .sl (.cons .int (.cons .sl (.cons .bool (.cons .sl (.cons .int (.cons .sl (.cons .bool (.cons .sl (.cons .int (.cons .sl (.cons .bool (.cons .sl (.cons .int (.cons .sl (.cons .bool (.cons .sl (.cons .int (.cons .sl (.cons .bool (.cons .sl (.cons .int (.cons .sl (.cons .bool (.cons .sl (.cons .int (.cons .sl (.cons .bool (.cons .sl (.cons .int (.cons .sl (.cons .bool (.cons .sl (.cons .int (.cons .sl (.cons .bool (.cons .sl (.cons .int (.cons .sl (.cons .bool (.cons .sl .nil)))))))))))))))))))))))))))))))))))))))))))) rfl (l := ([y_12, y_13, y_14, y_15, y_16, y_17, y_18, y_19, y_20, y_21, y_22] : List Ae)) (f := Ae.enc) (by simp only [Aq, List.flatMap_cons, List.flatMap_nil, Ae.enc_eq]; rfl)) rfl rfl rfl ?_
 obtain ⟨y_23, hy_23, G⟩ := Ac G
 refine Dz (Pk _ _ hy_23) ?_
 exact C6
theorem cY (n : Int) (r : Bool) (G : La n = some r) : Fn Tryz.prog 196 0 [vk n] [] (fun d' b' => d' = .val (.bool r) /\ b' = []) := by
 unfold La at G
 refine Fn.of Tryz.func196 rfl rfl rfl fun w0 I ρ0 => ?_
 show B4 _ ⟨w0, I, ρ0, 0, 0, 14⟩ _ _ _
 refine Bk 0 8 A8 fun B => ?_
 refine B8 8 104 B ?_
 refine A6 ?_
 rcases Ef G with ⟨h2, G⟩ | ⟨h2, G⟩
 refine A6 ?_
 rcases Ef G with ⟨h3, G⟩ | ⟨h3, G⟩
 refine A6 ?_
 obtain ⟨q, hq, G⟩ := Ac G
 refine Cr (Fm rfl rfl h3) rfl (Y5 hq) rfl rfl ?_
 exact C6
 exact C6
 exact C6
theorem Ni.F (rec : Ae -> Option (Bool)) (hrec : ∀ (v : Ae) (r : Bool), rec v = some r -> Fn Tryz.prog 162 0 [.agg (Ae.dv v)] [] (fun d' b' => d' = .val (.bool r) /\ b' = [])) (v : Ae) (r : Bool) (G : Bn.F rec v = some r) : Fn Tryz.prog 162 0 [.agg (Ae.dv v)] [] (fun d' b' => d' = .val (.bool r) /\ b' = []) := by
 unfold Bn.F at G
 refine Fn.of Tryz.func162 rfl rfl rfl fun w0 I ρ0 => ?_
 show B4 _ ⟨w0, I, ρ0, 0, 0, 53⟩ _ _ _
 refine Bk 0 16 A8 fun B => ?_
 refine Ak <| Bw (ι := Bool) (fun (x38_1 : Bool) => mk [(1, .ptr 0 0), (38, .val (.bool x38_1))] [(0, .box (Ae.dv v) 170)] 1) (fun (x38_1 : Bool) => Bn.j1 rec v x38_1 = some r) ?_ ?_
 refine An (Cj _ _ []) 16 296 B rfl rfl ?_
 refine A6 ?_
 obtain ⟨y, hy, G⟩ := Ac G
 refine Dz (cY _ _ hy) ?_
 refine A6 ?_
 rcases Ef G with ⟨h2, G⟩ | ⟨h2, G⟩
 refine Bq fun B => ?_
 exact ⟨true, G, Bc [(0, 0)]⟩
 refine A6 ?_
 obtain ⟨q, hq, G⟩ := Ac G
 refine Cr (Fm rfl rfl h2) rfl (Q3 hq) rfl rfl ?_
 obtain ⟨q_2, hq_2, G⟩ := Ac G
 refine Cr (Fm rfl rfl h2) rfl (Y5 hq_2) rfl rfl ?_
 refine A6 ?_
 refine Cr (Fm rfl rfl h2) rfl (mX aA3) rfl rfl ?_
 refine A6 ?_
 rcases Ef G with ⟨h4, G⟩ | ⟨h4, G⟩
 refine Bq fun B => ?_
 exact ⟨true, G, Bc [(0, 0)]⟩
 refine A6 ?_
 rcases Ef G with ⟨h6, G⟩ | ⟨h6, G⟩
 refine A6 ?_
 rcases Ef G with ⟨h7, G⟩ | ⟨h7, G⟩
 refine Bq fun B => ?_
 exact ⟨true, G, Bc [(0, 0)]⟩
 refine Bq fun B => ?_
 exact ⟨false, G, Bc [(0, 0)]⟩
 refine Bq fun B => ?_
 exact ⟨decide (0 < (v.Elements.length : Int)), G, Bc [(0, 0)]⟩
 rintro x38_1 G
 replace G : Bn.j1 rec v x38_1 = some r := G
 show B4 _ _ _ _ (mk _ _ _)
 unfold Bn.j1 at G
 refine C5 rfl G (fun h11 G => ?_) fun h11 G => ?_
 refine B8 1 9 A8 ?_
 exact C6
 refine Dd ?_
 refine Ak <| Bk 1 9 A8 fun B => ?_
 refine Ar <| J3 (fun (i_2 : Int) => mk [(1, .ptr 0 0), (3, vk i_2)] [(0, .box (Ae.dv v) 170)] 1) G (Bc [(0, 0)]) ?_
 rintro i_2 m2 o2 G hn2
 replace G : Bn.l2 rec v i_2 = some o2 := G
 show B4 _ _ _ _ (mk _ _ _)
 unfold Bn.l2 at G
 refine Ak <| Bk 1 41 A8 fun B => ?_
 refine C5 rfl G (fun h15 G => ?_) fun h15 G => ?_
 refine Dd ?_
 refine Ak <| Ar <| B8 41 97 B ?_
 refine A6 ?_
 obtain ⟨e, he, G⟩ := Ac G
 refine A6 ?_
 refine Cr rfl rfl (Dm cW (Ie Ae.enc_len (Cq he) (o := 0) (m := 4) (cs := [.int .i64 e.Tag, .sl 1 (Aq e8 e.Bytes), .bool e.Nested, .sl 4 (Aq Ae.enc e.Elements)]) (by simp only [Ae.enc_eq]; rfl) (by decide) rfl) (Ek Ae.enc_len (Cq he) (o := 0) (m := 4) (by decide) rfl)) rfl rfl ?_
 obtain ⟨y_2, hy_2, G⟩ := Ac G
 refine Dz (hrec _ _ hy_2) ?_
 refine Bq fun B => ?_
 refine C5 rfl G (fun h17 G => ?_) fun h17 G => ?_
 refine Bk 97 105 B fun B => ?_
 refine F3 ?_
 replace G := Cm G hn2
 exact bE
 refine Dd ?_
 refine An (Cj _ _ []) 97 121 B rfl rfl ?_
 refine Bq fun B => ?_
 obtain rfl := oi_ G
 exact ⟨(W (i_2 + 1), m2), Nat.lt_succ_self _, hn2, Bc [(0, 0)]⟩
 refine Ju ?_
 replace G := Cm G hn2
 refine Bk 41 49 B fun B => ?_
 exact Lz
theorem Ni (v : Ae) (r : Bool) (G : Bn v = some r) : Fn Tryz.prog 162 0 [.agg (Ae.dv v)] [] (fun d' b' => d' = .val (.bool r) /\ b' = []) :=
 Rb (motive := fun (x : Ae) (r : Bool) => Fn Tryz.prog 162 0 [.agg (Ae.dv x)] [] (fun d' b' => d' = .val (.bool r) /\ b' = [])) (fun rec hrec x r h => Ni.F _ (fun v r h => hrec v r h) x r h) v r G
theorem N6.F (rec : Ae -> Option (Int)) (hrec : ∀ (v : Ae) (r : Int), rec v = some r -> Fn Tryz.prog 163 0 [.agg (Ae.dv v)] [] (fun d' b' => d' = vk r /\ b' = [])) (v : Ae) (r : Int) (G : Cl.F rec v = some r) : Fn Tryz.prog 163 0 [.agg (Ae.dv v)] [] (fun d' b' => d' = vk r /\ b' = []) := by
 unfold Cl.F at G
 refine Fn.of Tryz.func163 rfl rfl rfl fun w0 I ρ0 => ?_
 show B4 _ ⟨w0, I, ρ0, 0, 0, 22⟩ _ _ _
 refine Bk 0 16 A8 fun B => ?_
 refine Bk 16 24 B fun B => ?_
 refine Ak <| Bk 24 32 B fun B => ?_
 refine Ar <| J3 (fun ((d_1, i_1) : Int × Int) => mk [(1, .ptr 0 0), (3, vk d_1), (4, vk i_1)] [(0, .box (Ae.dv v) 170)] 1) G (Bc [(0, 0)]) ?_
 rintro ⟨d_1, i_1⟩ m1 o1 G hn1
 replace G : Cl.l1 rec v d_1 i_1 = some o1 := G
 show B4 _ _ _ _ (mk _ _ _)
 unfold Cl.l1 at G
 refine Ak <| Bk 1 41 A8 fun B => ?_
 refine C5 rfl G (fun h5 G => ?_) fun h5 G => ?_
 refine Dd ?_
 refine Ak <| Ar <| An (Cj _ _ []) 41 113 B rfl rfl ?_
 refine A6 ?_
 obtain ⟨e, he, G⟩ := Ac G
 refine A6 ?_
 refine Cr rfl rfl (Dm cW (Ie Ae.enc_len (Cq he) (o := 0) (m := 4) (cs := [.int .i64 e.Tag, .sl 1 (Aq e8 e.Bytes), .bool e.Nested, .sl 4 (Aq Ae.enc e.Elements)]) (by simp only [Ae.enc_eq]; rfl) (by decide) rfl) (Ek Ae.enc_len (Cq he) (o := 0) (m := 4) (by decide) rfl)) rfl rfl ?_
 obtain ⟨y, hy, G⟩ := Ac G
 refine Dz (hrec _ _ hy) ?_
 refine Cr rfl rfl aB9 rfl rfl ?_
 refine Bq fun B => ?_
 refine An (Cj _ _ []) 113 137 B rfl rfl ?_
 refine Bq fun B => ?_
 obtain rfl := oi_ G
 exact ⟨((max d_1 y, W (i_1 + 1)), m1), Nat.lt_succ_self _, hn1, Bc [(0, 0)]⟩
 refine Ju ?_
 replace G := Cm G hn1
 refine Bk 41 65 B fun B => ?_
 exact Lz
theorem N6 (v : Ae) (r : Int) (G : Cl v = some r) : Fn Tryz.prog 163 0 [.agg (Ae.dv v)] [] (fun d' b' => d' = vk r /\ b' = []) :=
 Rb (motive := fun (x : Ae) (r : Int) => Fn Tryz.prog 163 0 [.agg (Ae.dv x)] [] (fun d' b' => d' = vk r /\ b' = [])) (fun rec hrec x r h => N6.F _ (fun v r h => hrec v r h) x r h) v r G
theorem Xg (n : Int) (r : (List UInt8)) (G : Dq n = some r) : Fn Tryz.prog 197 0 [vk n] [] (fun d' b' => d' = .sl 1 (Aq e8 r) /\ b' = []) := by
 unfold Dq at G
 refine Fn.of Tryz.func197 rfl rfl rfl fun w0 I ρ0 => ?_
 show B4 _ ⟨w0, I, ρ0, 0, 0, 26⟩ _ _ _
 refine Bk 0 8 A8 fun B => ?_
 refine Ak <| Bk 8 24 B fun B => ?_
 refine C5 rfl G (fun h3 G => ?_) fun h3 G => ?_
 refine B8 24 56 B ?_
 refine A6 ?_
 refine Cr rfl rfl (K1 V0 Vz) rfl rfl ?_
 refine Ka Kk z5 qP ([(u8 n)] : List UInt8) e8 ?_
 exact C6
 refine Dd ?_
 refine Bk 24 32 B fun B => ?_
 refine Ak <| Ar <| J3 (fun ((n_1, b_1) : Int × List UInt8) => mk [(0, vk n_1), (3, .row 0)] [(0, .row 5 1 (Aq e8 b_1))] 1) G (Bc []) ?_
 rintro ⟨n_1, b_1⟩ m1 o1 G hn1
 replace G : Dq.l1 n_1 b_1 = some o1 := G
 show B4 _ _ _ _ (mk _ _ _)
 unfold Dq.l1 at G
 refine Ak <| Bk 1 17 A8 fun B => ?_
 refine C5 rfl G (fun h7 G => ?_) fun h7 G => ?_
 refine Dd ?_
 refine Ar <| B8 17 73 B ?_
 refine A6 ?_
 obtain ⟨q, hq, G⟩ := Ac G
 refine Cr rfl rfl (Y5 hq) rfl rfl ?_
 refine Cr rfl rfl (K1 V0 Vz) rfl rfl ?_
 refine Ka Kk z5 qP ([(u8 q)] : List UInt8) e8 ?_
 refine A6 ?_
 obtain ⟨l, hl, G⟩ := Ac G
 refine G4 (rd := [41, 0]) rfl rfl (Fb Kk Jx .row rfl .row rfl hl rfl) rfl rfl ?_
 refine Bq fun B => ?_
 refine An (Cj _ _ []) 73 97 B rfl rfl ?_
 refine A6 ?_
 obtain ⟨q_2, hq_2, G⟩ := Ac G
 refine Cr rfl rfl (Q3 hq_2) rfl rfl ?_
 refine Bq fun B => ?_
 obtain rfl := oi_ G
 exact ⟨((q_2, l), m1), Nat.lt_succ_self _, hn1, Bc [(0, 57)]⟩
 refine Ju ?_
 replace G := Cm G hn1
 refine B8 17 81 B ?_
 refine A6 ?_
 refine Cr rfl rfl (K1 V0 Vz) rfl rfl ?_
 refine Ka Kk z5 qP ([(u8 (W (128 + (b_1.length : Int))))] : List UInt8) e8 ?_
 refine A6 ?_
 obtain ⟨l_2, hl_2, G⟩ := Ac G
 refine G4 (rd := [49, 0]) rfl rfl (Fb Kk Jx .row rfl .row rfl hl_2 rfl) rfl rfl ?_
 exact C6
end Go.Proofs.YtkoflhimdenjaaaGreat
