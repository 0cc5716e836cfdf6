import Derived.Test.YtkoflhimdenjaaaGreatT1
import Derived.Test.YtkoflhimdenjaaaGreatA1
import Derived.Test.YtkoflhimdenjaaaGreatA3
import Derived.Test.YtkoflhimdenjaaaGreatA4
import Derived.Test.YtkoflhimdenjaaaGreatA5
import Derived.Test.YtkoflhimdenjaaaGreatA6
import Derived.Test.YtkoflhimdenjaaaGreatA8
set_option linter.unusedVariables false
set_option linter.unusedSimpArgs false
set_option maxRecDepth 100000
set_option maxHeartbeats 1600000
namespace Go.Proofs.YtkoflhimdenjaaaGreat
open Go.RowKit
theorem S0 (l : (List Aa)) (r : (List Aa) × Int) (G : Dh l = some r) : Fn Tryz.prog 68 0 [.sl 11 (Aq Aa.enc l)] [] (fun d' b' => d' = .tup [.row 0, vk r.2] /\ b' = [.row 48 11 (Aq Aa.enc r.1)]) := by
 unfold Dh at G
 refine Fn.of Tryz.func68 rfl rfl rfl fun w0 I ρ0 => ?_
 show B4 _ ⟨w0, I, ρ0, 0, 0, 30⟩ _ _ _
 refine Bk 0 16 A8 fun B => ?_
 refine Ak <| Bk 16 40 B fun B => ?_
 refine Ar <| J3 (fun (x10_1 : Int) => mk [(0, .sl 11 (Aq Aa.enc l)), (8, .sl 11 (Aq Aa.enc l)), (9, .val (.int .i64 (l.length : Int))), (10, vk x10_1)] [] 0) G (Bc []) ?_
 rintro x10_1 m1 o1 G hn1
 replace G : Dh.l1 l x10_1 = some o1 := G
 show B4 _ _ _ _ (mk _ _ _)
 unfold Dh.l1 at G
 refine Bk 0 8 A8 fun B => ?_
 refine Ak <| C5 rfl G (fun h4 G => ?_) fun h4 G => ?_
 refine Dd ?_
 refine Ak <| Ar <| B8 8 40 B ?_
 obtain ⟨e, he, G⟩ := Ac G
 refine A6 ?_
 refine lH he ?_
 refine Bq fun B => ?_
 refine B8 40 64 B ?_
 refine A6 ?_
 obtain ⟨y, hy, G⟩ := Ac G
 refine Dz (P4 _ _ hy) ?_
 refine Bq fun B => ?_
 refine Bk 64 80 B fun B => ?_
 refine C5 rfl G (fun h8 G => ?_) fun h8 G => ?_
 refine Bk 80 104 B fun B => ?_
 refine F3 ?_
 replace G := Cm G hn1
 exact bE
 refine Dd ?_
 refine An (Cj _ _ []) 80 96 B rfl rfl ?_
 refine Bq fun B => ?_
 obtain rfl := oi_ G
 exact ⟨(W (x10_1 + 1), m1), Nat.lt_succ_self _, hn1, Bc []⟩
 refine Ju ?_
 replace G := Cm G hn1
 refine B8 8 32 B ?_
 refine A6 ?_
 obtain ⟨y_2, hy_2, G⟩ := Ac G
 refine G2 (rd := []) (ps := []) (gs := []) false rfl (K5 _ _ hy_2) rfl rfl (.cons .sl .nil) rfl rfl (by intro h; cases h) rfl (by intro h; first | (cases h; done) | exact ⟨_, _, ⟨rfl, rfl⟩, by simp, by simp⟩) ?_
 rintro _ _ ⟨rfl, rfl⟩
 refine Bq fun B => ?_
 refine B8 32 48 B ?_
 refine A6 ?_
 obtain ⟨y_3, hy_3, G⟩ := Ac G
 refine K9 [16] [16] [] false (I2 y_2 (fun x0 x1 => Gp x0 x1) (fun x0 x1 y h => Vv x0 x1 y h) _ hy_3) ?_
 refine F7 fun B => ?_
 refine B8 48 72 B ?_
 refine A6 ?_
 obtain ⟨y_4, hy_4, G⟩ := Ac G
 refine G2 (rd := [16]) (ps := []) (gs := [16]) false rfl (Kj _ _ hy_4) rfl rfl (.cons (.rowK rfl) .nil) ⟨_, _, _, rfl, .head _, rfl, rfl⟩ rfl (by intro h; cases h) rfl (by intro h; first | (cases h; done) | exact ⟨_, _, ⟨rfl, rfl⟩, by simp, by simp⟩) ?_
 rintro _ _ ⟨rfl, rfl⟩
 refine Bq fun B => ?_
 refine Ak <| Bk 72 96 B fun B => ?_
 refine C5 rfl G (fun h15 G => ?_) fun h15 G => ?_
 refine B8 96 112 B ?_
 exact C6
 refine Dd ?_
 refine Bk 96 120 B fun B => ?_
 refine F3 ?_
 obtain rfl := oi_ G
 exact Ht [(0, 56)] ⟨rfl, rfl⟩
theorem Mk (at' : Aa) (e : Ao) (r : (List Aa) × Int) (G : Ba at' e = some r) : Fn Tryz.prog 39 0 [.agg (Aa.dv at'), .agg (Ao.dv e)] [] (fun d' b' => d' = .tup [.row 0, vk r.2] /\ b' = [.row 48 11 (Aq Aa.enc r.1)]) := by
 unfold Ba at G
 refine Fn.of Tryz.func39 rfl rfl rfl fun w0 I ρ0 => ?_
 show B4 _ ⟨w0, I, ρ0, 0, 0, 95⟩ _ _ _
 refine Bk 0 32 A8 fun B => ?_
 refine B8 32 88 B ?_
 refine A6 ?_
 obtain ⟨y, hy, G⟩ := Ac G
 refine G2 (rd := []) (ps := []) (gs := []) false rfl (Xr _ _ hy) rfl rfl (.cons (.agg (.cons .val (.cons .val (.cons .val (.cons .val (.cons .val (.cons .val (.cons .val (.cons .val (.cons .val (.cons .val (.cons .val .nil)))))))))))) .nil) rfl rfl (by intro h; cases h) rfl (by intro h; first | (cases h; done) | exact ⟨_, _, ⟨rfl, rfl⟩, by simp, by simp⟩) ?_
 rintro _ _ ⟨rfl, rfl⟩
 refine Bq fun B => ?_
 refine Bw (ι := Int) (fun (errno_1 : Int) => mk [(3, .ptr 0 0), (6, .ptr 1 0), (7, vk errno_1)] [(0, .box (Ao.dv e) 43), (1, .box [vk y.1.at_.Source, ws y.1.at_.Host, vk y.1.at_.Machine, vk y.1.at_.Day, vk y.1.at_.Confidence, vk y.1.at_.Kind, ws y.1.at_.Subject, vk y.1.at_.Use.Alg, vk y.1.at_.Use.Bits, vk y.1.at_.Number, ws y.1.at_.Text, .row 2] 126), (2, .row 48 11 (Aq Aa.enc y.1.l))] 3) (fun (errno_1 : Int) => Ba.j1 e y errno_1 = some r) ?_ ?_
 refine Bk 88 104 B fun B => ?_
 refine C5 rfl G (fun h4 G => ?_) fun h4 G => ?_
 refine An (Cj _ _ []) 104 128 B rfl rfl ?_
 refine A6 ?_
 obtain ⟨y_2, hy_2, G⟩ := Ac G
 refine Dz (Uh _ _ hy_2) ?_
 refine Bq fun B => ?_
 exact ⟨y_2, G, Bc [(0, 8), (1, 40), (2, 41)]⟩
 refine Dd ?_
 exact ⟨y.2, G, Bc [(0, 8), (1, 40), (2, 41)]⟩
 rintro errno_1 G
 replace G : Ba.j1 e y errno_1 = some r := G
 show B4 _ _ _ _ (mk _ _ _)
 unfold Ba.j1 at G
 refine Ak <| Bk 3 19 A8 fun B => ?_
 refine C5 rfl G (fun h7 G => ?_) fun h7 G => ?_
 refine B8 19 43 B ?_
 exact C6
 refine Dd ?_
 refine B8 19 59 B ?_
 refine A6 ?_
 refine Ro J4 Qg Ym ?_
 refine A6 ?_
 obtain ⟨y_3, hy_3, G⟩ := Ac G
 refine G2 (rd := [1, 2]) (ps := [1]) (gs := [2]) false rfl (Fv _ _ _ _ _ hy_3) rfl rfl (.cons (.ptr rfl) (.cons .val (.cons (.agg (.cons .val (.cons .val .nil))) (.cons .val .nil)))) ⟨_, _, _, rfl, .head _, ⟨_, rfl, (by repeat' (first | exact Nu.nil | apply Nu.cons | exact Ag.val | exact Ag.sl | exact Ag.nils | exact Ag.ptr rfl | exact Ag.rowK rfl))⟩, ⟨_, _, _, rfl, .tail _ (.head _), rfl, rfl⟩⟩ rfl (by intro h; cases h) rfl (by intro h; first | (cases h; done) | exact ⟨_, _, ⟨rfl, rfl⟩, by simp, by simp⟩) ?_
 rintro _ _ ⟨rfl, rfl⟩
 refine F7 fun B => ?_
 refine B8 59 99 B ?_
 refine A6 ?_
 refine Ro J4 Qg Ym ?_
 refine A6 ?_
 obtain ⟨y_4, hy_4, G⟩ := Ac G
 refine G2 (rd := [1, 51]) (ps := [1]) (gs := [51]) false rfl (Fv _ _ _ _ _ hy_4) rfl rfl (.cons (.ptr rfl) (.cons .val (.cons (.agg (.cons .val (.cons .val .nil))) (.cons .val .nil)))) ⟨_, _, _, rfl, .head _, ⟨_, rfl, (by repeat' (first | exact Nu.nil | apply Nu.cons | exact Ag.val | exact Ag.sl | exact Ag.nils | exact Ag.ptr rfl | exact Ag.rowK rfl))⟩, ⟨_, _, _, rfl, .tail _ (.head _), rfl, rfl⟩⟩ rfl (by intro h; cases h) rfl (by intro h; first | (cases h; done) | exact ⟨_, _, ⟨rfl, rfl⟩, by simp, by simp⟩) ?_
 rintro _ _ ⟨rfl, rfl⟩
 refine F7 fun B => ?_
 refine Ak <| Bk 99 131 B fun B => ?_
 refine Ar <| J3 (fun ((x41_2, p_2, p_2_2, p_2_3, p_2_4, p_2_5, p_2_6, p_2_7, p_2_8, p_2_9, p_2_10, p_2_11, l_2) : Int × Int × ByteArray × Int × Int × Int × Int × ByteArray × Int × Int × Int × ByteArray × List Aa) => mk [(3, .ptr 0 0), (6, .ptr 1 0), (39, .sl 1 (Aq eI e.Suites)), (40, .val (.int .i64 (e.Suites.length : Int))), (41, vk x41_2)] [(0, .box (Ao.dv e) 43), (1, .box [vk p_2, ws p_2_2, vk p_2_3, vk p_2_4, vk p_2_5, vk p_2_6, ws p_2_7, vk p_2_8, vk p_2_9, vk p_2_10, ws p_2_11, .row 2] 126), (2, .row 48 11 (Aq Aa.enc l_2))] 3) G (Bc [(0, 0), (1, 1), (2, 91)]) ?_
 rintro ⟨x41_2, p_2, p_2_2, p_2_3, p_2_4, p_2_5, p_2_6, p_2_7, p_2_8, p_2_9, p_2_10, p_2_11, l_2⟩ m2 o2 G hn2
 replace G : Ba.l2 e x41_2 p_2 p_2_2 p_2_3 p_2_4 p_2_5 p_2_6 p_2_7 p_2_8 p_2_9 p_2_10 p_2_11 l_2 = some o2 := G
 show B4 _ _ _ _ (mk _ _ _)
 unfold Ba.l2 at G
 refine Bk 3 11 A8 fun B => ?_
 refine Ak <| C5 rfl G (fun h13 G => ?_) fun h13 G => ?_
 refine Dd ?_
 refine Ak <| Ar <| B8 11 35 B ?_
 obtain ⟨e_2, he_2, G⟩ := Ac G
 refine A6 ?_
 refine Vw he_2 ?_
 refine Bq fun B => ?_
 refine An (Cj _ _ []) 35 67 B rfl rfl ?_
 refine A6 ?_
 refine Ro J4 Qg Ym ?_
 refine A6 ?_
 obtain ⟨y_5, hy_5, G⟩ := Ac G
 refine G2 (rd := [1, 2]) (ps := [1]) (gs := [2]) false rfl (Fv _ _ _ _ _ hy_5) rfl rfl (.cons (.ptr rfl) (.cons .val (.cons (.agg (.cons .val (.cons .val .nil))) (.cons .val .nil)))) ⟨_, _, _, rfl, .head _, ⟨_, rfl, (by repeat' (first | exact Nu.nil | apply Nu.cons | exact Ag.val | exact Ag.sl | exact Ag.nils | exact Ag.ptr rfl | exact Ag.rowK rfl))⟩, ⟨_, _, _, rfl, .tail _ (.head _), rfl, rfl⟩⟩ rfl (by intro h; cases h) rfl (by intro h; first | (cases h; done) | exact ⟨_, _, ⟨rfl, rfl⟩, by simp, by simp⟩) ?_
 rintro _ _ ⟨rfl, rfl⟩
 refine F7 fun B => ?_
 refine An (Cj _ _ []) 67 83 B rfl rfl ?_
 refine Bq fun B => ?_
 obtain rfl := oi_ G
 exact ⟨((W (x41_2 + 1), y_5.at_.Source, y_5.at_.Host, y_5.at_.Machine, y_5.at_.Day, y_5.at_.Confidence, y_5.at_.Kind, y_5.at_.Subject, y_5.at_.Use.Alg, y_5.at_.Use.Bits, y_5.at_.Number, y_5.at_.Text, y_5.l), m2), Nat.lt_succ_self _, hn2, Bc [(0, 0), (1, 1), (2, 59)]⟩
 refine Ju ?_
 replace G := Cm G hn2
 refine Ak <| Bk 11 43 B fun B => ?_
 refine Ar <| J3 (fun ((x53_3, p_3, p_3_2, p_3_3, p_3_4, p_3_5, p_3_6, p_3_7, p_3_8, p_3_9, p_3_10, p_3_11, l_3) : Int × Int × ByteArray × Int × Int × Int × Int × ByteArray × Int × Int × Int × ByteArray × List Aa) => mk [(3, .ptr 0 0), (6, .ptr 1 0), (51, .sl 4 (Aq A5.enc e.Identities)), (52, .val (.int .i64 (e.Identities.length : Int))), (53, vk x53_3)] [(0, .box (Ao.dv e) 43), (1, .box [vk p_3, ws p_3_2, vk p_3_3, vk p_3_4, vk p_3_5, vk p_3_6, ws p_3_7, vk p_3_8, vk p_3_9, vk p_3_10, ws p_3_11, .row 2] 126), (2, .row 48 11 (Aq Aa.enc l_3))] 3) G (Bc [(0, 0), (1, 1), (2, 2)]) ?_
 rintro ⟨x53_3, p_3, p_3_2, p_3_3, p_3_4, p_3_5, p_3_6, p_3_7, p_3_8, p_3_9, p_3_10, p_3_11, l_3⟩ m3 o3 G hn3
 replace G : Ba.l3 e x53_3 p_3 p_3_2 p_3_3 p_3_4 p_3_5 p_3_6 p_3_7 p_3_8 p_3_9 p_3_10 p_3_11 l_3 = some o3 := G
 show B4 _ _ _ _ (mk _ _ _)
 unfold Ba.l3 at G
 refine Bk 3 11 A8 fun B => ?_
 refine Ak <| C5 rfl G (fun h19 G => ?_) fun h19 G => ?_
 refine Dd ?_
 refine Ak <| Ar <| B8 11 43 B ?_
 obtain ⟨e_3, he_3, G⟩ := Ac G
 refine A6 ?_
 refine lH he_3 ?_
 refine Bq fun B => ?_
 refine An (Cj _ _ []) 43 91 B rfl rfl ?_
 refine A6 ?_
 obtain ⟨y_6, hy_6, G⟩ := Ac G
 refine G2 (rd := [1, 2]) (ps := [1]) (gs := [2]) false rfl (Fv _ _ _ _ _ hy_6) rfl rfl (.cons (.ptr rfl) (.cons .val (.cons (.agg (.cons .val (.cons .val .nil))) (.cons .val .nil)))) ⟨_, _, _, rfl, .head _, ⟨_, rfl, (by repeat' (first | exact Nu.nil | apply Nu.cons | exact Ag.val | exact Ag.sl | exact Ag.nils | exact Ag.ptr rfl | exact Ag.rowK rfl))⟩, ⟨_, _, _, rfl, .tail _ (.head _), rfl, rfl⟩⟩ rfl (by intro h; cases h) rfl (by intro h; first | (cases h; done) | exact ⟨_, _, ⟨rfl, rfl⟩, by simp, by simp⟩) ?_
 rintro _ _ ⟨rfl, rfl⟩
 refine F7 fun B => ?_
 refine An (Cj _ _ []) 91 107 B rfl rfl ?_
 refine Bq fun B => ?_
 obtain rfl := oi_ G
 exact ⟨((W (x53_3 + 1), y_6.at_.Source, y_6.at_.Host, y_6.at_.Machine, y_6.at_.Day, y_6.at_.Confidence, y_6.at_.Kind, y_6.at_.Subject, y_6.at_.Use.Alg, y_6.at_.Use.Bits, y_6.at_.Number, y_6.at_.Text, y_6.l), m3), Nat.lt_succ_self _, hn3, Bc [(0, 0), (1, 1), (2, 83)]⟩
 refine Ju ?_
 replace G := Cm G hn3
 refine Ak <| Bk 11 43 B fun B => ?_
 refine Ar <| J3 (fun ((x67_4, p_4, p_4_2, p_4_3, p_4_4, p_4_5, p_4_6, p_4_7, p_4_8, p_4_9, p_4_10, p_4_11, l_4) : Int × Int × ByteArray × Int × Int × Int × Int × ByteArray × Int × Int × Int × ByteArray × List Aa) => mk [(3, .ptr 0 0), (6, .ptr 1 0), (65, .sl 1 (Aq eI e.Anchors)), (66, .val (.int .i64 (e.Anchors.length : Int))), (67, vk x67_4)] [(0, .box (Ao.dv e) 43), (1, .box [vk p_4, ws p_4_2, vk p_4_3, vk p_4_4, vk p_4_5, vk p_4_6, ws p_4_7, vk p_4_8, vk p_4_9, vk p_4_10, ws p_4_11, .row 2] 126), (2, .row 48 11 (Aq Aa.enc l_4))] 3) G (Bc [(0, 0), (1, 1), (2, 2)]) ?_
 rintro ⟨x67_4, p_4, p_4_2, p_4_3, p_4_4, p_4_5, p_4_6, p_4_7, p_4_8, p_4_9, p_4_10, p_4_11, l_4⟩ m4 o4 G hn4
 replace G : Ba.l4 e x67_4 p_4 p_4_2 p_4_3 p_4_4 p_4_5 p_4_6 p_4_7 p_4_8 p_4_9 p_4_10 p_4_11 l_4 = some o4 := G
 show B4 _ _ _ _ (mk _ _ _)
 unfold Ba.l4 at G
 refine Bk 3 11 A8 fun B => ?_
 refine Ak <| C5 rfl G (fun h25 G => ?_) fun h25 G => ?_
 refine Dd ?_
 refine Ak <| Ar <| B8 11 35 B ?_
 obtain ⟨e_4, he_4, G⟩ := Ac G
 refine A6 ?_
 refine Vw he_4 ?_
 refine Bq fun B => ?_
 refine An (Cj _ _ []) 35 67 B rfl rfl ?_
 refine A6 ?_
 refine Ro J4 Qg Ym ?_
 refine A6 ?_
 obtain ⟨y_7, hy_7, G⟩ := Ac G
 refine G2 (rd := [1, 2]) (ps := [1]) (gs := [2]) false rfl (Fv _ _ _ _ _ hy_7) rfl rfl (.cons (.ptr rfl) (.cons .val (.cons (.agg (.cons .val (.cons .val .nil))) (.cons .val .nil)))) ⟨_, _, _, rfl, .head _, ⟨_, rfl, (by repeat' (first | exact Nu.nil | apply Nu.cons | exact Ag.val | exact Ag.sl | exact Ag.nils | exact Ag.ptr rfl | exact Ag.rowK rfl))⟩, ⟨_, _, _, rfl, .tail _ (.head _), rfl, rfl⟩⟩ rfl (by intro h; cases h) rfl (by intro h; first | (cases h; done) | exact ⟨_, _, ⟨rfl, rfl⟩, by simp, by simp⟩) ?_
 rintro _ _ ⟨rfl, rfl⟩
 refine F7 fun B => ?_
 refine An (Cj _ _ []) 67 83 B rfl rfl ?_
 refine Bq fun B => ?_
 obtain rfl := oi_ G
 exact ⟨((W (x67_4 + 1), y_7.at_.Source, y_7.at_.Host, y_7.at_.Machine, y_7.at_.Day, y_7.at_.Confidence, y_7.at_.Kind, y_7.at_.Subject, y_7.at_.Use.Alg, y_7.at_.Use.Bits, y_7.at_.Number, y_7.at_.Text, y_7.l), m4), Nat.lt_succ_self _, hn4, Bc [(0, 0), (1, 1), (2, 59)]⟩
 refine Ju ?_
 replace G := Cm G hn4
 refine Ak <| Bk 11 43 B fun B => ?_
 refine Ar <| J3 (fun ((x79_5, p_5, p_5_2, p_5_3, p_5_4, p_5_5, p_5_6, p_5_7, p_5_8, p_5_9, p_5_10, p_5_11, l_5) : Int × Int × ByteArray × Int × Int × Int × Int × ByteArray × Int × Int × Int × ByteArray × List Aa) => mk [(6, .ptr 0 0), (77, .sl 1 (Aq eI e.Hashes)), (78, .val (.int .i64 (e.Hashes.length : Int))), (79, vk x79_5)] [(0, .box [vk p_5, ws p_5_2, vk p_5_3, vk p_5_4, vk p_5_5, vk p_5_6, ws p_5_7, vk p_5_8, vk p_5_9, vk p_5_10, ws p_5_11, .row 1] 126), (1, .row 48 11 (Aq Aa.enc l_5))] 2) G (Bc [(0, 1), (1, 2)]) ?_
 rintro ⟨x79_5, p_5, p_5_2, p_5_3, p_5_4, p_5_5, p_5_6, p_5_7, p_5_8, p_5_9, p_5_10, p_5_11, l_5⟩ m5 o5 G hn5
 replace G : Ba.l5 e x79_5 p_5 p_5_2 p_5_3 p_5_4 p_5_5 p_5_6 p_5_7 p_5_8 p_5_9 p_5_10 p_5_11 l_5 = some o5 := G
 show B4 _ _ _ _ (mk _ _ _)
 unfold Ba.l5 at G
 refine Bk 2 10 A8 fun B => ?_
 refine Ak <| C5 rfl G (fun h31 G => ?_) fun h31 G => ?_
 refine Dd ?_
 refine Ak <| Ar <| B8 10 34 B ?_
 obtain ⟨e_5, he_5, G⟩ := Ac G
 refine A6 ?_
 refine Vw he_5 ?_
 refine Bq fun B => ?_
 refine An (Cj _ _ []) 34 66 B rfl rfl ?_
 refine A6 ?_
 refine Ro J4 Qg Ym ?_
 obtain ⟨y_8, hy_8, G⟩ := Ac G
 refine G2 (rd := [0, 1]) (ps := [0]) (gs := [1]) false rfl (Fv _ _ _ _ _ hy_8) rfl rfl (.cons (.ptr rfl) (.cons .val (.cons (.agg (.cons .val (.cons .val .nil))) (.cons .val .nil)))) ⟨_, _, _, rfl, .head _, ⟨_, rfl, (by repeat' (first | exact Nu.nil | apply Nu.cons | exact Ag.val | exact Ag.sl | exact Ag.nils | exact Ag.ptr rfl | exact Ag.rowK rfl))⟩, ⟨_, _, _, rfl, .tail _ (.head _), rfl, rfl⟩⟩ rfl (by intro h; cases h) rfl (by intro h; first | (cases h; done) | exact ⟨_, _, ⟨rfl, rfl⟩, by simp, by simp⟩) ?_
 rintro _ _ ⟨rfl, rfl⟩
 refine F7 fun B => ?_
 refine An (Cj _ _ []) 66 82 B rfl rfl ?_
 refine Bq fun B => ?_
 obtain rfl := oi_ G
 exact ⟨((W (x79_5 + 1), y_8.at_.Source, y_8.at_.Host, y_8.at_.Machine, y_8.at_.Day, y_8.at_.Confidence, y_8.at_.Kind, y_8.at_.Subject, y_8.at_.Use.Alg, y_8.at_.Use.Bits, y_8.at_.Number, y_8.at_.Text, y_8.l), m5), Nat.lt_succ_self _, hn5, Bc [(0, 0), (1, 58)]⟩
 refine Ju ?_
 replace G := Cm G hn5
 refine B8 10 82 B ?_
 refine A6 ?_
 obtain ⟨y_9, hy_9, G⟩ := Ac G
 refine G2 (rd := [1]) (ps := []) (gs := []) true rfl (S0 _ _ hy_9) rfl rfl (.cons (.row rfl (.head _) rfl) .nil) rfl rfl (by rintro - _ _ ⟨rfl, rfl⟩; exact ⟨by simp [Ir, Kw], List.forall_mem_cons.2 ⟨Up, fun _ h => nomatch h⟩⟩) rfl (by intro h; first | (cases h; done) | exact ⟨_, _, ⟨rfl, rfl⟩, by simp, by simp⟩) ?_
 rintro _ _ ⟨rfl, rfl⟩
 refine Bq fun B => ?_
 refine F3 ?_
 obtain rfl := oi_ G
 exact Ht [(0, 42)] ⟨rfl, rfl⟩
theorem Ll (e : Ao) (at' : Aa) (r : (List Aa) × Int) (G : Fz e at' = some r) : Fn Tryz.prog 13 0 [.agg (Ao.dv e), .agg (Aa.dv at')] [] (fun d' b' => d' = .tup [.row 0, vk r.2] /\ b' = [.row 48 11 (Aq Aa.enc r.1)]) := by
 unfold Fz at G
 refine Fn.of Tryz.func13 rfl rfl rfl fun w0 I ρ0 => ?_
 show B4 _ ⟨w0, I, ρ0, 0, 0, 11⟩ _ _ _
 refine Bk 0 32 A8 fun B => ?_
 refine B8 32 88 B ?_
 refine A6 ?_
 obtain ⟨y, hy, G⟩ := Ac G
 refine G2 (rd := []) (ps := []) (gs := []) false rfl (Mk _ _ _ hy) rfl rfl (.cons (.agg (.cons .val (.cons .val (.cons .val (.cons .val (.cons .val (.cons .val (.cons .val (.cons .val (.cons .val (.cons .val (.cons .val .nil)))))))))))) (.cons (.agg (.cons .val (.cons .val (.cons .val (.cons .sl (.cons .val (.cons .sl (.cons .sl (.cons .sl (.cons .val .nil)))))))))) .nil)) rfl rfl (by intro h; cases h) rfl (by intro h; first | (cases h; done) | exact ⟨_, _, ⟨rfl, rfl⟩, by simp, by simp⟩) ?_
 rintro _ _ ⟨rfl, rfl⟩
 refine Bq fun B => ?_
 refine F3 ?_
 obtain rfl := oi_ G
 exact Ht [(0, 48)] ⟨rfl, rfl⟩
theorem Yf (f : Aa) (r : Cu) (G : Mm f = some r) : Fn Tryz.prog 42 0 [.agg (Aa.dv f)] [] (fun d' b' => d' = .agg (Cu.dv r) /\ b' = []) := by
 unfold Mm at G
 refine Fn.of Tryz.func42 rfl rfl rfl fun w0 I ρ0 => ?_
 show B4 _ ⟨w0, I, ρ0, 0, 0, 16⟩ _ _ _
 refine Bk 0 16 A8 fun B => ?_
 refine B8 16 128 B ?_
 refine A6 ?_
 refine Ro aDd aDx z91 ?_
 exact C6
theorem S4 (x' : Aa) (c0 : (List (Cu × Bool))) (r : Bool) (G : Fx x' c0 = some r) : Fn Tryz.prog 44 0 [.agg (Aa.dv x'), .elt (([.mp (Rw S2 vB c0)] : List C).drop 0)] [] (fun d' b' => d' = .val (.bool r) /\ b' = []) := by
 unfold Fx at G
 refine Fn.of Tryz.func44 rfl rfl rfl fun w0 I ρ0 => ?_
 show B4 _ ⟨w0, I, ρ0, 0, 0, 8⟩ _ _ _
 refine Bk 0 16 A8 fun B => ?_
 refine Ak <| Bv (Cj _ _ []) (by kernel_rfl) [0, 0, 2, 7, 15] 16 56 B rfl rfl (by kernel_rfl) ?_
 refine Cr rfl rfl (Dn aBb (c := .mp (Rw S2 vB c0)) rfl) rfl rfl ?_
 refine A6 ?_
 obtain ⟨y, hy, G⟩ := Ac G
 refine Dz (Yf _ _ hy) ?_
 refine J0 (rd := []) rfl rfl (uC (f := S2) (g := vB) (l := c0) (key := y) (z := false) oW mE zv4 rfl rfl) rfl rfl (fun _ => ⟨_, rfl⟩) ?_
 rintro _ rfl
 exact C6
theorem Ia (s : (List Aa)) (f : Aa -> Option (Bool)) (f_c0 : (List (Cu × Bool))) (hf_f : ∀ (x0 : Aa) (y : Bool), f x0 = some y -> Fn Tryz.prog 44 0 [.agg (Aa.dv x0), .elt (([.mp (Rw S2 vB f_c0)] : List C).drop 0)] [] (fun d' b' => d' = .val (.bool y) /\ b' = [])) (r : Int) (G : A9 s f = some r) : Fn Tryz.prog 69 0 [.sl 11 (Aq Aa.enc s), .clo 44 0 [.elt (([.mp (Rw S2 vB f_c0)] : List C).drop 0)]] [] (fun d' b' => d' = vk r /\ b' = []) := by
 unfold A9 at G
 refine Fn.of Tryz.func69 rfl rfl rfl fun w0 I ρ0 => ?_
 show B4 _ ⟨w0, I, ρ0, 0, 0, 19⟩ _ _ _
 refine Bk 0 8 A8 fun B => ?_
 refine Ak <| Bk 8 32 B fun B => ?_
 refine Ar <| J3 (fun (x8_1 : Int) => mk [(0, .sl 11 (Aq Aa.enc s)), (1, .clo 44 0 [.elt (([.mp (Rw S2 vB f_c0)] : List C).drop 0)]), (7, .val (.int .i64 (s.length : Int))), (8, vk x8_1)] [] 0) G (Bc []) ?_
 rintro x8_1 m1 o1 G hn1
 replace G : A9.l1 s f x8_1 = some o1 := G
 show B4 _ _ _ _ (mk _ _ _)
 unfold A9.l1 at G
 refine Bk 0 8 A8 fun B => ?_
 refine Ak <| C5 rfl G (fun h4 G => ?_) fun h4 G => ?_
 refine Dd ?_
 refine Ak <| Ar <| Bk 8 24 B fun B => ?_
 refine B8 24 72 B ?_
 refine A6 ?_
 obtain ⟨e, he, G⟩ := Ac G
 refine A6 ?_
 refine lH he ?_
 obtain ⟨y, hy, G⟩ := Ac G
 refine B9 (rd := []) (ps := []) (gs := []) false rfl rfl (hf_f e _ hy) rfl rfl (.cons (.agg (.cons .val (.cons .val (.cons .val (.cons .val (.cons .val (.cons .val (.cons .val (.cons .val (.cons .val (.cons .val (.cons .val .nil)))))))))))) (.cons .elt .nil)) rfl rfl (by intro h; cases h) rfl rfl rfl rfl ?_
 refine F7 fun B => ?_
 refine C5 rfl G (fun h7 G => ?_) fun h7 G => ?_
 refine Bk 72 88 B fun B => ?_
 refine F3 ?_
 replace G := Cm G hn1
 exact bE
 refine Dd ?_
 refine An (Cj _ _ []) 72 88 B rfl rfl ?_
 refine Bq fun B => ?_
 obtain rfl := oi_ G
 exact ⟨(W (x8_1 + 1), m1), Nat.lt_succ_self _, hn1, Bc []⟩
 refine Ju ?_
 replace G := Cm G hn1
 refine Bk 8 16 B fun B => ?_
 exact Lz
theorem G9 (s : List Aa) (del : Aa -> Option (Bool)) (del_c0 : (List (Cu × Bool))) (hf_del : ∀ (x0 : Aa) (y : Bool), del x0 = some y -> Fn Tryz.prog 44 0 [.agg (Aa.dv x0), .elt (([.mp (Rw S2 vB del_c0)] : List C).drop 0)] [] (fun d' b' => d' = .val (.bool y) /\ b' = [])) (r : (List Aa)) (G : A4 s del = some r) : Fn Tryz.prog 43 0 [.row 0, .clo 44 0 [.elt (([.mp (Rw S2 vB del_c0)] : List C).drop 0)]] [.row 48 11 (Aq Aa.enc s)] (fun d' b' => d' = .row 0 /\ b' = [.row 48 11 (Aq Aa.enc r)]) := by
 unfold A4 at G
 refine Fn.of Tryz.func43 rfl rfl rfl fun w0 I ρ0 => ?_
 show B4 _ ⟨w0, I, ρ0, 0, 1, 42⟩ _ _ _
 refine Bk 1 9 A8 fun B => ?_
 refine B8 9 41 B ?_
 refine A6 ?_
 obtain ⟨y, hy, G⟩ := Ac G
 refine K9 [0] [] [] true (Ia s del del_c0 hf_del _ hy) ?_
 refine Bq fun B => ?_
 refine Ak <| Bk 41 57 B fun B => ?_
 refine C5 rfl G (fun h4 G => ?_) fun h4 G => ?_
 refine Bk 57 73 B fun B => ?_
 refine F3 ?_
 obtain rfl := oi_ G
 exact Ht [(0, 0)] ⟨rfl, rfl⟩
 refine Dd ?_
 refine Ak <| Bk 57 81 B fun B => ?_
 refine Ar <| J3 (fun ((i_1, j_1, s_1) : Int × Int × List Aa) => mk [(0, .row 0), (1, .clo 44 0 [.elt (([.mp (Rw S2 vB del_c0)] : List C).drop 0)]), (5, vk i_1), (6, vk j_1)] [(0, .row 48 11 (Aq Aa.enc s_1))] 1) G (Bc [(0, 0)]) ?_
 rintro ⟨i_1, j_1, s_1⟩ m1 o1 G hn1
 replace G : A4.l1 del i_1 j_1 s_1 = some o1 := G
 show B4 _ _ _ _ (mk _ _ _)
 unfold A4.l1 at G
 refine Ak <| Bk 1 33 A8 fun B => ?_
 refine C5 rfl G (fun h8 G => ?_) fun h8 G => ?_
 refine Dd ?_
 refine Bw (ι := Int × List Aa) (fun ((i_2, s_2) : Int × List Aa) => mk [(0, .row 0), (1, .clo 44 0 [.elt (([.mp (Rw S2 vB del_c0)] : List C).drop 0)]), (5, vk i_2), (6, vk j_1)] [(0, .row 48 11 (Aq Aa.enc s_2))] 1) (fun ((i_2, s_2) : Int × List Aa) => A4.j2 j_1 i_2 s_2 = some o1) ?_ ?_
 refine Ar <| B8 33 81 B ?_
 refine A6 ?_
 obtain ⟨e, he, G⟩ := Ac G
 refine A6 ?_
 refine J7 he ?_
 refine Bq fun B => ?_
 refine B8 81 113 B ?_
 refine A6 ?_
 obtain ⟨y_2, hy_2, G⟩ := Ac G
 refine B9 (rd := []) (ps := []) (gs := []) false rfl rfl (hf_del e _ hy_2) rfl rfl (.cons (.agg (.cons .val (.cons .val (.cons .val (.cons .val (.cons .val (.cons .val (.cons .val (.cons .val (.cons .val (.cons .val (.cons .val .nil)))))))))))) (.cons .elt .nil)) rfl rfl (by intro h; cases h) rfl rfl rfl rfl ?_
 refine Bq fun B => ?_
 refine C5 rfl G (fun h11 G => ?_) fun h11 G => ?_
 refine B8 113 153 B ?_
 refine A6 ?_
 obtain ⟨e_2, he_2, G⟩ := Ac G
 refine A6 ?_
 refine Sl Jh he_2 (x' := e) ?_
 refine F7 fun B => ?_
 refine An (Cj _ _ []) 153 177 B rfl rfl ?_
 refine Bq fun B => ?_
 exact ⟨(W (i_1 + 1), Cd s_1 ((i_1).toNat) e), G, Bc [(0, 0)]⟩
 refine Dd ?_
 exact ⟨(i_1, s_1), G, Bc [(0, 0)]⟩
 rintro ⟨i_2, s_2⟩ G
 replace G : A4.j2 j_1 i_2 s_2 = some o1 := G
 show B4 _ _ _ _ (mk _ _ _)
 unfold A4.j2 at G
 refine An (Cj _ _ []) 1 25 A8 rfl rfl ?_
 refine Bq fun B => ?_
 obtain rfl := oi_ G
 exact ⟨((i_2, W (j_1 + 1), s_2), m1), Nat.lt_succ_self _, hn1, Bc [(0, 0)]⟩
 refine Ju ?_
 replace G := Cm G hn1
 refine B8 33 65 B ?_
 refine A6 ?_
 obtain ⟨l, hl, G⟩ := Ac G
 refine G4 (rd := [0]) rfl rfl (Vi Qe Aa.enc_len hl) rfl rfl ?_
 obtain ⟨l_2, hl_2, G⟩ := Ac G
 refine J0 (rd := [0]) rfl rfl (jG (f := Aa.enc) (a := (i_1 : Int).toNat) (m := (((s_1.length : Int) : Int).toNat - (i_1 : Int).toNat)) (z0 := (Aa.mk 0 (⟨#[]⟩ : ByteArray) 0 0 0 0 (⟨#[]⟩ : ByteArray) (Aw.mk 0 0) 0 (⟨#[]⟩ : ByteArray))) Qe Aa.enc_len (vA (ck := [none, none, none, none, none, none, none, none, none, none, none]) yU (.cons .int (.cons .str (.cons .int (.cons .int (.cons .int (.cons .int (.cons .str (.cons .int (.cons .int (.cons .int (.cons .str .nil)))))))))))) (.head _) hl_2) rfl rfl (fun _ => ⟨_, rfl⟩) ?_
 rintro _ rfl
 refine F7 fun B => ?_
 refine B8 65 97 B ?_
 refine A6 ?_
 obtain ⟨l_3, hl_3, G⟩ := Ac G
 refine G4 (rd := [0]) rfl rfl (U3 Qe Aa.enc_len hl_3) rfl rfl ?_
 refine Bq fun B => ?_
 refine Ec (σ' := mk [(4, .part 0 (((0 : Int).toNat) * 11) ((i_1 : Int).toNat - (0 : Int).toNat))] [(0, .row 48 11 (Aq Aa.enc l_2))] 1) (Bc [(0, 0)]) ?_
 refine Ec (σ' := mk [(4, .row 0)] [(0, .row 48 11 (Aq Aa.enc (l_2.take ((i_1 : Int).toNat - (0 : Int).toNat))))] 1) (aBy 4 0 Aa.enc_len (Nat.le_trans (Nat.le_add_left _ _) (lW hl_3)) rfl rfl rfl rfl) ?_
 refine F3 ?_
 obtain rfl := oi_ G
 exact Ht [(0, 0)] ⟨rfl, rfl⟩
theorem Jr (e : Ao) (at' : Aa) (l : (List Aa)) (r : (List Aa) × Int) (G : C3 e at' l = some r) : Fn Tryz.prog 15 0 [.agg (Ao.dv e), .agg (Aa.dv at'), .sl 11 (Aq Aa.enc l)] [] (fun d' b' => d' = .tup [.row 0, vk r.2] /\ b' = [.row 48 11 (Aq Aa.enc r.1)]) := by
 unfold C3 at G
 refine Fn.of Tryz.func15 rfl rfl rfl fun w0 I ρ0 => ?_
 show B4 _ ⟨w0, I, ρ0, 0, 0, 36⟩ _ _ _
 refine Bk 0 32 A8 fun B => ?_
 refine B8 32 96 B ?_
 refine A6 ?_
 obtain ⟨y, hy, G⟩ := Ac G
 refine G2 (rd := []) (ps := []) (gs := []) false rfl (Ll _ _ _ hy) rfl rfl (.cons (.agg (.cons .val (.cons .val (.cons .val (.cons .sl (.cons .val (.cons .sl (.cons .sl (.cons .sl (.cons .val .nil)))))))))) (.cons (.agg (.cons .val (.cons .val (.cons .val (.cons .val (.cons .val (.cons .val (.cons .val (.cons .val (.cons .val (.cons .val (.cons .val .nil)))))))))))) .nil)) rfl rfl (by intro h; cases h) rfl (by intro h; first | (cases h; done) | exact ⟨_, _, ⟨rfl, rfl⟩, by simp, by simp⟩) ?_
 rintro _ _ ⟨rfl, rfl⟩
 refine Bq fun B => ?_
 refine Ak <| Bk 96 112 B fun B => ?_
 refine C5 rfl G (fun h4 G => ?_) fun h4 G => ?_
 refine B8 112 136 B ?_
 exact C6
 refine Dd ?_
 refine B8 112 136 B ?_
 refine J0 (rd := []) rfl rfl .makeMap rfl rfl (fun _ => ⟨_, rfl⟩) ?_
 rintro _ rfl
 refine Bq fun B => ?_
 refine Ak <| Bk 136 160 B fun B => ?_
 refine Ar <| J3 (fun ((x25_1, m_1) : Int × (List (Cu × Bool))) => mk [(8, .row 0), (10, .ptr 1 0), (23, .sl 11 (Aq Aa.enc l)), (24, .val (.int .i64 (l.length : Int))), (25, vk x25_1)] [(0, .row 48 11 (Aq Aa.enc y.1)), (1, .box [.row 2] 89), (2, .map (Rw S2 vB m_1))] 3) G ((by exact Ns.lists [(0, 48), (1, 120), (2, 112)] rfl rfl ⟨⟨_, rfl, .row rfl⟩, ⟨_, rfl, .ptr rfl⟩, ⟨_, rfl, .sl _ _⟩, ⟨_, rfl, .val _⟩, ⟨_, rfl, .val _⟩, trivial⟩ ⟨.inl ⟨48, _, rfl, rfl, ⟨rfl, rfl, rfl⟩⟩, .inl ⟨120, _, rfl, rfl, ⟨rfl, .cons (.row rfl) .nil⟩⟩, .inl ⟨112, _, rfl, rfl, rfl⟩, trivial⟩)) ?_
 rintro ⟨x25_1, m_1⟩ m1 o1 G hn1
 replace G : C3.l1 l y x25_1 m_1 = some o1 := G
 show B4 _ _ _ _ (mk _ _ _)
 unfold C3.l1 at G
 refine Bk 3 11 A8 fun B => ?_
 refine Ak <| C5 rfl G (fun h9 G => ?_) fun h9 G => ?_
 refine Dd ?_
 refine Ak <| Ar <| B8 11 43 B ?_
 obtain ⟨e_2, he_2, G⟩ := Ac G
 refine A6 ?_
 refine lH he_2 ?_
 refine Bq fun B => ?_
 refine Bv (Cj _ _ []) (by kernel_rfl) [0, 0, 2, 7] 43 75 B rfl rfl (by kernel_rfl) ?_
 refine A6 ?_
 obtain ⟨y_2, hy_2, G⟩ := Ac G
 refine Dz (Yf _ _ hy_2) ?_
 refine J0 (rd := [2]) rfl rfl (lQ (f := S2) (g := vB) (l := m_1) (key := y_2) (v := true) oW mE rfl rfl (.head _)) rfl rfl (fun _ => ⟨_, rfl⟩) ?_
 rintro _ rfl
 refine F7 fun B => ?_
 refine An (Cj _ _ []) 75 91 B rfl rfl ?_
 refine Bq fun B => ?_
 obtain rfl := oi_ G
 exact ⟨((W (x25_1 + 1), Jo m_1 y_2 true), m1), Nat.lt_succ_self _, hn1, (by exact Ns.lists [(0, 0), (1, 1), (2, 2)] rfl rfl ⟨⟨_, rfl, .row rfl⟩, ⟨_, rfl, .ptr rfl⟩, ⟨_, rfl, .sl _ _⟩, ⟨_, rfl, .val _⟩, ⟨_, rfl, .val _⟩, trivial⟩ ⟨.inl ⟨0, _, rfl, rfl, ⟨rfl, rfl, rfl⟩⟩, .inl ⟨1, _, rfl, rfl, ⟨rfl, .cons (.row rfl) .nil⟩⟩, .inl ⟨2, _, rfl, rfl, rfl⟩, trivial⟩)⟩
 refine Ju ?_
 replace G := Cm G hn1
 refine Ak <| Ec (σ' := mk [(8, .row 0), (10, .ptr 1 0)] [(0, .row 48 11 (Aq Aa.enc y.1)), (1, .box [.mp (Rw S2 vB m_1)] 89)] 2) ((by exact Ns.lists [(0, 0), (1, 1)] rfl rfl ⟨⟨_, rfl, .row rfl⟩, ⟨_, rfl, .ptr rfl⟩, trivial⟩ ⟨.inl ⟨0, _, rfl, rfl, ⟨rfl, rfl, rfl⟩⟩, .inl ⟨1, _, rfl, rfl, ⟨rfl, .cons (.frzM rfl (Ei rfl)) .nil⟩⟩, trivial⟩)) ?_
 refine Ec (σ' := mk [(8, .row 0), (10, .elt (([.mp (Rw S2 vB m_1)] : List C).drop 0))] [(0, .row 48 11 (Aq Aa.enc y.1))] 1) ((by exact Ns.lists [(0, 0)] rfl rfl ⟨⟨_, rfl, .row rfl⟩, ⟨_, rfl, .frzb (ks := [none]) rfl (.cons .mp .nil) (Ei rfl)⟩, trivial⟩ ⟨.inl ⟨0, _, rfl, rfl, ⟨rfl, rfl, rfl⟩⟩, trivial⟩)) ?_
 refine An (Cj _ _ []) 1 41 A8 rfl rfl ?_
 refine A6 ?_
 obtain ⟨y_3, hy_3, G⟩ := Ac G
 refine G2 (rd := [0]) (ps := []) (gs := [0]) false rfl (G9 y.1 (fun x0 => Fx x0 m_1) m_1 (fun x0 y h => S4 x0 m_1 y h) _ hy_3) rfl rfl (.cons (.rowK rfl) (.cons (.clo (.cons .elt .nil)) .nil)) ⟨_, _, _, rfl, .head _, rfl, rfl⟩ rfl (by intro h; cases h) rfl (by intro h; first | (cases h; done) | exact ⟨_, _, ⟨rfl, rfl⟩, by simp, by simp⟩) ?_
 rintro _ _ ⟨rfl, rfl⟩
 refine Bq fun B => ?_
 refine F3 ?_
 obtain rfl := oi_ G
 exact Ht [(0, 17)] ⟨rfl, rfl⟩
theorem T9 (x' : Aa) (c0 : Aa) (c1 : Ao) (r : Bool) (G : F9 x' c0 c1 = some r) : Fn Tryz.prog 40 0 [.agg (Aa.dv x'), .elt (([.int .i64 c0.Source, .str c0.Host, .int .i64 c0.Machine, .int .i64 c0.Day, .int .i64 c0.Confidence, .int .i64 c0.Kind, .str c0.Subject, .int .i64 c0.Use.Alg, .int .i64 c0.Use.Bits, .int .i64 c0.Number, .str c0.Text] : List C).drop 0), .elt (([.str c1.Name, .int .i64 c1.Least, .int .i64 c1.Most, .sl 1 (Aq eI c1.Suites), .bool c1.OwnOrder, .sl 4 (Aq A5.enc c1.Identities), .sl 1 (Aq eI c1.Anchors), .sl 1 (Aq eI c1.Hashes), .bool c1.Fallback] : List C).drop 0)] [] (fun d' b' => d' = .val (.bool r) /\ b' = []) := by
 unfold F9 at G
 refine Fn.of Tryz.func40 rfl rfl rfl fun w0 I ρ0 => ?_
 show B4 _ ⟨w0, I, ρ0, 0, 0, 15⟩ _ _ _
 refine Bk 0 16 A8 fun B => ?_
 refine B8 16 104 B ?_
 refine A6 ?_
 refine Cr rfl rfl (Ou mL jF (by decide) (Nat.le_of_ble_eq_true rfl)) rfl rfl ?_
 refine Cr rfl rfl (Dn jF (c := .int .i64 c0.Day) rfl) rfl rfl ?_
 refine A6 ?_
 rcases Ef G with ⟨h2, G⟩ | ⟨h2, G⟩
 refine Cr (Fm rfl rfl h2) rfl (Dm aCt (cs2 := [.str c1.Name, .int .i64 c1.Least, .int .i64 c1.Most, .sl 1 (Aq eI c1.Suites), .bool c1.OwnOrder, .sl 4 (Aq A5.enc c1.Identities), .sl 1 (Aq eI c1.Anchors), .sl 1 (Aq eI c1.Hashes), .bool c1.Fallback]) rfl (Nat.le_of_ble_eq_true rfl)) rfl rfl ?_
 refine A6 ?_
 obtain ⟨y, hy, G⟩ := Ac G
 refine Dz (Js _ _ _ hy) ?_
 exact C6
 exact C6
theorem Gr (s : (List Aa)) (f : Aa -> Option (Bool)) (f_c0 : Aa) (f_c1 : Ao) (hf_f : ∀ (x0 : Aa) (y : Bool), f x0 = some y -> Fn Tryz.prog 40 0 [.agg (Aa.dv x0), .elt (([.int .i64 f_c0.Source, .str f_c0.Host, .int .i64 f_c0.Machine, .int .i64 f_c0.Day, .int .i64 f_c0.Confidence, .int .i64 f_c0.Kind, .str f_c0.Subject, .int .i64 f_c0.Use.Alg, .int .i64 f_c0.Use.Bits, .int .i64 f_c0.Number, .str f_c0.Text] : List C).drop 0), .elt (([.str f_c1.Name, .int .i64 f_c1.Least, .int .i64 f_c1.Most, .sl 1 (Aq eI f_c1.Suites), .bool f_c1.OwnOrder, .sl 4 (Aq A5.enc f_c1.Identities), .sl 1 (Aq eI f_c1.Anchors), .sl 1 (Aq eI f_c1.Hashes), .bool f_c1.Fallback] : List C).drop 0)] [] (fun d' b' => d' = .val (.bool y) /\ b' = [])) (r : Int) (G : A9 s f = some r) : Fn Tryz.prog 69 0 [.sl 11 (Aq Aa.enc s), .clo 40 0 [.elt (([.int .i64 f_c0.Source, .str f_c0.Host, .int .i64 f_c0.Machine, .int .i64 f_c0.Day, .int .i64 f_c0.Confidence, .int .i64 f_c0.Kind, .str f_c0.Subject, .int .i64 f_c0.Use.Alg, .int .i64 f_c0.Use.Bits, .int .i64 f_c0.Number, .str f_c0.Text] : List C).drop 0), .elt (([.str f_c1.Name, .int .i64 f_c1.Least, .int .i64 f_c1.Most, .sl 1 (Aq eI f_c1.Suites), .bool f_c1.OwnOrder, .sl 4 (Aq A5.enc f_c1.Identities), .sl 1 (Aq eI f_c1.Anchors), .sl 1 (Aq eI f_c1.Hashes), .bool f_c1.Fallback] : List C).drop 0)]] [] (fun d' b' => d' = vk r /\ b' = []) := by
 unfold A9 at G
 refine Fn.of Tryz.func69 rfl rfl rfl fun w0 I ρ0 => ?_
 show B4 _ ⟨w0, I, ρ0, 0, 0, 19⟩ _ _ _
 refine Bk 0 8 A8 fun B => ?_
 refine Ak <| Bk 8 32 B fun B => ?_
 refine Ar <| J3 (fun (x8_1 : Int) => mk [(0, .sl 11 (Aq Aa.enc s)), (1, .clo 40 0 [.elt (([.int .i64 f_c0.Source, .str f_c0.Host, .int .i64 f_c0.Machine, .int .i64 f_c0.Day, .int .i64 f_c0.Confidence, .int .i64 f_c0.Kind, .str f_c0.Subject, .int .i64 f_c0.Use.Alg, .int .i64 f_c0.Use.Bits, .int .i64 f_c0.Number, .str f_c0.Text] : List C).drop 0), .elt (([.str f_c1.Name, .int .i64 f_c1.Least, .int .i64 f_c1.Most, .sl 1 (Aq eI f_c1.Suites), .bool f_c1.OwnOrder, .sl 4 (Aq A5.enc f_c1.Identities), .sl 1 (Aq eI f_c1.Anchors), .sl 1 (Aq eI f_c1.Hashes), .bool f_c1.Fallback] : List C).drop 0)]), (7, .val (.int .i64 (s.length : Int))), (8, vk x8_1)] [] 0) G (Bc []) ?_
 rintro x8_1 m1 o1 G hn1
 replace G : A9.l1 s f x8_1 = some o1 := G
 show B4 _ _ _ _ (mk _ _ _)
 unfold A9.l1 at G
 refine Bk 0 8 A8 fun B => ?_
 refine Ak <| C5 rfl G (fun h4 G => ?_) fun h4 G => ?_
 refine Dd ?_
 refine Ak <| Ar <| Bk 8 24 B fun B => ?_
 refine B8 24 72 B ?_
 refine A6 ?_
 obtain ⟨e, he, G⟩ := Ac G
 refine A6 ?_
 refine lH he ?_
 obtain ⟨y, hy, G⟩ := Ac G
 refine B9 (rd := []) (ps := []) (gs := []) false rfl rfl (hf_f e _ hy) rfl rfl (.cons (.agg (.cons .val (.cons .val (.cons .val (.cons .val (.cons .val (.cons .val (.cons .val (.cons .val (.cons .val (.cons .val (.cons .val .nil)))))))))))) (.cons .elt (.cons .elt .nil))) rfl rfl (by intro h; cases h) rfl rfl rfl rfl ?_
 refine F7 fun B => ?_
 refine C5 rfl G (fun h7 G => ?_) fun h7 G => ?_
 refine Bk 72 88 B fun B => ?_
 refine F3 ?_
 replace G := Cm G hn1
 exact bE
 refine Dd ?_
 refine An (Cj _ _ []) 72 88 B rfl rfl ?_
 refine Bq fun B => ?_
 obtain rfl := oi_ G
 exact ⟨(W (x8_1 + 1), m1), Nat.lt_succ_self _, hn1, Bc []⟩
 refine Ju ?_
 replace G := Cm G hn1
 refine Bk 8 16 B fun B => ?_
 exact Lz
theorem F5 (s : (List Aa)) (f : Aa -> Option (Bool)) (f_c0 : Aa) (f_c1 : Ao) (hf_f : ∀ (x0 : Aa) (y : Bool), f x0 = some y -> Fn Tryz.prog 40 0 [.agg (Aa.dv x0), .elt (([.int .i64 f_c0.Source, .str f_c0.Host, .int .i64 f_c0.Machine, .int .i64 f_c0.Day, .int .i64 f_c0.Confidence, .int .i64 f_c0.Kind, .str f_c0.Subject, .int .i64 f_c0.Use.Alg, .int .i64 f_c0.Use.Bits, .int .i64 f_c0.Number, .str f_c0.Text] : List C).drop 0), .elt (([.str f_c1.Name, .int .i64 f_c1.Least, .int .i64 f_c1.Most, .sl 1 (Aq eI f_c1.Suites), .bool f_c1.OwnOrder, .sl 4 (Aq A5.enc f_c1.Identities), .sl 1 (Aq eI f_c1.Anchors), .sl 1 (Aq eI f_c1.Hashes), .bool f_c1.Fallback] : List C).drop 0)] [] (fun d' b' => d' = .val (.bool y) /\ b' = [])) (r : Bool) (G : Dl s f = some r) : Fn Tryz.prog 41 0 [.sl 11 (Aq Aa.enc s), .clo 40 0 [.elt (([.int .i64 f_c0.Source, .str f_c0.Host, .int .i64 f_c0.Machine, .int .i64 f_c0.Day, .int .i64 f_c0.Confidence, .int .i64 f_c0.Kind, .str f_c0.Subject, .int .i64 f_c0.Use.Alg, .int .i64 f_c0.Use.Bits, .int .i64 f_c0.Number, .str f_c0.Text] : List C).drop 0), .elt (([.str f_c1.Name, .int .i64 f_c1.Least, .int .i64 f_c1.Most, .sl 1 (Aq eI f_c1.Suites), .bool f_c1.OwnOrder, .sl 4 (Aq A5.enc f_c1.Identities), .sl 1 (Aq eI f_c1.Anchors), .sl 1 (Aq eI f_c1.Hashes), .bool f_c1.Fallback] : List C).drop 0)]] [] (fun d' b' => d' = .val (.bool r) /\ b' = []) := by
 unfold Dl at G
 refine Fn.of Tryz.func41 rfl rfl rfl fun w0 I ρ0 => ?_
 show B4 _ ⟨w0, I, ρ0, 0, 0, 9⟩ _ _ _
 refine Bk 0 8 A8 fun B => ?_
 refine B8 8 48 B ?_
 refine A6 ?_
 obtain ⟨y, hy, G⟩ := Ac G
 refine Dz (Gr s f f_c0 f_c1 hf_f _ hy) ?_
 exact C6
theorem W7 (e : Ao) (at' : Aa) (l : (List Aa)) (r : Bool × Int) (G : Je e at' l = some r) : Fn Tryz.prog 14 0 [.agg (Ao.dv e), .agg (Aa.dv at'), .sl 11 (Aq Aa.enc l)] [] (fun d' b' => d' = .tup [.val (.bool r.1), vk r.2] /\ b' = []) := by
 unfold Je at G
 refine Fn.of Tryz.func14 rfl rfl rfl fun w0 I ρ0 => ?_
 show B4 _ ⟨w0, I, ρ0, 0, 0, 31⟩ _ _ _
 refine Bk 0 32 A8 fun B => ?_
 refine B8 32 104 B ?_
 refine A6 ?_
 obtain ⟨y, hy, G⟩ := Ac G
 refine G2 (rd := []) (ps := []) (gs := []) false rfl (Jr _ _ _ _ hy) rfl rfl (.cons (.agg (.cons .val (.cons .val (.cons .val (.cons .sl (.cons .val (.cons .sl (.cons .sl (.cons .sl (.cons .val .nil)))))))))) (.cons (.agg (.cons .val (.cons .val (.cons .val (.cons .val (.cons .val (.cons .val (.cons .val (.cons .val (.cons .val (.cons .val (.cons .val .nil)))))))))))) (.cons .sl .nil))) rfl rfl (by intro h; cases h) rfl (by intro h; first | (cases h; done) | exact ⟨_, _, ⟨rfl, rfl⟩, by simp, by simp⟩) ?_
 rintro _ _ ⟨rfl, rfl⟩
 refine Bq fun B => ?_
 refine Ak <| Bk 104 120 B fun B => ?_
 refine C5 rfl G (fun h4 G => ?_) fun h4 G => ?_
 refine B8 120 144 B ?_
 exact C6
 refine Dd ?_
 refine Ak <| Ec (σ' := mk [(2, .sl 11 (Aq Aa.enc l)), (3, .elt (([.str e.Name, .int .i64 e.Least, .int .i64 e.Most, .sl 1 (Aq eI e.Suites), .bool e.OwnOrder, .sl 4 (Aq A5.enc e.Identities), .sl 1 (Aq eI e.Anchors), .sl 1 (Aq eI e.Hashes), .bool e.Fallback] : List C).drop 0)), (4, .elt (([.int .i64 at'.Source, .str at'.Host, .int .i64 at'.Machine, .int .i64 at'.Day, .int .i64 at'.Confidence, .int .i64 at'.Kind, .str at'.Subject, .int .i64 at'.Use.Alg, .int .i64 at'.Use.Bits, .int .i64 at'.Number, .str at'.Text] : List C).drop 0)), (8, .row 0)] [(0, .row 48 11 (Aq Aa.enc y.1))] 1) ((by exact Ns.lists [(0, 56)] rfl rfl ⟨⟨_, rfl, .sl _ _⟩, ⟨_, rfl, .frzb (ks := [none, none, none, some 1, none, some 4, some 1, some 1, none]) rfl (.cons .str (.cons .int (.cons .int (.cons .sl (.cons .bool (.cons .sl (.cons .sl (.cons .sl (.cons .bool .nil))))))))) (Ei rfl)⟩, ⟨_, rfl, .frzb (ks := [none, none, none, none, none, none, none, none, none, none, none]) rfl (.cons .int (.cons .str (.cons .int (.cons .int (.cons .int (.cons .int (.cons .str (.cons .int (.cons .int (.cons .int (.cons .str .nil))))))))))) (Ei rfl)⟩, ⟨_, rfl, .row rfl⟩, trivial⟩ ⟨.inl ⟨56, _, rfl, rfl, ⟨rfl, rfl, rfl⟩⟩, trivial⟩)) ?_
 refine An (Cj _ _ []) 1 17 A8 rfl rfl ?_
 refine Bq fun B => ?_
 refine B8 17 105 B ?_
 refine A6 ?_
 rcases Ef G with ⟨h7, G⟩ | ⟨h7, G⟩
 refine A6 ?_
 obtain ⟨y_2, hy_2, G⟩ := Ac G
 refine Dz (F5 l (fun x0 => F9 x0 at' e) at' e (fun x0 y h => T9 x0 at' e y h) _ hy_2) ?_
 exact C6
 exact C6
theorem Qt (t : (List Int)) (mask : Int) (r : Bool) (G : Ay t mask = some r) : Fn Tryz.prog 4 0 [.sl 1 (Aq eI t), .val (.int .u16 mask)] [] (fun d' b' => d' = .val (.bool r) /\ b' = []) := by
 unfold Ay at G
 refine Fn.of Tryz.func4 rfl rfl rfl fun w0 I ρ0 => ?_
 show B4 _ ⟨w0, I, ρ0, 0, 0, 132⟩ _ _ _
 refine Bk 0 8 A8 fun B => ?_
 refine Ak <| B8 8 32 B ?_
 refine A6 ?_
 obtain ⟨y, hy, G⟩ := Ac G
 refine Dz (aN _ _ hy) ?_
 refine Bq fun B => ?_
 refine C5 rfl G (fun h3 G => ?_) fun h3 G => ?_
 refine B8 32 48 B ?_
 obtain ⟨y_2, hy_2, G⟩ := Ac G
 refine Dz (Sj _ hy_2) ?_
 exact C6
 refine Dd ?_
 refine B8 32 96 B ?_
 refine A6 ?_
 obtain ⟨y_3, hy_3, G⟩ := Ac G
 refine G2 (rd := []) (ps := []) (gs := []) false rfl (cF _ _ hy_3) rfl rfl (.cons .sl .nil) rfl rfl (by intro h; cases h) rfl (by intro h; first | (cases h; done) | exact ⟨_, _, ⟨rfl, rfl⟩, by simp, by simp⟩) ?_
 rintro _ _ ⟨rfl, rfl⟩
 obtain ⟨y_4, hy_4, G⟩ := Ac G
 refine K9 [40] [40] [] false (aH _ _ hy_4) ?_
 refine A6 ?_
 obtain ⟨e, he, G⟩ := Ac G
 refine A6 ?_
 refine lH he ?_
 refine Bq fun B => ?_
 refine B8 96 136 B ?_
 refine A6 ?_
 obtain ⟨y_5, hy_5, G⟩ := Ac G
 refine Dz (Zl _ _ _ hy_5) ?_
 refine Bq fun B => ?_
 refine B8 136 200 B ?_
 refine A6 ?_
 obtain ⟨y_6, hy_6, G⟩ := Ac G
 refine G2 (rd := []) (ps := []) (gs := []) false rfl (Ll _ _ _ hy_6) rfl rfl (.cons (.agg (.cons .val (.cons .val (.cons .val (.cons .sl (.cons .val (.cons .sl (.cons .sl (.cons .sl (.cons .val .nil)))))))))) (.cons (.agg (.cons .val (.cons .val (.cons .val (.cons .val (.cons .val (.cons .val (.cons .val (.cons .val (.cons .val (.cons .val (.cons .val .nil)))))))))))) .nil)) rfl rfl (by intro h; cases h) rfl (by intro h; first | (cases h; done) | exact ⟨_, _, ⟨rfl, rfl⟩, by simp, by simp⟩) ?_
 rintro _ _ ⟨rfl, rfl⟩
 refine Bq fun B => ?_
 refine Ak <| Bw (ι := Bool) (fun (x45_1 : Bool) => mk [(1, .val (.int .u16 mask)), (5, .ptr 0 0), (6, .ptr 1 0), (7, .row 2), (45, .val (.bool x45_1))] [(0, .box (Ao.dv e) 43), (1, .box (Aa.dv y_5) 48), (2, .row 48 11 (Aq Aa.enc y_6.1))] 3) (fun (x45_1 : Bool) => Ay.j1 mask e y_5 y_6 x45_1 = some r) ?_ ?_
 refine An (Cj _ _ []) 200 256 B rfl rfl ?_
 refine A6 ?_
 rcases Ef G with ⟨h8, G⟩ | ⟨h8, G⟩
 refine Bq fun B => ?_
 exact ⟨true, G, Bc [(0, 80), (1, 120), (2, 152)]⟩
 refine Bq fun B => ?_
 exact ⟨decide ((y_6.1.length : Int) = 0), G, Bc [(0, 80), (1, 120), (2, 152)]⟩
 rintro x45_1 G
 replace G : Ay.j1 mask e y_5 y_6 x45_1 = some r := G
 show B4 _ _ _ _ (mk _ _ _)
 unfold Ay.j1 at G
 refine C5 rfl G (fun h11 G => ?_) fun h11 G => ?_
 refine B8 3 11 A8 ?_
 exact C6
 refine Dd ?_
 refine Bk 3 11 A8 fun B => ?_
 refine Bk 11 19 B fun B => ?_
 refine Ak <| Bk 19 43 B fun B => ?_
 refine Ar <| J3 (fun ((n_2, x48_2, some_2) : Int × Int × List Aa) => mk [(1, .val (.int .u16 mask)), (5, .ptr 0 0), (6, .ptr 1 0), (7, .row 2), (9, .row 3), (10, vk n_2), (46, .row 2), (47, .val (.int .i64 (y_6.1.length : Int))), (48, vk x48_2)] [(0, .box (Ao.dv e) 43), (1, .box (Aa.dv y_5) 48), (2, .row 48 11 (Aq Aa.enc y_6.1)), (3, .row 48 11 (Aq Aa.enc some_2))] 4) G (Bc [(0, 0), (1, 1), (2, 2)]) ?_
 rintro ⟨n_2, x48_2, some_2⟩ m2 o2 G hn2
 replace G : Ay.l2 mask e y_5 y_6 n_2 x48_2 some_2 = some o2 := G
 show B4 _ _ _ _ (mk _ _ _)
 unfold Ay.l2 at G
 refine Bk 4 12 A8 fun B => ?_
 refine Ak <| C5 rfl G (fun h17 G => ?_) fun h17 G => ?_
 refine Dd ?_
 refine Bw (ι := Int × List Aa) (fun ((n_3, some_3) : Int × List Aa) => mk [(1, .val (.int .u16 mask)), (5, .ptr 0 0), (6, .ptr 1 0), (7, .row 2), (9, .row 3), (10, vk n_3), (46, .row 2), (47, .val (.int .i64 (y_6.1.length : Int))), (48, vk x48_2)] [(0, .box (Ao.dv e) 43), (1, .box (Aa.dv y_5) 48), (2, .row 48 11 (Aq Aa.enc y_6.1)), (3, .row 48 11 (Aq Aa.enc some_3))] 4) (fun ((n_3, some_3) : Int × List Aa) => Ay.j3 x48_2 n_3 some_3 = some o2) ?_ ?_
 refine Ar <| B8 12 60 B ?_
 refine A6 ?_
 obtain ⟨e_2, he_2, G⟩ := Ac G
 refine A6 ?_
 refine J7 he_2 ?_
 refine Bq fun B => ?_
 refine B8 60 108 B ?_
 refine A6 ?_
 obtain ⟨q, hq, G⟩ := Ac G
 refine Cr rfl rfl (Y5 hq) rfl rfl ?_
 obtain ⟨q_2, hq_2, G⟩ := Ac G
 refine Cr rfl rfl (Sn hq_2) rfl rfl ?_
 refine Cr rfl rfl mR rfl rfl ?_
 refine Bq fun B => ?_
 refine C5 rfl G (fun h20 G => ?_) fun h20 G => ?_
 refine Bk 108 172 B fun B => ?_
 refine An (Cj _ _ []) 172 212 B rfl rfl ?_
 refine A6 ?_
 refine Ka Qe yU Jh ([(Aa.mk 7 e_2.Host 7 e_2.Day (W (1 + x48_2)) e_2.Kind e_2.Subject e_2.Use e_2.Number e_2.Text)] : List Aa) Aa.enc ?_
 obtain ⟨l, hl, G⟩ := Ac G
 refine G4 (rd := [3, 188]) rfl rfl (Fb Qe Aa.enc_len .row rfl .row rfl hl rfl) rfl rfl ?_
 refine Bq fun B => ?_
 exact ⟨(n_2, l), G, Bc [(0, 0), (1, 1), (2, 2), (3, 196)]⟩
 refine An (Cj _ _ []) 108 132 B rfl rfl ?_
 refine Bq fun B => ?_
 exact ⟨(W (n_2 + 1), some_2), G, Bc [(0, 0), (1, 1), (2, 2), (3, 3)]⟩
 rintro ⟨n_3, some_3⟩ G
 replace G : Ay.j3 x48_2 n_3 some_3 = some o2 := G
 show B4 _ _ _ _ (mk _ _ _)
 unfold Ay.j3 at G
 refine An (Cj _ _ []) 4 20 A8 rfl rfl ?_
 refine Bq fun B => ?_
 obtain rfl := oi_ G
 exact ⟨((n_3, W (x48_2 + 1), some_3), m2), Nat.lt_succ_self _, hn2, Bc [(0, 0), (1, 1), (2, 2), (3, 3)]⟩
 refine Ju ?_
 replace G := Cm G hn2
 refine B8 12 84 B ?_
 refine A6 ?_
 obtain ⟨y_7, hy_7, G⟩ := Ac G
 refine G2 (rd := [3]) (ps := []) (gs := []) true rfl (Jr _ _ _ _ hy_7) rfl rfl (.cons (.agg (.cons .val (.cons .val (.cons .val (.cons .sl (.cons .val (.cons .sl (.cons .sl (.cons .sl (.cons .val .nil)))))))))) (.cons (.agg (.cons .val (.cons .val (.cons .val (.cons .val (.cons .val (.cons .val (.cons .val (.cons .val (.cons .val (.cons .val (.cons .val .nil)))))))))))) (.cons (.row rfl (.head _) rfl) .nil))) rfl rfl (by rintro - _ _ ⟨rfl, rfl⟩; exact ⟨by simp [Ir, Kw], List.forall_mem_cons.2 ⟨Up, fun _ h => nomatch h⟩⟩) rfl (by intro h; first | (cases h; done) | exact ⟨_, _, ⟨rfl, rfl⟩, by simp, by simp⟩) ?_
 rintro _ _ ⟨rfl, rfl⟩
 refine Bq fun B => ?_
 refine B8 84 156 B ?_
 refine A6 ?_
 obtain ⟨y_8, hy_8, G⟩ := Ac G
 refine K9 [3] [] [] true (W7 _ _ _ _ hy_8) ?_
 refine Bq fun B => ?_
 refine Ak <| Bw (ι := Bool) (fun (x102_4 : Bool) => mk [(5, .ptr 0 0), (6, .ptr 1 0), (7, .row 2), (9, .row 3), (102, .val (.bool x102_4))] [(0, .box (Ao.dv e) 43), (1, .box (Aa.dv y_5) 48), (2, .row 48 11 (Aq Aa.enc y_6.1)), (3, .row 48 11 (Aq Aa.enc some_2))] 4) (fun (x102_4 : Bool) => Ay.j4 e y_5 y_6 some_2 x102_4 = some r) ?_ ?_
 refine An (Cj _ _ []) 156 300 B rfl rfl ?_
 refine A6 ?_
 rcases Ef G with ⟨h27, G⟩ | ⟨h27, G⟩
 refine Bq fun B => ?_
 exact ⟨true, G, Bc [(0, 0), (1, 1), (2, 2), (3, 3)]⟩
 refine A6 ?_
 rcases Ef G with ⟨h29, G⟩ | ⟨h29, G⟩
 refine Bq fun B => ?_
 exact ⟨true, G, Bc [(0, 0), (1, 1), (2, 2), (3, 3)]⟩
 refine A6 ?_
 rcases Ef G with ⟨h31, G⟩ | ⟨h31, G⟩
 refine Bq fun B => ?_
 exact ⟨true, G, Bc [(0, 0), (1, 1), (2, 2), (3, 3)]⟩
 refine A6 ?_
 refine Cr (Fm rfl rfl h31) rfl (mX aA3) rfl rfl ?_
 refine Bq fun B => ?_
 exact ⟨!decide (y_8.1 = (decide (n_2 = 0))), G, Bc [(0, 0), (1, 1), (2, 2), (3, 3)]⟩
 rintro x102_4 G
 replace G : Ay.j4 e y_5 y_6 some_2 x102_4 = some r := G
 show B4 _ _ _ _ (mk _ _ _)
 unfold Ay.j4 at G
 refine C5 rfl G (fun h34 G => ?_) fun h34 G => ?_
 refine B8 4 12 A8 ?_
 exact C6
 refine Dd ?_
 refine Ak <| Bk 4 28 A8 fun B => ?_
 refine Ar <| J3 (fun ((x105_5, some_5) : Int × List Aa) => mk [(5, .ptr 0 0), (6, .ptr 1 0), (7, .row 2), (9, .row 3), (104, .val (.int .i64 (some_2.length : Int))), (105, vk x105_5)] [(0, .box (Ao.dv e) 43), (1, .box (Aa.dv y_5) 48), (2, .row 48 11 (Aq Aa.enc y_6.1)), (3, .row 48 11 (Aq Aa.enc some_5))] 4) G (Bc [(0, 0), (1, 1), (2, 2), (3, 3)]) ?_
 rintro ⟨x105_5, some_5⟩ m5 o5 G hn5
 replace G : Ay.l5 e y_5 y_6 some_2 x105_5 some_5 = some o5 := G
 show B4 _ _ _ _ (mk _ _ _)
 unfold Ay.l5 at G
 refine Bk 4 12 A8 fun B => ?_
 refine Ak <| C5 rfl G (fun h38 G => ?_) fun h38 G => ?_
 refine Dd ?_
 refine Ak <| Ar <| Bk 12 28 B fun B => ?_
 refine An (Cj _ _ []) 28 68 B rfl rfl ?_
 refine A6 ?_
 obtain ⟨e_3, he_3, G⟩ := Ac G
 refine A6 ?_
 refine G4 (rd := [3]) rfl rfl (X1 jF rfl (Ek Aa.enc_len (Cq he_3) (o := 3) (m := 1) (by decide) rfl) Mi (cs' := [.int .i64 5]) (.cons .int .nil) (Su Aa.enc_len (Cq he_3) (o := 3) (x' := (Aa.mk e_3.Source e_3.Host e_3.Machine 5 e_3.Confidence e_3.Kind e_3.Subject e_3.Use e_3.Number e_3.Text)) (Nat.le_of_ble_eq_true rfl) rfl rfl)) rfl rfl ?_
 refine F7 fun B => ?_
 refine An (Cj _ _ []) 68 84 B rfl rfl ?_
 refine Bq fun B => ?_
 obtain rfl := oi_ G
 exact ⟨((W (x105_5 + 1), Cd some_5 ((x105_5).toNat) (Aa.mk e_3.Source e_3.Host e_3.Machine 5 e_3.Confidence e_3.Kind e_3.Subject e_3.Use e_3.Number e_3.Text)), m5), Nat.lt_succ_self _, hn5, Bc [(0, 0), (1, 1), (2, 2), (3, 3)]⟩
 refine Ju ?_
 replace G := Cm G hn5
 refine B8 12 84 B ?_
 refine A6 ?_
 obtain ⟨y_9, hy_9, G⟩ := Ac G
 refine G2 (rd := [3]) (ps := []) (gs := []) true rfl (Jr _ _ _ _ hy_9) rfl rfl (.cons (.agg (.cons .val (.cons .val (.cons .val (.cons .sl (.cons .val (.cons .sl (.cons .sl (.cons .sl (.cons .val .nil)))))))))) (.cons (.agg (.cons .val (.cons .val (.cons .val (.cons .val (.cons .val (.cons .val (.cons .val (.cons .val (.cons .val (.cons .val (.cons .val .nil)))))))))))) (.cons (.row rfl (.head _) rfl) .nil))) rfl rfl (by rintro - _ _ ⟨rfl, rfl⟩; exact ⟨by simp [Ir, Kw], List.forall_mem_cons.2 ⟨Up, fun _ h => nomatch h⟩⟩) rfl (by intro h; first | (cases h; done) | exact ⟨_, _, ⟨rfl, rfl⟩, by simp, by simp⟩) ?_
 rintro _ _ ⟨rfl, rfl⟩
 refine Bq fun B => ?_
 refine B8 84 188 B ?_
 refine A6 ?_
 rcases Ef G with ⟨h43, G⟩ | ⟨h43, G⟩
 refine A6 ?_
 rcases Ef G with ⟨h44, G⟩ | ⟨h44, G⟩
 obtain ⟨y_10, hy_10, G⟩ := Ac G
 refine Dz (Sj _ hy_10) ?_
 exact C6
 exact C6
 exact C6
end Go.Proofs.YtkoflhimdenjaaaGreat
