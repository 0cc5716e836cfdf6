import Derived.Test.YtkoflhimdenjaaaGreatT1
import Derived.Test.YtkoflhimdenjaaaGreatA1
import Derived.Test.YtkoflhimdenjaaaGreatA3
set_option linter.unusedVariables false
set_option linter.unusedSimpArgs false
set_option maxRecDepth 100000
set_option maxHeartbeats 1600000
namespace Go.Proofs.YtkoflhimdenjaaaGreat
open Go.RowKit
theorem T3 (alg : Int) (r : Bu × Bool) (G : Dv alg = some r) : Fn Tryz.prog 179 0 [vk alg] [] (fun d' b' => d' = .tup [.agg (Bu.dv r.1), .val (.bool r.2)] /\ b' = []) := by
 unfold Dv at G
 refine Fn.of Tryz.func179 rfl rfl rfl fun w0 I ρ0 => ?_
 show B4 _ ⟨w0, I, ρ0, 0, 0, 14⟩ _ _ _
 refine Bk 0 16 A8 fun B => ?_
 refine Ak <| Bw (ι := Bool) (fun (x9_1 : Bool) => mk [(0, vk alg), (2, .ptr 0 0), (9, .val (.bool x9_1))] [(0, .box [.val (.string (⟨#[]⟩ : ByteArray)), .val (.int .i64 0), .val (.int .i64 0), .val (.slice none 0 0), .val (.slice none 0 0)] 215)] 1) (fun (x9_1 : Bool) => Dv.j1 alg x9_1 = some r) ?_ ?_
 refine An (Cj _ _ []) 16 64 B rfl rfl ?_
 refine A6 ?_
 rcases Ef G with ⟨h2, G⟩ | ⟨h2, G⟩
 refine Bq fun B => ?_
 exact ⟨true, G, Bc [(0, 0)]⟩
 refine Bq fun B => ?_
 exact ⟨decide (22 < alg), G, Bc [(0, 0)]⟩
 rintro x9_1 G
 replace G : Dv.j1 alg x9_1 = some r := G
 show B4 _ _ _ _ (mk _ _ _)
 unfold Dv.j1 at G
 refine C5 rfl G (fun h5 G => ?_) fun h5 G => ?_
 refine B8 1 25 A8 ?_
 refine Ro Fu Jl L8 ?_
 exact C6
 refine Dd ?_
 refine B8 1 41 A8 ?_
 obtain ⟨y, hy, G⟩ := Ac G
 refine Dz (X3 _ hy) ?_
 refine A6 ?_
 obtain ⟨e, he, G⟩ := Ac G
 refine Cr rfl rfl (Y4 (f := Bu.enc) (L := (aB3 23 y)) mS uO Bu.enc_len rfl rfl he (d2 := [ws e.name, vk e.kind, vk e.way, .sl 1 (Aq eI e.sizes), .sl 1 (Aq eI e.strengths)]) rfl) rfl rfl ?_
 exact C6
theorem T8 (bits : Int) (r : Int) (G : Ct bits = some r) : Fn Tryz.prog 195 0 [vk bits] [] (fun d' b' => d' = vk r /\ b' = []) := by
 unfold Ct at G
 refine Fn.of Tryz.func195 rfl rfl rfl fun w0 I ρ0 => ?_
 show B4 _ ⟨w0, I, ρ0, 0, 0, 21⟩ _ _ _
 refine Bk 0 8 A8 fun B => ?_
 refine Ak <| B8 8 64 B ?_
 refine Cr rfl rfl (.buildArr (sz := 1) (r := [.val (.int .i64 1024), .val (.int .i64 56)]) Sv (by kernel_rfl) kI (by kernel_rfl) rfl) rfl rfl ?_
 refine Cr rfl rfl (.buildArr (sz := 1) (r := [.val (.int .i64 2048), .val (.int .i64 80)]) Sv (by kernel_rfl) kI (by kernel_rfl) rfl) rfl rfl ?_
 refine Cr rfl rfl (.buildArr (sz := 1) (r := [.val (.int .i64 3072), .val (.int .i64 112)]) Sv (by kernel_rfl) kI (by kernel_rfl) rfl) rfl rfl ?_
 refine Cr rfl rfl (.buildArr (sz := 1) (r := [.val (.int .i64 7680), .val (.int .i64 128)]) Sv (by kernel_rfl) kI (by kernel_rfl) rfl) rfl rfl ?_
 refine Cr rfl rfl (.buildArr (sz := 1) (r := [.val (.int .i64 15360), .val (.int .i64 192)]) Sv (by kernel_rfl) kI (by kernel_rfl) rfl) rfl rfl ?_
 refine Cr rfl rfl (.buildArr (sz := 2) (r := [.val (.int .i64 1024), .val (.int .i64 56), .val (.int .i64 2048), .val (.int .i64 80), .val (.int .i64 3072), .val (.int .i64 112), .val (.int .i64 7680), .val (.int .i64 128), .val (.int .i64 15360), .val (.int .i64 192)]) nJ (by kernel_rfl) aAy (by kernel_rfl) rfl) rfl rfl ?_
 refine Bq fun B => ?_
 refine Ar <| J3 (fun (x11_1 : Int) => mk [(0, vk bits), (10, .agg [.val (.int .i64 1024), .val (.int .i64 56), .val (.int .i64 2048), .val (.int .i64 80), .val (.int .i64 3072), .val (.int .i64 112), .val (.int .i64 7680), .val (.int .i64 128), .val (.int .i64 15360), .val (.int .i64 192)]), (11, vk x11_1)] [] 0) G (Bc []) ?_
 rintro x11_1 m1 o1 G hn1
 replace G : Ct.l1 bits x11_1 = some o1 := G
 show B4 _ _ _ _ (mk _ _ _)
 unfold Ct.l1 at G
 refine Bk 0 8 A8 fun B => ?_
 refine Ak <| C5 rfl G (fun h4 G => ?_) fun h4 G => ?_
 refine Dd ?_
 refine Ak <| Ar <| B8 8 32 B ?_
 obtain ⟨e, he, G⟩ := Ac G
 refine Cr rfl rfl (Y4 (f := (eA 2 eI)) (L := ([([1024, 56] : List Int), ([2048, 80] : List Int), ([3072, 112] : List Int), ([7680, 128] : List Int), ([15360, 192] : List Int)] : List (List Int))) nJ uK (wW Xu) rfl rfl he (d2 := [.val (.int .i64 (e[0]!)), .val (.int .i64 (e[1]!))]) rfl) rfl rfl ?_
 refine Bq fun B => ?_
 refine B8 32 64 B ?_
 refine A6 ?_
 refine G4 (rd := [16]) rfl rfl (.idxA (j := 0) Sv jF rfl (by decide)) rfl rfl ?_
 refine Bq fun B => ?_
 refine C5 rfl G (fun h7 G => ?_) fun h7 G => ?_
 refine B8 64 88 B ?_
 refine G4 (rd := [16]) rfl rfl (.idxA (j := 1) Sv jF rfl (by decide)) rfl rfl ?_
 refine Bq fun B => ?_
 refine F3 ?_
 replace G := Cm G hn1
 exact bE
 refine Dd ?_
 refine An (Cj _ _ []) 64 80 B rfl rfl ?_
 refine Bq fun B => ?_
 obtain rfl := oi_ G
 exact ⟨(W (x11_1 + 1), m1), Nat.lt_succ_self _, hn1, Bc []⟩
 refine Ju ?_
 replace G := Cm G hn1
 refine Bk 8 16 B fun B => ?_
 exact Lz
theorem Sx (u : Aw) (r : Int) (G : A3 u = some r) : Fn Tryz.prog 161 0 [.agg [vk u.Alg, vk u.Bits]] [] (fun d' b' => d' = vk r /\ b' = []) := by
 unfold A3 at G
 refine Fn.of Tryz.func161 rfl rfl rfl fun w0 I ρ0 => ?_
 show B4 _ ⟨w0, I, ρ0, 0, 0, 61⟩ _ _ _
 refine Bk 0 16 A8 fun B => ?_
 refine B8 16 88 B ?_
 refine A6 ?_
 obtain ⟨y, hy, G⟩ := Ac G
 refine Dz (T3 _ _ hy) ?_
 refine Bq fun B => ?_
 refine Ak <| Bk 88 104 B fun B => ?_
 refine C5 rfl G (fun h4 G => ?_) fun h4 G => ?_
 refine B8 104 112 B ?_
 exact C6
 refine Dd ?_
 refine Ak <| Bk 104 120 B fun B => ?_
 refine Ar <| Bk 120 136 B fun B => ?_
 refine C5 rfl G (fun h8 G => ?_) fun h8 G => ?_
 refine Bk 136 160 B fun B => ?_
 refine C5 rfl G (fun h10 G => ?_) fun h10 G => ?_
 refine B8 160 200 B ?_
 refine A6 ?_
 obtain ⟨e, he, G⟩ := Ac G
 refine A6 ?_
 refine Vw he ?_
 exact C6
 refine Dd ?_
 refine Bk 160 168 B fun B => ?_
 exact Lz
 refine Bk 136 152 B fun B => ?_
 refine C5 rfl G (fun h13 G => ?_) fun h13 G => ?_
 refine Bw (ι := Bool) (fun (x34_1 : Bool) => mk [(1, .ptr 0 0), (34, .val (.bool x34_1))] [(0, .box [vk u.Alg, vk u.Bits] 34)] 1) (fun (x34_1 : Bool) => A3.j1 u x34_1 = some r) ?_ ?_
 refine An (Cj _ _ []) 152 216 B rfl rfl ?_
 refine A6 ?_
 rcases Ef G with ⟨h14, G⟩ | ⟨h14, G⟩
 refine Bq fun B => ?_
 exact ⟨decide (u.Bits <= 16384), G, Bc [(0, 0)]⟩
 refine Bq fun B => ?_
 exact ⟨false, G, Bc [(0, 0)]⟩
 rintro x34_1 G
 replace G : A3.j1 u x34_1 = some r := G
 show B4 _ _ _ _ (mk _ _ _)
 unfold A3.j1 at G
 refine C5 rfl G (fun h17 G => ?_) fun h17 G => ?_
 refine B8 1 33 A8 ?_
 refine A6 ?_
 obtain ⟨y_2, hy_2, G⟩ := Ac G
 refine Dz (T8 _ _ hy_2) ?_
 exact C6
 refine Dd ?_
 refine Bk 1 9 A8 fun B => ?_
 exact Lz
 refine Bk 152 168 B fun B => ?_
 refine C5 rfl G (fun h20 G => ?_) fun h20 G => ?_
 refine B8 168 200 B ?_
 refine Ka G6 z3 Mi ([160, 224, 256, 384, 521] : List Int) eI ?_
 refine A6 ?_
 obtain ⟨y_3, hy_3, G⟩ := Ac G
 refine K9 [168] [] [] true (Hp _ _ _ hy_3) ?_
 refine F7 fun B => ?_
 refine C5 rfl G (fun h22 G => ?_) fun h22 G => ?_
 refine B8 200 232 B ?_
 refine A6 ?_
 obtain ⟨q, hq, G⟩ := Ac G
 refine Cr rfl rfl (Q3 hq) rfl rfl ?_
 exact C6
 refine Dd ?_
 refine Bk 200 208 B fun B => ?_
 exact Lz
 refine Bk 168 184 B fun B => ?_
 refine C5 rfl G (fun h25 G => ?_) fun h25 G => ?_
 refine B8 184 232 B ?_
 refine A6 ?_
 obtain ⟨y_4, hy_4, G⟩ := Ac G
 refine Dz (Ml _ _ _ hy_4) ?_
 refine Bq fun B => ?_
 refine Bk 232 248 B fun B => ?_
 refine C5 rfl G (fun h28 G => ?_) fun h28 G => ?_
 refine B8 248 296 B ?_
 refine A6 ?_
 obtain ⟨e_2, he_2, G⟩ := Ac G
 refine A6 ?_
 refine Vw he_2 ?_
 exact C6
 refine Dd ?_
 refine Bk 248 256 B fun B => ?_
 exact Lz
 refine Dd ?_
 refine Bk 184 192 B fun B => ?_
 exact Lz
theorem Jv (u : Aw) (r : Bool) (G : Fo u = some r) : Fn Tryz.prog 119 0 [.agg [vk u.Alg, vk u.Bits]] [] (fun d' b' => d' = .val (.bool r) /\ b' = []) := by
 unfold Fo at G
 refine Fn.of Tryz.func119 rfl rfl rfl fun w0 I ρ0 => ?_
 show B4 _ ⟨w0, I, ρ0, 0, 0, 6⟩ _ _ _
 refine Bk 0 16 A8 fun B => ?_
 refine B8 16 48 B ?_
 refine A6 ?_
 obtain ⟨y, hy, G⟩ := Ac G
 refine Dz (Sx _ _ hy) ?_
 exact C6
theorem Kl (alg : Int) (r : Int) (G : F1 alg = some r) : Fn Tryz.prog 137 0 [vk alg] [] (fun d' b' => d' = vk r /\ b' = []) := by
 unfold F1 at G
 refine Fn.of Tryz.func137 rfl rfl rfl fun w0 I ρ0 => ?_
 show B4 _ ⟨w0, I, ρ0, 0, 0, 12⟩ _ _ _
 refine Bk 0 8 A8 fun B => ?_
 refine B8 8 72 B ?_
 refine A6 ?_
 obtain ⟨y, hy, G⟩ := Ac G
 refine Dz (T3 _ _ hy) ?_
 refine Bq fun B => ?_
 refine Bk 72 96 B fun B => ?_
 exact Lz
theorem Ua (f : Aa) (r : Bool) (G : Br f = some r) : Fn Tryz.prog 134 0 [.agg (Aa.dv f)] [] (fun d' b' => d' = .val (.bool r) /\ b' = []) := by
 unfold Br at G
 refine Fn.of Tryz.func134 rfl rfl rfl fun w0 I ρ0 => ?_
 show B4 _ ⟨w0, I, ρ0, 0, 0, 114⟩ _ _ _
 refine Bk 0 16 A8 fun B => ?_
 refine Bw (ι := Bool) (fun (bare_1 : Bool) => mk [(1, .ptr 0 0), (3, .val (.bool bare_1))] [(0, .box (Aa.dv f) 48)] 1) (fun (bare_1 : Bool) => Br.j1 f bare_1 = some r) ?_ ?_
 refine An (Cj _ _ []) 16 96 B rfl rfl ?_
 refine A6 ?_
 refine Ro J4 Qg Ym ?_
 refine Cr rfl rfl (Pq f.Use (Aw.mk 0 0)) rfl rfl ?_
 refine A6 ?_
 rcases Ef G with ⟨h2, G⟩ | ⟨h2, G⟩
 refine Bq fun B => ?_
 exact ⟨decide (f.Text = (⟨#[]⟩ : ByteArray)), G, Bc [(0, 0)]⟩
 refine Bq fun B => ?_
 exact ⟨false, G, Bc [(0, 0)]⟩
 rintro bare_1 G
 replace G : Br.j1 f bare_1 = some r := G
 show B4 _ _ _ _ (mk _ _ _)
 unfold Br.j1 at G
 refine Ak <| Bk 1 17 A8 fun B => ?_
 refine Ar <| Bw (ι := Bool) (fun (x15_2 : Bool) => mk [(1, .ptr 0 0), (3, .val (.bool bare_1)), (14, vk f.Kind), (15, .val (.bool x15_2))] [(0, .box (Aa.dv f) 48)] 1) (fun (x15_2 : Bool) => Br.j2 f bare_1 x15_2 = some r) ?_ ?_
 refine Bk 17 33 B fun B => ?_
 refine C5 rfl G (fun h7 G => ?_) fun h7 G => ?_
 refine Dd ?_
 exact ⟨decide (f.Kind = 1), G, Bc [(0, 0)]⟩
 refine An (Cj _ _ []) 33 49 B rfl rfl ?_
 refine Bq fun B => ?_
 exact ⟨decide (f.Kind = 8), G, Bc [(0, 0)]⟩
 rintro x15_2 G
 replace G : Br.j2 f bare_1 x15_2 = some r := G
 show B4 _ _ _ _ (mk _ _ _)
 unfold Br.j2 at G
 refine C5 rfl G (fun h9 G => ?_) fun h9 G => ?_
 refine B8 1 113 A8 ?_
 refine A6 ?_
 obtain ⟨y, hy, G⟩ := Ac G
 refine Dz (Jv _ _ hy) ?_
 refine A6 ?_
 rcases Ef G with ⟨h10, G⟩ | ⟨h10, G⟩
 refine A6 ?_
 rcases Ef G with ⟨h11, G⟩ | ⟨h11, G⟩
 exact C6
 exact C6
 exact C6
 refine Bk 1 17 A8 fun B => ?_
 refine C5 rfl G (fun h16 G => ?_) fun h16 G => ?_
 refine B8 17 113 B ?_
 refine A6 ?_
 rcases Ef G with ⟨h17, G⟩ | ⟨h17, G⟩
 refine A6 ?_
 rcases Ef G with ⟨h18, G⟩ | ⟨h18, G⟩
 exact C6
 exact C6
 exact C6
 refine Bk 17 33 B fun B => ?_
 refine C5 rfl G (fun h23 G => ?_) fun h23 G => ?_
 refine B8 33 241 B ?_
 refine A6 ?_
 obtain ⟨y_2, hy_2, G⟩ := Ac G
 refine Dz (Jv _ _ hy_2) ?_
 refine A6 ?_
 rcases Ef G with ⟨h24, G⟩ | ⟨h24, G⟩
 refine A6 ?_
 obtain ⟨y_3, hy_3, G⟩ := Ac G
 refine Dz (Kl _ _ hy_3) ?_
 refine A6 ?_
 rcases Ef G with ⟨h25, G⟩ | ⟨h25, G⟩
 refine A6 ?_
 rcases Ef G with ⟨h26, G⟩ | ⟨h26, G⟩
 refine A6 ?_
 rcases Ef G with ⟨h27, G⟩ | ⟨h27, G⟩
 exact C6
 exact C6
 exact C6
 exact C6
 exact C6
 refine Bw (ι := Bool) (fun (x71_3 : Bool) => mk [(1, .ptr 0 0), (3, .val (.bool bare_1)), (14, vk f.Kind), (71, .val (.bool x71_3))] [(0, .box (Aa.dv f) 48)] 1) (fun (x71_3 : Bool) => Br.j3 f bare_1 x71_3 = some r) ?_ ?_
 refine Bk 33 49 B fun B => ?_
 refine C5 rfl G (fun h34 G => ?_) fun h34 G => ?_
 refine Dd ?_
 exact ⟨decide (f.Kind = 4), G, Bc [(0, 0)]⟩
 refine An (Cj _ _ []) 49 65 B rfl rfl ?_
 refine Bq fun B => ?_
 exact ⟨decide (f.Kind = 5), G, Bc [(0, 0)]⟩
 rintro x71_3 G
 replace G : Br.j3 f bare_1 x71_3 = some r := G
 show B4 _ _ _ _ (mk _ _ _)
 unfold Br.j3 at G
 refine C5 rfl G (fun h36 G => ?_) fun h36 G => ?_
 refine B8 1 97 A8 ?_
 refine A6 ?_
 rcases Ef G with ⟨h37, G⟩ | ⟨h37, G⟩
 refine A6 ?_
 rcases Ef G with ⟨h38, G⟩ | ⟨h38, G⟩
 exact C6
 exact C6
 exact C6
 refine Bk 1 17 A8 fun B => ?_
 refine C5 rfl G (fun h43 G => ?_) fun h43 G => ?_
 refine B8 17 113 B ?_
 refine A6 ?_
 rcases Ef G with ⟨h44, G⟩ | ⟨h44, G⟩
 refine A6 ?_
 rcases Ef G with ⟨h45, G⟩ | ⟨h45, G⟩
 exact C6
 exact C6
 exact C6
 refine Bk 17 33 B fun B => ?_
 refine C5 rfl G (fun h50 G => ?_) fun h50 G => ?_
 refine B8 33 153 B ?_
 refine A6 ?_
 refine Ro J4 Qg Ym ?_
 refine Cr rfl rfl (Pq f.Use (Aw.mk 0 0)) rfl rfl ?_
 refine A6 ?_
 rcases Ef G with ⟨h51, G⟩ | ⟨h51, G⟩
 refine A6 ?_
 rcases Ef G with ⟨h52, G⟩ | ⟨h52, G⟩
 refine A6 ?_
 obtain ⟨y_4, hy_4, G⟩ := Ac G
 refine Dz (Hy _ _ hy_4) ?_
 exact C6
 exact C6
 exact C6
 refine Dd ?_
 refine Bk 33 41 B fun B => ?_
 exact Lz
theorem P4 (f : Aa) (r : Int) (G : Bl f = some r) : Fn Tryz.prog 100 0 [.agg (Aa.dv f)] [] (fun d' b' => d' = vk r /\ b' = []) := by
 unfold Bl at G
 refine Fn.of Tryz.func100 rfl rfl rfl fun w0 I ρ0 => ?_
 show B4 _ ⟨w0, I, ρ0, 0, 0, 62⟩ _ _ _
 refine Bk 0 16 A8 fun B => ?_
 refine Bw (ι := Bool) (fun (where_1 : Bool) => mk [(1, .ptr 0 0), (3, .val (.bool where_1))] [(0, .box (Aa.dv f) 48)] 1) (fun (where_1 : Bool) => Bl.j1 f where_1 = some r) ?_ ?_
 refine An (Cj _ _ []) 16 168 B rfl rfl ?_
 refine A6 ?_
 obtain ⟨y, hy, G⟩ := Ac G
 refine Dz (Hy _ _ hy) ?_
 refine A6 ?_
 rcases Ef G with ⟨h2, G⟩ | ⟨h2, G⟩
 refine A6 ?_
 obtain ⟨y_2, hy_2, G⟩ := Ac G
 refine Dz (Hy _ _ hy_2) ?_
 refine A6 ?_
 rcases Ef G with ⟨h3, G⟩ | ⟨h3, G⟩
 refine A6 ?_
 rcases Ef G with ⟨h4, G⟩ | ⟨h4, G⟩
 refine Bq fun B => ?_
 exact ⟨decide (f.Machine <= 1099511627776), G, Bc [(0, 0)]⟩
 refine Bq fun B => ?_
 exact ⟨false, G, Bc [(0, 0)]⟩
 refine Bq fun B => ?_
 exact ⟨false, G, Bc [(0, 0)]⟩
 refine Bq fun B => ?_
 exact ⟨false, G, Bc [(0, 0)]⟩
 rintro where_1 G
 replace G : Bl.j1 f where_1 = some r := G
 show B4 _ _ _ _ (mk _ _ _)
 unfold Bl.j1 at G
 refine Bw (ι := Bool) (fun (when_2 : Bool) => mk [(1, .ptr 0 0), (3, .val (.bool where_1)), (4, .val (.bool when_2))] [(0, .box (Aa.dv f) 48)] 1) (fun (when_2 : Bool) => Bl.j2 f where_1 when_2 = some r) ?_ ?_
 refine An (Cj _ _ []) 1 153 A8 rfl rfl ?_
 refine A6 ?_
 rcases Ef G with ⟨h9, G⟩ | ⟨h9, G⟩
 refine A6 ?_
 rcases Ef G with ⟨h10, G⟩ | ⟨h10, G⟩
 refine A6 ?_
 rcases Ef G with ⟨h11, G⟩ | ⟨h11, G⟩
 refine Bq fun B => ?_
 exact ⟨decide (f.Confidence <= 100), G, Bc [(0, 0)]⟩
 refine Bq fun B => ?_
 exact ⟨false, G, Bc [(0, 0)]⟩
 refine Bq fun B => ?_
 exact ⟨false, G, Bc [(0, 0)]⟩
 refine Bq fun B => ?_
 exact ⟨false, G, Bc [(0, 0)]⟩
 rintro when_2 G
 replace G : Bl.j2 f where_1 when_2 = some r := G
 show B4 _ _ _ _ (mk _ _ _)
 unfold Bl.j2 at G
 refine Ak <| Bw (ι := Bool) (fun (x61_3 : Bool) => mk [(61, .val (.bool x61_3))] [] 0) (fun (x61_3 : Bool) => Bl.j3 x61_3 = some r) ?_ ?_
 refine An (Cj _ _ []) 1 169 A8 rfl rfl ?_
 refine A6 ?_
 rcases Ef G with ⟨h16, G⟩ | ⟨h16, G⟩
 refine Bq fun B => ?_
 exact ⟨true, G, Bc []⟩
 refine A6 ?_
 rcases Ef G with ⟨h18, G⟩ | ⟨h18, G⟩
 refine Bq fun B => ?_
 exact ⟨true, G, Bc []⟩
 refine A6 ?_
 rcases Ef G with ⟨h20, G⟩ | ⟨h20, G⟩
 refine Bq fun B => ?_
 exact ⟨true, G, Bc []⟩
 refine A6 ?_
 rcases Ef G with ⟨h22, G⟩ | ⟨h22, G⟩
 refine Bq fun B => ?_
 exact ⟨true, G, Bc []⟩
 refine A6 ?_
 obtain ⟨y_3, hy_3, G⟩ := Ac G
 refine Dz (Ua _ _ hy_3) ?_
 refine Bq fun B => ?_
 exact ⟨!y_3, G, Bc []⟩
 rintro x61_3 G
 replace G : Bl.j3 x61_3 = some r := G
 show B4 _ _ _ _ (mk _ _ _)
 unfold Bl.j3 at G
 refine C5 rfl G (fun h25 G => ?_) fun h25 G => ?_
 refine B8 0 8 A8 ?_
 exact C6
 refine Dd ?_
 refine Bk 0 8 A8 fun B => ?_
 exact Lz
theorem Xr (at' : Aa) (r : C8 × Int) (G : Jg at' = some r) : Fn Tryz.prog 65 0 [.agg (Aa.dv at')] [] (fun d' b' => d' = .tup [.ptr 0 0, vk r.2] /\ b' = [.box [vk r.1.at_.Source, ws r.1.at_.Host, vk r.1.at_.Machine, vk r.1.at_.Day, vk r.1.at_.Confidence, vk r.1.at_.Kind, ws r.1.at_.Subject, vk r.1.at_.Use.Alg, vk r.1.at_.Use.Bits, vk r.1.at_.Number, ws r.1.at_.Text, .row 1] 126, .row 48 11 (Aq Aa.enc r.1.l)]) := by
 unfold Jg at G
 refine Fn.of Tryz.func65 rfl rfl rfl fun w0 I ρ0 => ?_
 show B4 _ ⟨w0, I, ρ0, 0, 0, 14⟩ _ _ _
 refine Bk 0 24 A8 fun B => ?_
 refine B8 24 96 B ?_
 refine Ro J4 Qg Ym ?_
 refine Bq fun B => ?_
 refine Ak <| Bv (Cj _ _ []) (by kernel_rfl) [0, 1, 3, 0, 8, 31, 63] 96 152 B rfl rfl (by kernel_rfl) ?_
 refine A6 ?_
 refine Cr rfl rfl (.build (r := [vk at'.Source, ws at'.Host, vk at'.Machine, vk at'.Day, vk at'.Confidence, .val (.int .i64 4), ws at'.Subject, .val (.int .i64 0), .val (.int .i64 0), .val (.int .i64 1), .val (.string (⟨#[]⟩ : ByteArray)), .val (.slice none 0 0)]) fO aC9 aCh (by kernel_rfl) rfl) rfl rfl ?_
 refine A6 ?_
 obtain ⟨y, hy, G⟩ := Ac G
 refine Dz (P4 _ _ hy) ?_
 refine Bq fun B => ?_
 refine F3 ?_
 obtain rfl := oi_ G
 exact Ht [(0, 112)] ⟨rfl, rfl⟩
theorem Km (s : ByteArray) (c : UInt8) (r : Int) (G : Fg s c = some r) : Fn Tryz.prog 200 0 [ws s, .val (.int .u8 (c.toNat : Int))] [] (fun d' b' => d' = vk r /\ b' = []) := by
 unfold Fg at G
 refine Fn.of Tryz.func200 rfl rfl rfl fun w0 I ρ0 => ?_
 show B4 _ ⟨w0, I, ρ0, 0, 0, 8⟩ _ _ _
 refine Bk 0 8 A8 fun B => ?_
 refine B8 8 40 B ?_
 refine A6 ?_
 refine J0 (rd := []) rfl rfl (.extV rfl sP (aEw s c)) rfl rfl (fun _ => ⟨_, rfl⟩) ?_
 rintro _ rfl
 exact C6
theorem D7 (s : ByteArray) (c : UInt8) (r : Int) (G : Da s c = some r) : Fn Tryz.prog 177 0 [ws s, .val (.int .u8 (c.toNat : Int))] [] (fun d' b' => d' = vk r /\ b' = []) := by
 unfold Da at G
 refine Fn.of Tryz.func177 rfl rfl rfl fun w0 I ρ0 => ?_
 show B4 _ ⟨w0, I, ρ0, 0, 0, 8⟩ _ _ _
 refine Bk 0 8 A8 fun B => ?_
 refine B8 8 40 B ?_
 refine A6 ?_
 obtain ⟨y, hy, G⟩ := Ac G
 refine Dz (Km _ _ _ hy) ?_
 exact C6
theorem Tl (c : UInt8) (others : ByteArray) (r : Bool) (G : Hz c others = some r) : Fn Tryz.prog 135 0 [.val (.int .u8 (c.toNat : Int)), ws others] [] (fun d' b' => d' = .val (.bool r) /\ b' = []) := by
 unfold Hz at G
 refine Fn.of Tryz.func135 rfl rfl rfl fun w0 I ρ0 => ?_
 show B4 _ ⟨w0, I, ρ0, 0, 0, 33⟩ _ _ _
 refine Bk 0 8 A8 fun B => ?_
 refine B8 8 240 B ?_
 refine A6 ?_
 rcases Ef G with ⟨h2, G⟩ | ⟨h2, G⟩
 refine A6 ?_
 rcases Ef G with ⟨h3, G⟩ | ⟨h3, G⟩
 exact C6
 refine A6 ?_
 rcases Ef G with ⟨h5, G⟩ | ⟨h5, G⟩
 refine A6 ?_
 rcases Ef G with ⟨h6, G⟩ | ⟨h6, G⟩
 exact C6
 refine A6 ?_
 rcases Ef G with ⟨h8, G⟩ | ⟨h8, G⟩
 refine A6 ?_
 rcases Ef G with ⟨h9, G⟩ | ⟨h9, G⟩
 exact C6
 refine A6 ?_
 obtain ⟨y, hy, G⟩ := Ac G
 refine Dz (D7 _ _ _ hy) ?_
 exact C6
 refine A6 ?_
 obtain ⟨y_2, hy_2, G⟩ := Ac G
 refine Dz (D7 _ _ _ hy_2) ?_
 exact C6
 refine A6 ?_
 rcases Ef G with ⟨h13, G⟩ | ⟨h13, G⟩
 refine A6 ?_
 rcases Ef G with ⟨h14, G⟩ | ⟨h14, G⟩
 exact C6
 refine A6 ?_
 obtain ⟨y_3, hy_3, G⟩ := Ac G
 refine Dz (D7 _ _ _ hy_3) ?_
 exact C6
 refine A6 ?_
 obtain ⟨y_4, hy_4, G⟩ := Ac G
 refine Dz (D7 _ _ _ hy_4) ?_
 exact C6
 refine A6 ?_
 rcases Ef G with ⟨h18, G⟩ | ⟨h18, G⟩
 refine A6 ?_
 rcases Ef G with ⟨h19, G⟩ | ⟨h19, G⟩
 exact C6
 refine A6 ?_
 rcases Ef G with ⟨h21, G⟩ | ⟨h21, G⟩
 refine A6 ?_
 rcases Ef G with ⟨h22, G⟩ | ⟨h22, G⟩
 exact C6
 refine A6 ?_
 obtain ⟨y_5, hy_5, G⟩ := Ac G
 refine Dz (D7 _ _ _ hy_5) ?_
 exact C6
 refine A6 ?_
 obtain ⟨y_6, hy_6, G⟩ := Ac G
 refine Dz (D7 _ _ _ hy_6) ?_
 exact C6
 refine A6 ?_
 rcases Ef G with ⟨h26, G⟩ | ⟨h26, G⟩
 refine A6 ?_
 rcases Ef G with ⟨h27, G⟩ | ⟨h27, G⟩
 exact C6
 refine A6 ?_
 obtain ⟨y_7, hy_7, G⟩ := Ac G
 refine Dz (D7 _ _ _ hy_7) ?_
 exact C6
 refine A6 ?_
 obtain ⟨y_8, hy_8, G⟩ := Ac G
 refine Dz (D7 _ _ _ hy_8) ?_
 exact C6
theorem Wf (s : ByteArray) (r : Bool) (G : Df s = some r) : Fn Tryz.prog 101 0 [ws s] [] (fun d' b' => d' = .val (.bool r) /\ b' = []) := by
 unfold Df at G
 refine Fn.of Tryz.func101 rfl rfl rfl fun w0 I ρ0 => ?_
 show B4 _ ⟨w0, I, ρ0, 0, 0, 24⟩ _ _ _
 refine Bk 0 8 A8 fun B => ?_
 refine Ak <| B8 8 40 B ?_
 refine A6 ?_
 refine Cr rfl rfl (Z5 Vk fT Vz) rfl rfl ?_
 refine Bq fun B => ?_
 refine Ar <| J3 (fun (x8_1 : Int) => mk [(0, ws s), (6, .sl 1 (Aq e8 (Jc s))), (7, .val (.int .i64 ((Jc s).length : Int))), (8, vk x8_1)] [] 0) G (Bc []) ?_
 rintro x8_1 m1 o1 G hn1
 replace G : Df.l1 s x8_1 = some o1 := G
 show B4 _ _ _ _ (mk _ _ _)
 unfold Df.l1 at G
 refine Bk 0 8 A8 fun B => ?_
 refine Ak <| C5 rfl G (fun h4 G => ?_) fun h4 G => ?_
 refine Dd ?_
 refine Ak <| Ar <| B8 8 32 B ?_
 obtain ⟨e, he, G⟩ := Ac G
 refine A6 ?_
 refine Vw he ?_
 refine Bq fun B => ?_
 refine B8 32 56 B ?_
 refine A6 ?_
 obtain ⟨y, hy, G⟩ := Ac G
 refine Dz (Tl _ _ _ hy) ?_
 refine Bq fun B => ?_
 refine C5 rfl G (fun h7 G => ?_) fun h7 G => ?_
 refine Bk 56 64 B fun B => ?_
 refine F3 ?_
 replace G := Cm G hn1
 exact bE
 refine Dd ?_
 refine An (Cj _ _ []) 56 72 B rfl rfl ?_
 refine Bq fun B => ?_
 obtain rfl := oi_ G
 exact ⟨(W (x8_1 + 1), m1), Nat.lt_succ_self _, hn1, Bc []⟩
 refine Ju ?_
 replace G := Cm G hn1
 refine B8 8 80 B ?_
 refine A6 ?_
 refine Cr rfl rfl (S6 Vk) rfl rfl ?_
 refine A6 ?_
 rcases Ef G with ⟨h10, G⟩ | ⟨h10, G⟩
 refine A6 ?_
 refine Cr (Fm rfl rfl h10) rfl (S6 Vk) rfl rfl ?_
 exact C6
 exact C6
theorem Cp (alg : Int) (bits : Int) (r : Aw) (G : Ce alg bits = some r) : Fn Tryz.prog 201 0 [vk alg, vk bits] [] (fun d' b' => d' = .agg [vk r.Alg, vk r.Bits] /\ b' = []) := by
 unfold Ce at G
 refine Fn.of Tryz.func201 rfl rfl rfl fun w0 I ρ0 => ?_
 show B4 _ ⟨w0, I, ρ0, 0, 0, 8⟩ _ _ _
 refine Bk 0 8 A8 fun B => ?_
 refine B8 8 40 B ?_
 refine A6 ?_
 refine Ro J4 Qg Ym ?_
 exact C6
theorem Ut  (r : (List A7)) (G : Do = some r) : Fn Tryz.prog 178 0 [] [] (fun d' b' => d' = .sl 12 (Aq A7.enc r) /\ b' = []) := by
 unfold Do at G
 refine Fn.of Tryz.func178 rfl rfl rfl fun w0 I ρ0 => ?_
 show B4 _ ⟨w0, I, ρ0, 0, 0, 125⟩ _ _ _
 refine Bk 0 8 A8 fun B => ?_
 refine B8 8 128 B ?_
 obtain ⟨y, hy, G⟩ := Ac G
 refine Dz (Cp _ _ _ hy) ?_
 obtain ⟨y_2, hy_2, G⟩ := Ac G
 refine Dz (Cp _ _ _ hy_2) ?_
 obtain ⟨y_3, hy_3, G⟩ := Ac G
 refine Dz (Cp _ _ _ hy_3) ?_
 obtain ⟨y_4, hy_4, G⟩ := Ac G
 refine Dz (Cp _ _ _ hy_4) ?_
 refine Cr rfl rfl (.build (r := [.val (.int .i64 0), .val (.int .i64 0)]) J4 Qg Ym (by kernel_rfl) rfl) rfl rfl ?_
 refine Bq fun B => ?_
 refine B8 128 248 B ?_
 obtain ⟨y_5, hy_5, G⟩ := Ac G
 refine Dz (Cp _ _ _ hy_5) ?_
 obtain ⟨y_6, hy_6, G⟩ := Ac G
 refine Dz (Cp _ _ _ hy_6) ?_
 obtain ⟨y_7, hy_7, G⟩ := Ac G
 refine Dz (Cp _ _ _ hy_7) ?_
 obtain ⟨y_8, hy_8, G⟩ := Ac G
 refine Dz (Cp _ _ _ hy_8) ?_
 obtain ⟨y_9, hy_9, G⟩ := Ac G
 refine Dz (Cp _ _ _ hy_9) ?_
 refine Bq fun B => ?_
 refine B8 248 344 B ?_
 obtain ⟨y_10, hy_10, G⟩ := Ac G
 refine Dz (Cp _ _ _ hy_10) ?_
 obtain ⟨y_11, hy_11, G⟩ := Ac G
 refine Dz (Cp _ _ _ hy_11) ?_
 obtain ⟨y_12, hy_12, G⟩ := Ac G
 refine Dz (Cp _ _ _ hy_12) ?_
 obtain ⟨y_13, hy_13, G⟩ := Ac G
 refine Dz (Cp _ _ _ hy_13) ?_
 refine Bq fun B => ?_
 refine Ak <| Bv (Cj _ _ []) (by kernel_rfl) [0, 0, 0, 0, 15, 0, 0, 4, 0, 484, 0, 0, 0, 0, 15360, 132, 0, 0, 0, 491652, 32900, 0, 0, 0, 15761540, 0, 0, 0, 0, 503316480, 1081476, 0, 0, 0, 16107208836, 0, 0, 0, 0, 515396075520, 0, 0, 1074823300, 4399121334404, 16493749239940, 0, 0, 0, 0, 527765581332480, 13195214356612, 0, 0, 0, 16901693816995972, 0, 0, 0, 0, 540431955284459520, 0, 0, 0, 0, 17293822569102704640, 0, 0, 0, 0, 553402322211286548480, 0, 0, 0, 0, 17708874310761169551360, 1139095121199236, 0, 0, 0, 566683979083452546842756, 1208925819614629174706175, 2417851639229258349412351] 344 1000 B rfl rfl (by kernel_rfl) ?_
 refine A6 ?_
 obtain ⟨y_14, hy_14, G⟩ := Ac G
 refine Dz (Cp _ _ _ hy_14) ?_
 refine A6 ?_
 refine Cr rfl rfl (.build (r := [.val (.int .i64 0), .val (.string (⟨#[114, 115, 97, 45, 114, 99, 52, 45, 109, 100, 53]⟩ : ByteArray)), vk y.Alg, vk y.Bits, vk y_2.Alg, vk y_2.Bits, vk y_14.Alg, vk y_14.Bits, vk y_10.Alg, vk y_10.Bits, .val (.int .i64 1), .val (.int .i64 2)]) I4 Lj Pm (by kernel_rfl) rfl) rfl rfl ?_
 refine A6 ?_
 obtain ⟨y_15, hy_15, G⟩ := Ac G
 refine Dz (Cp _ _ _ hy_15) ?_
 refine A6 ?_
 refine Cr rfl rfl (.build (r := [.val (.int .i64 0), .val (.string (⟨#[114, 115, 97, 45, 114, 99, 52, 45, 115, 104, 97]⟩ : ByteArray)), vk y.Alg, vk y.Bits, vk y_2.Alg, vk y_2.Bits, vk y_15.Alg, vk y_15.Bits, vk y_11.Alg, vk y_11.Bits, .val (.int .i64 1), .val (.int .i64 3)]) I4 Lj Pm (by kernel_rfl) rfl) rfl rfl ?_
 refine A6 ?_
 refine Cr rfl rfl (.build (r := [.val (.int .i64 0), .val (.string (⟨#[114, 115, 97, 45, 100, 101, 115, 51, 45, 115, 104, 97]⟩ : ByteArray)), vk y.Alg, vk y.Bits, vk y_2.Alg, vk y_2.Bits, vk y_5.Alg, vk y_5.Bits, vk y_11.Alg, vk y_11.Bits, .val (.int .i64 1), .val (.int .i64 3)]) I4 Lj Pm (by kernel_rfl) rfl) rfl rfl ?_
 obtain ⟨y_16, hy_16, G⟩ := Ac G
 refine Dz (Cp _ _ _ hy_16) ?_
 refine A6 ?_
 refine Cr rfl rfl (.build (r := [.val (.int .i64 0), .val (.string (⟨#[100, 104, 101, 45, 100, 115, 97, 45, 100, 101, 115, 51, 45, 115, 104, 97]⟩ : ByteArray)), vk y_16.Alg, vk y_16.Bits, vk y_3.Alg, vk y_3.Bits, vk y_5.Alg, vk y_5.Bits, vk y_11.Alg, vk y_11.Bits, .val (.int .i64 1), .val (.int .i64 3)]) I4 Lj Pm (by kernel_rfl) rfl) rfl rfl ?_
 obtain ⟨y_17, hy_17, G⟩ := Ac G
 refine Dz (Cp _ _ _ hy_17) ?_
 refine A6 ?_
 refine Cr rfl rfl (.build (r := [.val (.int .i64 0), .val (.string (⟨#[100, 104, 101, 45, 114, 115, 97, 45, 100, 101, 115, 51, 45, 115, 104, 97]⟩ : ByteArray)), vk y_17.Alg, vk y_17.Bits, vk y_2.Alg, vk y_2.Bits, vk y_5.Alg, vk y_5.Bits, vk y_11.Alg, vk y_11.Bits, .val (.int .i64 1), .val (.int .i64 3)]) I4 Lj Pm (by kernel_rfl) rfl) rfl rfl ?_
 refine A6 ?_
 refine Cr rfl rfl (.build (r := [.val (.int .i64 0), .val (.string (⟨#[114, 115, 97, 45, 97, 101, 115, 49, 50, 56, 45, 115, 104, 97]⟩ : ByteArray)), vk y.Alg, vk y.Bits, vk y_2.Alg, vk y_2.Bits, vk y_6.Alg, vk y_6.Bits, vk y_11.Alg, vk y_11.Bits, .val (.int .i64 1), .val (.int .i64 3)]) I4 Lj Pm (by kernel_rfl) rfl) rfl rfl ?_
 obtain ⟨y_18, hy_18, G⟩ := Ac G
 refine Dz (Cp _ _ _ hy_18) ?_
 refine A6 ?_
 refine Cr rfl rfl (.build (r := [.val (.int .i64 0), .val (.string (⟨#[100, 104, 101, 45, 114, 115, 97, 45, 97, 101, 115, 49, 50, 56, 45, 115, 104, 97]⟩ : ByteArray)), vk y_18.Alg, vk y_18.Bits, vk y_2.Alg, vk y_2.Bits, vk y_6.Alg, vk y_6.Bits, vk y_11.Alg, vk y_11.Bits, .val (.int .i64 1), .val (.int .i64 3)]) I4 Lj Pm (by kernel_rfl) rfl) rfl rfl ?_
 refine A6 ?_
 refine Cr rfl rfl (.build (r := [.val (.int .i64 0), .val (.string (⟨#[101, 99, 100, 104, 101, 45, 114, 115, 97, 45, 97, 101, 115, 49, 50, 56, 45, 115, 104, 97]⟩ : ByteArray)), vk y_13.Alg, vk y_13.Bits, vk y_2.Alg, vk y_2.Bits, vk y_6.Alg, vk y_6.Bits, vk y_11.Alg, vk y_11.Bits, .val (.int .i64 1), .val (.int .i64 3)]) I4 Lj Pm (by kernel_rfl) rfl) rfl rfl ?_
 refine A6 ?_
 obtain ⟨y_19, hy_19, G⟩ := Ac G
 refine Dz (Cp _ _ _ hy_19) ?_
 obtain ⟨y_20, hy_20, G⟩ := Ac G
 refine Dz (Cp _ _ _ hy_20) ?_
 refine Cr rfl rfl (.build (r := [.val (.int .i64 0), .val (.string (⟨#[101, 99, 100, 104, 101, 45, 101, 99, 100, 115, 97, 45, 97, 101, 115, 50, 53, 54, 45, 115, 104, 97, 50, 53, 54]⟩ : ByteArray)), vk y_13.Alg, vk y_13.Bits, vk y_4.Alg, vk y_4.Bits, vk y_19.Alg, vk y_19.Bits, vk y_20.Alg, vk y_20.Bits, .val (.int .i64 3), .val (.int .i64 3)]) I4 Lj Pm (by kernel_rfl) rfl) rfl rfl ?_
 refine A6 ?_
 refine Cr rfl rfl (.build (r := [.val (.int .i64 0), .val (.string (⟨#[101, 99, 100, 104, 101, 45, 114, 115, 97, 45, 97, 101, 115, 49, 50, 56, 45, 103, 99, 109]⟩ : ByteArray)), vk y_13.Alg, vk y_13.Bits, vk y_2.Alg, vk y_2.Bits, vk y_7.Alg, vk y_7.Bits, vk y_12.Alg, vk y_12.Bits, .val (.int .i64 3), .val (.int .i64 3)]) I4 Lj Pm (by kernel_rfl) rfl) rfl rfl ?_
 obtain ⟨y_21, hy_21, G⟩ := Ac G
 refine Dz (Cp _ _ _ hy_21) ?_
 refine A6 ?_
 refine Cr rfl rfl (.build (r := [.val (.int .i64 0), .val (.string (⟨#[101, 99, 100, 104, 101, 45, 101, 99, 100, 115, 97, 45, 97, 101, 115, 50, 53, 54, 45, 103, 99, 109]⟩ : ByteArray)), vk y_21.Alg, vk y_21.Bits, vk y_4.Alg, vk y_4.Bits, vk y_8.Alg, vk y_8.Bits, vk y_12.Alg, vk y_12.Bits, .val (.int .i64 3), .val (.int .i64 3)]) I4 Lj Pm (by kernel_rfl) rfl) rfl rfl ?_
 refine A6 ?_
 refine Cr rfl rfl (.build (r := [.val (.int .i64 0), .val (.string (⟨#[101, 99, 100, 104, 101, 45, 114, 115, 97, 45, 99, 104, 97, 99, 104, 97]⟩ : ByteArray)), vk y_13.Alg, vk y_13.Bits, vk y_2.Alg, vk y_2.Bits, vk y_9.Alg, vk y_9.Bits, vk y_12.Alg, vk y_12.Bits, .val (.int .i64 3), .val (.int .i64 3)]) I4 Lj Pm (by kernel_rfl) rfl) rfl rfl ?_
 refine A6 ?_
 refine Cr rfl rfl (.build (r := [.val (.int .i64 0), .val (.string (⟨#[114, 115, 97, 45, 97, 101, 115, 50, 53, 54, 45, 103, 99, 109]⟩ : ByteArray)), vk y.Alg, vk y.Bits, vk y_2.Alg, vk y_2.Bits, vk y_8.Alg, vk y_8.Bits, vk y_12.Alg, vk y_12.Bits, .val (.int .i64 3), .val (.int .i64 3)]) I4 Lj Pm (by kernel_rfl) rfl) rfl rfl ?_
 refine A6 ?_
 refine Cr rfl rfl (.build (r := [.val (.int .i64 0), .val (.string (⟨#[97, 101, 115, 49, 50, 56, 45, 103, 99, 109]⟩ : ByteArray)), vk y_13.Alg, vk y_13.Bits, .val (.int .i64 0), .val (.int .i64 0), vk y_7.Alg, vk y_7.Bits, vk y_12.Alg, vk y_12.Bits, .val (.int .i64 4), .val (.int .i64 4)]) I4 Lj Pm (by kernel_rfl) rfl) rfl rfl ?_
 refine A6 ?_
 refine Cr rfl rfl (.build (r := [.val (.int .i64 0), .val (.string (⟨#[99, 104, 97, 99, 104, 97]⟩ : ByteArray)), vk y_13.Alg, vk y_13.Bits, .val (.int .i64 0), .val (.int .i64 0), vk y_9.Alg, vk y_9.Bits, vk y_12.Alg, vk y_12.Bits, .val (.int .i64 4), .val (.int .i64 4)]) I4 Lj Pm (by kernel_rfl) rfl) rfl rfl ?_
 obtain ⟨y_22, hy_22, G⟩ := Ac G
 refine Dz (Cp _ _ _ hy_22) ?_
 refine A6 ?_
 refine Cr rfl rfl (.build (r := [.val (.int .i64 0), .val (.string (⟨#[109, 108, 107, 101, 109, 45, 97, 101, 115, 50, 53, 54, 45, 103, 99, 109]⟩ : ByteArray)), vk y_22.Alg, vk y_22.Bits, .val (.int .i64 0), .val (.int .i64 0), vk y_8.Alg, vk y_8.Bits, vk y_12.Alg, vk y_12.Bits, .val (.int .i64 4), .val (.int .i64 4)]) I4 Lj Pm (by kernel_rfl) rfl) rfl rfl ?_
 refine Cr rfl rfl (Fp uY Pm (by decide) rfl rfl rfl rfl aCw (cs := [.int .i64 0, .str (⟨#[114, 115, 97, 45, 114, 99, 52, 45, 109, 100, 53]⟩ : ByteArray), .int .i64 y.Alg, .int .i64 y.Bits, .int .i64 y_2.Alg, .int .i64 y_2.Bits, .int .i64 y_14.Alg, .int .i64 y_14.Bits, .int .i64 y_10.Alg, .int .i64 y_10.Bits, .int .i64 1, .int .i64 2, .int .i64 0, .str (⟨#[114, 115, 97, 45, 114, 99, 52, 45, 115, 104, 97]⟩ : ByteArray), .int .i64 y.Alg, .int .i64 y.Bits, .int .i64 y_2.Alg, .int .i64 y_2.Bits, .int .i64 y_15.Alg, .int .i64 y_15.Bits, .int .i64 y_11.Alg, .int .i64 y_11.Bits, .int .i64 1, .int .i64 3, .int .i64 0, .str (⟨#[114, 115, 97, 45, 100, 101, 115, 51, 45, 115, 104, 97]⟩ : ByteArray), .int .i64 y.Alg, .int .i64 y.Bits, .int .i64 y_2.Alg, .int .i64 y_2.Bits, .int .i64 y_5.Alg, .int .i64 y_5.Bits, .int .i64 y_11.Alg, .int .i64 y_11.Bits, .int .i64 1, .int .i64 3, .int .i64 0, .str (⟨#[100, 104, 101, 45, 100, 115, 97, 45, 100, 101, 115, 51, 45, 115, 104, 97]⟩ : ByteArray), .int .i64 y_16.Alg, .int .i64 y_16.Bits, .int .i64 y_3.Alg, .int .i64 y_3.Bits, .int .i64 y_5.Alg, .int .i64 y_5.Bits, .int .i64 y_11.Alg, .int .i64 y_11.Bits, .int .i64 1, .int .i64 3, .int .i64 0, .str (⟨#[100, 104, 101, 45, 114, 115, 97, 45, 100, 101, 115, 51, 45, 115, 104, 97]⟩ : ByteArray), .int .i64 y_17.Alg, .int .i64 y_17.Bits, .int .i64 y_2.Alg, .int .i64 y_2.Bits, .int .i64 y_5.Alg, .int .i64 y_5.Bits, .int .i64 y_11.Alg, .int .i64 y_11.Bits, .int .i64 1, .int .i64 3, .int .i64 0, .str (⟨#[114, 115, 97, 45, 97, 101, 115, 49, 50, 56, 45, 115, 104, 97]⟩ : ByteArray), .int .i64 y.Alg, .int .i64 y.Bits, .int .i64 y_2.Alg, .int .i64 y_2.Bits, .int .i64 y_6.Alg, .int .i64 y_6.Bits, .int .i64 y_11.Alg, .int .i64 y_11.Bits, .int .i64 1, .int .i64 3, .int .i64 0, .str (⟨#[100, 104, 101, 45, 114, 115, 97, 45, 97, 101, 115, 49, 50, 56, 45, 115, 104, 97]⟩ : ByteArray), .int .i64 y_18.Alg, .int .i64 y_18.Bits, .int .i64 y_2.Alg, .int .i64 y_2.Bits, .int .i64 y_6.Alg, .int .i64 y_6.Bits, .int .i64 y_11.Alg, .int .i64 y_11.Bits, .int .i64 1, .int .i64 3, .int .i64 0, .str (⟨#[101, 99, 100, 104, 101, 45, 114, 115, 97, 45, 97, 101, 115, 49, 50, 56, 45, 115, 104, 97]⟩ : ByteArray), .int .i64 y_13.Alg, .int .i64 y_13.Bits, .int .i64 y_2.Alg, .int .i64 y_2.Bits, .int .i64 y_6.Alg, .int .i64 y_6.Bits, .int .i64 y_11.Alg, .int .i64 y_11.Bits, .int .i64 1, .int .i64 3, .int .i64 0, .str (⟨#[101, 99, 100, 104, 101, 45, 101, 99, 100, 115, 97, 45, 97, 101, 115, 50, 53, 54, 45, 115, 104, 97, 50, 53, 54]⟩ : ByteArray), .int .i64 y_13.Alg, .int .i64 y_13.Bits, .int .i64 y_4.Alg, .int .i64 y_4.Bits, .int .i64 y_19.Alg, .int .i64 y_19.Bits, .int .i64 y_20.Alg, .int .i64 y_20.Bits, .int .i64 3, .int .i64 3, .int .i64 0, .str (⟨#[101, 99, 100, 104, 101, 45, 114, 115, 97, 45, 97, 101, 115, 49, 50, 56, 45, 103, 99, 109]⟩ : ByteArray), .int .i64 y_13.Alg, .int .i64 y_13.Bits, .int .i64 y_2.Alg, .int .i64 y_2.Bits, .int .i64 y_7.Alg, .int .i64 y_7.Bits, .int .i64 y_12.Alg, .int .i64 y_12.Bits, .int .i64 3, .int .i64 3, .int .i64 0, .str (⟨#[101, 99, 100, 104, 101, 45, 101, 99, 100, 115, 97, 45, 97, 101, 115, 50, 53, 54, 45, 103, 99, 109]⟩ : ByteArray), .int .i64 y_21.Alg, .int .i64 y_21.Bits, .int .i64 y_4.Alg, .int .i64 y_4.Bits, .int .i64 y_8.Alg, .int .i64 y_8.Bits, .int .i64 y_12.Alg, .int .i64 y_12.Bits, .int .i64 3, .int .i64 3, .int .i64 0, .str (⟨#[101, 99, 100, 104, 101, 45, 114, 115, 97, 45, 99, 104, 97, 99, 104, 97]⟩ : ByteArray), .int .i64 y_13.Alg, .int .i64 y_13.Bits, .int .i64 y_2.Alg, .int .i64 y_2.Bits, .int .i64 y_9.Alg, .int .i64 y_9.Bits, .int .i64 y_12.Alg, .int .i64 y_12.Bits, .int .i64 3, .int .i64 3, .int .i64 0, .str (⟨#[114, 115, 97, 45, 97, 101, 115, 50, 53, 54, 45, 103, 99, 109]⟩ : ByteArray), .int .i64 y.Alg, .int .i64 y.Bits, .int .i64 y_2.Alg, .int .i64 y_2.Bits, .int .i64 y_8.Alg, .int .i64 y_8.Bits, .int .i64 y_12.Alg, .int .i64 y_12.Bits, .int .i64 3, .int .i64 3, .int .i64 0, .str (⟨#[97, 101, 115, 49, 50, 56, 45, 103, 99, 109]⟩ : ByteArray), .int .i64 y_13.Alg, .int .i64 y_13.Bits, .int .i64 0, .int .i64 0, .int .i64 y_7.Alg, .int .i64 y_7.Bits, .int .i64 y_12.Alg, .int .i64 y_12.Bits, .int .i64 4, .int .i64 4, .int .i64 0, .str (⟨#[99, 104, 97, 99, 104, 97]⟩ : ByteArray), .int .i64 y_13.Alg, .int .i64 y_13.Bits, .int .i64 0, .int .i64 0, .int .i64 y_9.Alg, .int .i64 y_9.Bits, .int .i64 y_12.Alg, .int .i64 y_12.Bits, .int .i64 4, .int .i64 4, .int .i64 0, .str (⟨#[109, 108, 107, 101, 109, 45, 97, 101, 115, 50, 53, 54, 45, 103, 99, 109]⟩ : ByteArray), .int .i64 y_22.Alg, .int .i64 y_22.Bits, .int .i64 0, .int .i64 0, .int .i64 y_8.Alg, .int .i64 y_8.Bits, .int .i64 y_12.Alg, .int .i64 y_12.Bits, .int .i64 4, .int .i64 4]) (.cons .int (.cons .str (.cons .int (.cons .int (.cons .int (.cons .int (.cons .int (.cons .int (.cons .int (.cons .int (.cons .int (.cons .int (.cons .int (.cons .str (.cons .int (.cons .int (.cons .int (.cons .int (.cons .int (.cons .int (.cons .int (.cons .int (.cons .int (.cons .int (.cons .int (.cons .str (.cons .int (.cons .int (.cons .int (.cons .int (.cons .int (.cons .int (.cons .int (.cons .int (.cons .int (.cons .int (.cons .int (.cons .str (.cons .int (.cons .int (.cons .int (.cons .int (.cons .int (.cons .int (.cons .int (.cons .int (.cons .int (.cons .int (.cons .int (.cons .str (.cons .int (.cons .int (.cons .int (.cons .int (.cons .int (.cons .int (.cons .int (.cons .int (.cons .int (.cons .int (.cons .int (.cons .str (.cons .int (.cons .int (.cons .int (.cons .int (.cons .int (.cons .int (.cons .int (.cons .int (.cons .int (.cons .int (.cons .int (.cons .str (.cons .int (.cons .int (.cons .int (.cons .int (.cons .int (.cons .int (.cons .int (.cons .int (.cons .int (.cons .int (.cons .int (.cons .str (.cons .int (.cons .int (.cons .int (.cons .int (.cons .int (.cons .int (.cons .int (.cons .int (.cons .int (.cons .int (.cons .int (.cons .str (.cons .int (.cons .int (.cons .int (.cons .int (.cons .int (.cons .int (.cons .int (.cons .int (.cons .int (.cons .int (.cons .int (.cons .str (.cons .int (.cons .int (.cons .int (.cons .int (.cons .int (.cons .int (.cons .int (.cons .int (.cons .int (.cons .int (.cons .int (.cons .str (.cons .int (.cons .int (.cons .int (.cons .int (.cons .int (.cons .int (.cons .int (.cons .int (.cons .int (.cons .int (.cons .int (.cons .str (.cons .int (.cons .int (.cons .int (.cons .int (.cons .int (.cons .int (.cons .int (.cons .int (.cons .int (.cons .int (.cons .int (.cons .str (.cons .int (.cons .int (.cons .int (.cons .int (.cons .int (.cons .int (.cons .int (.cons .int (.cons .int (.cons .int (.cons .int (.cons .str (.cons .int (.cons .int (.cons .int (.cons .int (.cons .int (.cons .int (.cons .int (.cons .int (.cons .int (.cons .int (.cons .int (.cons .str (.cons .int (.cons .int (.cons .int (.cons .int (.cons .int (.cons .int (.cons .int (.cons .int (.cons .int (.cons .int (.cons .int (.cons .str (.cons .int (.cons .int (.cons .int (.cons .int (.cons .int (.cons .int (.cons .int (.cons .int (.cons .int (.cons .int .nil)))))))))))))))))))))))))))))))))))))))))))))))))))))))))))))))))))))))))))))))))))))))))))))))))))))))))))))))))))))))))))))))))))))))))))))))))))))))))))))))))))))))))))))))))))))))))))))))) rfl (l := ([(A7.mk 0 (⟨#[114, 115, 97, 45, 114, 99, 52, 45, 109, 100, 53]⟩ : ByteArray) y y_2 y_14 y_10 1 2), (A7.mk 0 (⟨#[114, 115, 97, 45, 114, 99, 52, 45, 115, 104, 97]⟩ : ByteArray) y y_2 y_15 y_11 1 3), (A7.mk 0 (⟨#[114, 115, 97, 45, 100, 101, 115, 51, 45, 115, 104, 97]⟩ : ByteArray) y y_2 y_5 y_11 1 3), (A7.mk 0 (⟨#[100, 104, 101, 45, 100, 115, 97, 45, 100, 101, 115, 51, 45, 115, 104, 97]⟩ : ByteArray) y_16 y_3 y_5 y_11 1 3), (A7.mk 0 (⟨#[100, 104, 101, 45, 114, 115, 97, 45, 100, 101, 115, 51, 45, 115, 104, 97]⟩ : ByteArray) y_17 y_2 y_5 y_11 1 3), (A7.mk 0 (⟨#[114, 115, 97, 45, 97, 101, 115, 49, 50, 56, 45, 115, 104, 97]⟩ : ByteArray) y y_2 y_6 y_11 1 3), (A7.mk 0 (⟨#[100, 104, 101, 45, 114, 115, 97, 45, 97, 101, 115, 49, 50, 56, 45, 115, 104, 97]⟩ : ByteArray) y_18 y_2 y_6 y_11 1 3), (A7.mk 0 (⟨#[101, 99, 100, 104, 101, 45, 114, 115, 97, 45, 97, 101, 115, 49, 50, 56, 45, 115, 104, 97]⟩ : ByteArray) y_13 y_2 y_6 y_11 1 3), (A7.mk 0 (⟨#[101, 99, 100, 104, 101, 45, 101, 99, 100, 115, 97, 45, 97, 101, 115, 50, 53, 54, 45, 115, 104, 97, 50, 53, 54]⟩ : ByteArray) y_13 y_4 y_19 y_20 3 3), (A7.mk 0 (⟨#[101, 99, 100, 104, 101, 45, 114, 115, 97, 45, 97, 101, 115, 49, 50, 56, 45, 103, 99, 109]⟩ : ByteArray) y_13 y_2 y_7 y_12 3 3), (A7.mk 0 (⟨#[101, 99, 100, 104, 101, 45, 101, 99, 100, 115, 97, 45, 97, 101, 115, 50, 53, 54, 45, 103, 99, 109]⟩ : ByteArray) y_21 y_4 y_8 y_12 3 3), (A7.mk 0 (⟨#[101, 99, 100, 104, 101, 45, 114, 115, 97, 45, 99, 104, 97, 99, 104, 97]⟩ : ByteArray) y_13 y_2 y_9 y_12 3 3), (A7.mk 0 (⟨#[114, 115, 97, 45, 97, 101, 115, 50, 53, 54, 45, 103, 99, 109]⟩ : ByteArray) y y_2 y_8 y_12 3 3), (A7.mk 0 (⟨#[97, 101, 115, 49, 50, 56, 45, 103, 99, 109]⟩ : ByteArray) y_13 (Aw.mk 0 0) y_7 y_12 4 4), (A7.mk 0 (⟨#[99, 104, 97, 99, 104, 97]⟩ : ByteArray) y_13 (Aw.mk 0 0) y_9 y_12 4 4), (A7.mk 0 (⟨#[109, 108, 107, 101, 109, 45, 97, 101, 115, 50, 53, 54, 45, 103, 99, 109]⟩ : ByteArray) y_22 (Aw.mk 0 0) y_8 y_12 4 4)] : List A7)) (f := A7.enc) rfl) rfl rfl ?_
 refine Bq fun B => ?_
 refine Ak <| Bk 1000 1024 B fun B => ?_
 refine Ar <| J3 (fun ((x114_1, l_1) : Int × List A7) => mk [(15, .row 0), (113, .val (.int .i64 (([(A7.mk 0 (⟨#[114, 115, 97, 45, 114, 99, 52, 45, 109, 100, 53]⟩ : ByteArray) y y_2 y_14 y_10 1 2), (A7.mk 0 (⟨#[114, 115, 97, 45, 114, 99, 52, 45, 115, 104, 97]⟩ : ByteArray) y y_2 y_15 y_11 1 3), (A7.mk 0 (⟨#[114, 115, 97, 45, 100, 101, 115, 51, 45, 115, 104, 97]⟩ : ByteArray) y y_2 y_5 y_11 1 3), (A7.mk 0 (⟨#[100, 104, 101, 45, 100, 115, 97, 45, 100, 101, 115, 51, 45, 115, 104, 97]⟩ : ByteArray) y_16 y_3 y_5 y_11 1 3), (A7.mk 0 (⟨#[100, 104, 101, 45, 114, 115, 97, 45, 100, 101, 115, 51, 45, 115, 104, 97]⟩ : ByteArray) y_17 y_2 y_5 y_11 1 3), (A7.mk 0 (⟨#[114, 115, 97, 45, 97, 101, 115, 49, 50, 56, 45, 115, 104, 97]⟩ : ByteArray) y y_2 y_6 y_11 1 3), (A7.mk 0 (⟨#[100, 104, 101, 45, 114, 115, 97, 45, 97, 101, 115, 49, 50, 56, 45, 115, 104, 97]⟩ : ByteArray) y_18 y_2 y_6 y_11 1 3), (A7.mk 0 (⟨#[101, 99, 100, 104, 101, 45, 114, 115, 97, 45, 97, 101, 115, 49, 50, 56, 45, 115, 104, 97]⟩ : ByteArray) y_13 y_2 y_6 y_11 1 3), (A7.mk 0 (⟨#[101, 99, 100, 104, 101, 45, 101, 99, 100, 115, 97, 45, 97, 101, 115, 50, 53, 54, 45, 115, 104, 97, 50, 53, 54]⟩ : ByteArray) y_13 y_4 y_19 y_20 3 3), (A7.mk 0 (⟨#[101, 99, 100, 104, 101, 45, 114, 115, 97, 45, 97, 101, 115, 49, 50, 56, 45, 103, 99, 109]⟩ : ByteArray) y_13 y_2 y_7 y_12 3 3), (A7.mk 0 (⟨#[101, 99, 100, 104, 101, 45, 101, 99, 100, 115, 97, 45, 97, 101, 115, 50, 53, 54, 45, 103, 99, 109]⟩ : ByteArray) y_21 y_4 y_8 y_12 3 3), (A7.mk 0 (⟨#[101, 99, 100, 104, 101, 45, 114, 115, 97, 45, 99, 104, 97, 99, 104, 97]⟩ : ByteArray) y_13 y_2 y_9 y_12 3 3), (A7.mk 0 (⟨#[114, 115, 97, 45, 97, 101, 115, 50, 53, 54, 45, 103, 99, 109]⟩ : ByteArray) y y_2 y_8 y_12 3 3), (A7.mk 0 (⟨#[97, 101, 115, 49, 50, 56, 45, 103, 99, 109]⟩ : ByteArray) y_13 (Aw.mk 0 0) y_7 y_12 4 4), (A7.mk 0 (⟨#[99, 104, 97, 99, 104, 97]⟩ : ByteArray) y_13 (Aw.mk 0 0) y_9 y_12 4 4), (A7.mk 0 (⟨#[109, 108, 107, 101, 109, 45, 97, 101, 115, 50, 53, 54, 45, 103, 99, 109]⟩ : ByteArray) y_22 (Aw.mk 0 0) y_8 y_12 4 4)] : List A7).length : Int))), (114, vk x114_1)] [(0, .row 152 12 (Aq A7.enc l_1))] 1) G (Bc [(0, 984)]) ?_
 rintro ⟨x114_1, l_1⟩ m1 o1 G hn1
 replace G : Do.l1 y y_2 y_3 y_4 y_5 y_6 y_7 y_8 y_9 y_10 y_11 y_12 y_13 y_14 y_15 y_16 y_17 y_18 y_19 y_20 y_21 y_22 x114_1 l_1 = some o1 := G
 show B4 _ _ _ _ (mk _ _ _)
 unfold Do.l1 at G
 refine Bk 1 9 A8 fun B => ?_
 refine Ak <| C5 rfl G (fun h8 G => ?_) fun h8 G => ?_
 refine Dd ?_
 refine Ak <| Ar <| Bk 9 25 B fun B => ?_
 refine An (Cj _ _ []) 25 81 B rfl rfl ?_
 refine A6 ?_
 obtain ⟨e, he, G⟩ := Ac G
 refine A6 ?_
 refine G4 (rd := [0]) rfl rfl (X1 jF rfl (Ek A7.enc_len (Cq he) (o := 0) (m := 1) (by decide) rfl) Mi (cs' := [.int .i64 (W (x114_1 + 1))]) (.cons .int .nil) (Su A7.enc_len (Cq he) (o := 0) (x' := (A7.mk (W (x114_1 + 1)) e.Name e.Exchange e.Sign e.Cipher e.Mac e.Least e.Most)) (Nat.le_of_ble_eq_true rfl) rfl rfl)) rfl rfl ?_
 refine F7 fun B => ?_
 refine An (Cj _ _ []) 81 97 B rfl rfl ?_
 refine Bq fun B => ?_
 obtain rfl := oi_ G
 exact ⟨((W (x114_1 + 1), Cd l_1 ((x114_1).toNat) (A7.mk (W (x114_1 + 1)) e.Name e.Exchange e.Sign e.Cipher e.Mac e.Least e.Most)), m1), Nat.lt_succ_self _, hn1, Bc [(0, 0)]⟩
 refine Ju ?_
 replace G := Cm G hn1
 refine Bk 9 25 B fun B => ?_
 exact Lz
end Go.Proofs.YtkoflhimdenjaaaGreat
