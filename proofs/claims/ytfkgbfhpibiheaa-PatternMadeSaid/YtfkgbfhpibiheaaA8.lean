import Derived.Test.YtfkgbfhpibiheaaT1
import Derived.Test.YtfkgbfhpibiheaaA1
import Derived.Test.YtfkgbfhpibiheaaA3
import Derived.Test.YtfkgbfhpibiheaaA4
import Derived.Test.YtfkgbfhpibiheaaA5
import Derived.Test.YtfkgbfhpibiheaaA7
set_option linter.unusedVariables false
set_option linter.unusedSimpArgs false
set_option maxRecDepth 100000
set_option maxHeartbeats 1600000
namespace Go.Proofs.Ytfkgbfhpibiheaa
open Go.RowKit
theorem Vs (x' : Bv) (r : Int) (G : Bh x' = some r) : Fn Try.prog 47 0 [.agg [.sl 2 (As A5.enc x'.Sections), .sl 2 (As Bc.enc x'.Symbols)]] [] (fun d' b' => d' = vk r /\ b' = []) := by
 unfold Bh at G
 refine Fn.of Try.func47 rfl rfl rfl fun w0 I ρ0 => ?_
 show Cp _ ⟨w0, I, ρ0, 0, 0, 142⟩ _ _ _
 refine Bt 0 16 Bg fun B => ?_
 refine An <| By (ι := Bool) (fun (x17_1 : Bool) => mk [(1, .ptr 0 0), (17, .val (.bool x17_1))] [(0, .box [.sl 2 (As A5.enc x'.Sections), .sl 2 (As Bc.enc x'.Symbols)] 53)] 1) (fun (x17_1 : Bool) => Bh.j1 x' x17_1 = some r) ?_ ?_
 refine Aq (Cm _ _ []) 16 96 B rfl rfl ?_
 refine A8 ?_
 rcases If G with ⟨h2, G⟩ | ⟨h2, G⟩
 refine B4 fun B => ?_
 exact ⟨true, G, A3 [(0, 0)]⟩
 refine B4 fun B => ?_
 exact ⟨decide (64 < (x'.Symbols.length : Int)), G, A3 [(0, 0)]⟩
 rintro x17_1 G
 replace G : Bh.j1 x' x17_1 = some r := G
 show Cp _ _ _ _ (mk _ _ _)
 unfold Bh.j1 at G
 refine C1 rfl G (fun h5 G => ?_) fun h5 G => ?_
 refine C4 1 9 Bg ?_
 exact F9
 refine C9 ?_
 refine Bt 1 9 Bg fun B => ?_
 refine An <| Bt 9 17 B fun B => ?_
 refine Ar <| Gg (fun ((size_2, i_2) : Int × Int) => mk [(1, .ptr 0 0), (3, vk size_2), (4, vk i_2)] [(0, .box [.sl 2 (As A5.enc x'.Sections), .sl 2 (As Bc.enc x'.Symbols)] 53)] 1) G (A3 [(0, 0)]) ?_
 rintro ⟨size_2, i_2⟩ m2 o2 G hn2
 replace G : Bh.l2 x' size_2 i_2 = some o2 := G
 show Cp _ _ _ _ (mk _ _ _)
 unfold Bh.l2 at G
 refine An <| Bt 1 41 Bg fun B => ?_
 refine C1 rfl G (fun h10 G => ?_) fun h10 G => ?_
 refine C9 ?_
 refine An <| Ar <| An <| By (ι := Bool) (fun (x42_3 : Bool) => mk [(1, .ptr 0 0), (3, vk size_2), (4, vk i_2), (42, .val (.bool x42_3))] [(0, .box [.sl 2 (As A5.enc x'.Sections), .sl 2 (As Bc.enc x'.Symbols)] 53)] 1) (fun (x42_3 : Bool) => Bh.j3 x' size_2 i_2 x42_3 = some o2) ?_ ?_
 refine Aq (Cm _ _ []) 41 185 B rfl rfl ?_
 refine A8 ?_
 obtain ⟨e, he, G⟩ := Ac G
 refine A8 ?_
 refine D1 rfl rfl (Dz Un Wl (by decide) (Eu A5.enc_len (A4 he) (o := 0) (by decide) rfl)) rfl rfl ?_
 refine D1 rfl rfl (D4 Wl (C8 A5.enc_len (A4 he) (o := 0) (c := .str e.Name) rfl rfl)) rfl rfl ?_
 obtain ⟨y, hy, G⟩ := Ac G
 refine Ix (Pv _ _ hy) ?_
 refine A8 ?_
 rcases If G with ⟨h11, G⟩ | ⟨h11, G⟩
 refine B4 fun B => ?_
 exact ⟨true, G, A3 [(0, 0)]⟩
 refine A8 ?_
 refine D1 (Et rfl rfl h11) rfl (Dz W8 Ky (by decide) (Eu A5.enc_len (A4 he) (o := 1) (by decide) rfl)) rfl rfl ?_
 refine D1 (Et rfl rfl h11) rfl (D4 Ky (C8 A5.enc_len (A4 he) (o := 1) (c := .sl 1 (As e8 e.Bytes)) rfl rfl)) rfl rfl ?_
 refine B4 fun B => ?_
 exact ⟨decide (4096 < (e.Bytes.length : Int)), G, A3 [(0, 0)]⟩
 rintro x42_3 G
 replace G : Bh.j3 x' size_2 i_2 x42_3 = some o2 := G
 show Cp _ _ _ _ (mk _ _ _)
 unfold Bh.j3 at G
 refine C1 rfl G (fun h14 G => ?_) fun h14 G => ?_
 refine Bt 1 9 Bg fun B => ?_
 refine El ?_
 replace G := B1 G hn2
 exact Xl
 refine C9 ?_
 refine An <| Bt 1 9 Bg fun B => ?_
 refine Ar <| Gg (fun (k_4 : Int) => mk [(1, .ptr 0 0), (3, vk size_2), (4, vk i_2), (5, vk k_4)] [(0, .box [.sl 2 (As A5.enc x'.Sections), .sl 2 (As Bc.enc x'.Symbols)] 53)] 1) G (A3 [(0, 0)]) ?_
 rintro k_4 m4 o4 G hn4
 replace G : Bh.l4 x' size_2 i_2 k_4 = some o4 := G
 show Cp _ _ _ _ (mk _ _ _)
 unfold Bh.l4 at G
 refine An <| Bt 1 25 Bg fun B => ?_
 refine C1 rfl G (fun h18 G => ?_) fun h18 G => ?_
 refine C9 ?_
 refine An <| Ar <| An <| Br (Cm _ _ []) (by kernel_rfl) [0, 1, 0, 7, 15, 31, 0, 64, 0, 448, 960, 1984, 4095] 25 129 B rfl rfl (by kernel_rfl) ?_
 refine A8 ?_
 obtain ⟨e_2, he_2, G⟩ := Ac G
 refine A8 ?_
 refine D1 rfl rfl (Dz Un Wl (by decide) (Eu A5.enc_len (A4 he_2) (o := 0) (by decide) rfl)) rfl rfl ?_
 refine D1 rfl rfl (D4 Wl (C8 A5.enc_len (A4 he_2) (o := 0) (c := .str e_2.Name) rfl rfl)) rfl rfl ?_
 refine A8 ?_
 obtain ⟨e_3, he_3, G⟩ := Ac G
 refine A8 ?_
 refine D1 rfl rfl (Dz Un Wl (by decide) (Eu A5.enc_len (A4 he_3) (o := 0) (by decide) rfl)) rfl rfl ?_
 refine D1 rfl rfl (D4 Wl (C8 A5.enc_len (A4 he_3) (o := 0) (c := .str e_3.Name) rfl rfl)) rfl rfl ?_
 refine B4 fun B => ?_
 refine C1 rfl G (fun h20 G => ?_) fun h20 G => ?_
 refine Bt 129 137 B fun B => ?_
 refine El ?_
 replace G := B1 G hn4
 replace G := B1 G hn2
 exact Xl
 refine C9 ?_
 refine Aq (Cm _ _ []) 129 153 B rfl rfl ?_
 refine B4 fun B => ?_
 obtain rfl := oi_ G
 exact ⟨(W (k_4 + 1), m4), xO _, hn4, A3 [(0, 0)]⟩
 refine F8 ?_
 replace G := B1 G hn4
 refine Br (Cm _ _ []) (by kernel_rfl) [0, 1, 0, 4, 0, 28, 60, 124, 252, 511, 0, 1024, 0, 7168, 15360, 31744, 64512, 131071, 262143] 25 177 B rfl rfl (by kernel_rfl) ?_
 refine A8 ?_
 obtain ⟨e_4, he_4, G⟩ := Ac G
 refine A8 ?_
 refine D1 rfl rfl (Dz Un Wl (by decide) (Eu A5.enc_len (A4 he_4) (o := 0) (by decide) rfl)) rfl rfl ?_
 refine D1 rfl rfl (D4 Wl (C8 A5.enc_len (A4 he_4) (o := 0) (c := .str e_4.Name) rfl rfl)) rfl rfl ?_
 refine D1 rfl rfl (Nq Pd) rfl rfl ?_
 refine A8 ?_
 refine D1 rfl rfl (Dz W8 Ky (by decide) (Eu A5.enc_len (A4 he_4) (o := 1) (by decide) rfl)) rfl rfl ?_
 refine D1 rfl rfl (D4 Ky (C8 A5.enc_len (A4 he_4) (o := 1) (c := .sl 1 (As e8 e_4.Bytes)) rfl rfl)) rfl rfl ?_
 refine B4 fun B => ?_
 refine Aq (Cm _ _ []) 177 201 B rfl rfl ?_
 refine B4 fun B => ?_
 obtain rfl := oi_ G
 exact ⟨((W ((W ((W (size_2 + 3)) + (e_4.Name.size : Int))) + (e_4.Bytes.length : Int)), W (i_2 + 1)), m2), xO _, hn2, A3 [(0, 0)]⟩
 refine F8 ?_
 replace G := B1 G hn2
 refine An <| Bt 41 49 B fun B => ?_
 refine Ar <| Gg (fun ((size_5, i_5) : Int × Int) => mk [(1, .ptr 0 0), (3, vk size_5), (6, vk i_5)] [(0, .box [.sl 2 (As A5.enc x'.Sections), .sl 2 (As Bc.enc x'.Symbols)] 53)] 1) G (A3 [(0, 0)]) ?_
 rintro ⟨size_5, i_5⟩ m5 o5 G hn5
 replace G : Bh.l5 x' size_5 i_5 = some o5 := G
 show Cp _ _ _ _ (mk _ _ _)
 unfold Bh.l5 at G
 refine An <| Bt 1 41 Bg fun B => ?_
 refine C1 rfl G (fun h27 G => ?_) fun h27 G => ?_
 refine C9 ?_
 refine An <| Ar <| An <| By (ι := Bool) (fun (x111_6 : Bool) => mk [(1, .ptr 0 0), (3, vk size_5), (6, vk i_5), (111, .val (.bool x111_6))] [(0, .box [.sl 2 (As A5.enc x'.Sections), .sl 2 (As Bc.enc x'.Symbols)] 53)] 1) (fun (x111_6 : Bool) => Bh.j6 x' size_5 i_5 x111_6 = some o5) ?_ ?_
 refine Aq (Cm _ _ []) 41 249 B rfl rfl ?_
 refine A8 ?_
 obtain ⟨e_5, he_5, G⟩ := Ac G
 refine A8 ?_
 refine D1 rfl rfl (Dz Ug Wl (by decide) (Eu Bc.enc_len (A4 he_5) (o := 0) (by decide) rfl)) rfl rfl ?_
 refine D1 rfl rfl (D4 Wl (C8 Bc.enc_len (A4 he_5) (o := 0) (c := .str e_5.Name) rfl rfl)) rfl rfl ?_
 obtain ⟨y_2, hy_2, G⟩ := Ac G
 refine Ix (Pv _ _ hy_2) ?_
 refine A8 ?_
 rcases If G with ⟨h28, G⟩ | ⟨h28, G⟩
 refine B4 fun B => ?_
 exact ⟨true, G, A3 [(0, 0)]⟩
 refine A8 ?_
 refine D1 (Et rfl rfl h28) rfl (Dz bL Yr (by decide) (Eu Bc.enc_len (A4 he_5) (o := 1) (by decide) rfl)) rfl rfl ?_
 refine D1 (Et rfl rfl h28) rfl (D4 Yr (C8 Bc.enc_len (A4 he_5) (o := 1) (c := .int .i64 e_5.Value) rfl rfl)) rfl rfl ?_
 refine A8 ?_
 rcases If G with ⟨h30, G⟩ | ⟨h30, G⟩
 refine B4 fun B => ?_
 exact ⟨true, G, A3 [(0, 0)]⟩
 refine A8 ?_
 refine D1 (Et rfl rfl h30) rfl (Dz bL Yr (by decide) (Eu Bc.enc_len (A4 he_5) (o := 1) (by decide) rfl)) rfl rfl ?_
 refine D1 (Et rfl rfl h30) rfl (D4 Yr (C8 Bc.enc_len (A4 he_5) (o := 1) (c := .int .i64 e_5.Value) rfl rfl)) rfl rfl ?_
 refine B4 fun B => ?_
 exact ⟨decide (4294967296 <= e_5.Value), G, A3 [(0, 0)]⟩
 rintro x111_6 G
 replace G : Bh.j6 x' size_5 i_5 x111_6 = some o5 := G
 show Cp _ _ _ _ (mk _ _ _)
 unfold Bh.j6 at G
 refine C1 rfl G (fun h33 G => ?_) fun h33 G => ?_
 refine Bt 1 9 Bg fun B => ?_
 refine El ?_
 replace G := B1 G hn5
 exact Xl
 refine C9 ?_
 refine An <| Bt 1 9 Bg fun B => ?_
 refine Ar <| Gg (fun (k_7 : Int) => mk [(1, .ptr 0 0), (3, vk size_5), (6, vk i_5), (7, vk k_7)] [(0, .box [.sl 2 (As A5.enc x'.Sections), .sl 2 (As Bc.enc x'.Symbols)] 53)] 1) G (A3 [(0, 0)]) ?_
 rintro k_7 m7 o7 G hn7
 replace G : Bh.l7 x' size_5 i_5 k_7 = some o7 := G
 show Cp _ _ _ _ (mk _ _ _)
 unfold Bh.l7 at G
 refine An <| Bt 1 25 Bg fun B => ?_
 refine C1 rfl G (fun h37 G => ?_) fun h37 G => ?_
 refine C9 ?_
 refine An <| Ar <| An <| Br (Cm _ _ []) (by kernel_rfl) [0, 1, 0, 7, 15, 31, 0, 64, 0, 448, 960, 1984, 4095] 25 129 B rfl rfl (by kernel_rfl) ?_
 refine A8 ?_
 obtain ⟨e_6, he_6, G⟩ := Ac G
 refine A8 ?_
 refine D1 rfl rfl (Dz Ug Wl (by decide) (Eu Bc.enc_len (A4 he_6) (o := 0) (by decide) rfl)) rfl rfl ?_
 refine D1 rfl rfl (D4 Wl (C8 Bc.enc_len (A4 he_6) (o := 0) (c := .str e_6.Name) rfl rfl)) rfl rfl ?_
 refine A8 ?_
 obtain ⟨e_7, he_7, G⟩ := Ac G
 refine A8 ?_
 refine D1 rfl rfl (Dz Ug Wl (by decide) (Eu Bc.enc_len (A4 he_7) (o := 0) (by decide) rfl)) rfl rfl ?_
 refine D1 rfl rfl (D4 Wl (C8 Bc.enc_len (A4 he_7) (o := 0) (c := .str e_7.Name) rfl rfl)) rfl rfl ?_
 refine B4 fun B => ?_
 refine C1 rfl G (fun h39 G => ?_) fun h39 G => ?_
 refine Bt 129 137 B fun B => ?_
 refine El ?_
 replace G := B1 G hn7
 replace G := B1 G hn5
 exact Xl
 refine C9 ?_
 refine Aq (Cm _ _ []) 129 153 B rfl rfl ?_
 refine B4 fun B => ?_
 obtain rfl := oi_ G
 exact ⟨(W (k_7 + 1), m7), xO _, hn7, A3 [(0, 0)]⟩
 refine F8 ?_
 replace G := B1 G hn7
 refine Aq (Cm _ _ []) 25 113 B rfl rfl ?_
 refine A8 ?_
 obtain ⟨e_8, he_8, G⟩ := Ac G
 refine A8 ?_
 refine D1 rfl rfl (Dz Ug Wl (by decide) (Eu Bc.enc_len (A4 he_8) (o := 0) (by decide) rfl)) rfl rfl ?_
 refine D1 rfl rfl (D4 Wl (C8 Bc.enc_len (A4 he_8) (o := 0) (c := .str e_8.Name) rfl rfl)) rfl rfl ?_
 refine D1 rfl rfl (Nq Pd) rfl rfl ?_
 refine B4 fun B => ?_
 refine Aq (Cm _ _ []) 113 137 B rfl rfl ?_
 refine B4 fun B => ?_
 obtain rfl := oi_ G
 exact ⟨((W ((W (size_5 + 5)) + (e_8.Name.size : Int)), W (i_5 + 1)), m5), xO _, hn5, A3 [(0, 0)]⟩
 refine F8 ?_
 replace G := B1 G hn5
 refine An <| Bt 41 57 B fun B => ?_
 refine C1 rfl G (fun h45 G => ?_) fun h45 G => ?_
 refine C4 57 65 B ?_
 exact F9
 refine C9 ?_
 refine Bt 57 65 B fun B => ?_
 exact Nv
theorem Yh (l : (List Aa)) (u : Aa) (r : (List Aa)) (G : B9 l u = some r) : Fn Try.prog 48 0 [.sl 2 (As Aa.enc l), .agg [vk u.Alg, vk u.Bits]] [] (fun d' b' => d' = .sl 2 (As Aa.enc r) /\ b' = []) := by
 unfold B9 at G
 refine Fn.of Try.func48 rfl rfl rfl fun w0 I ρ0 => ?_
 show Cp _ ⟨w0, I, ρ0, 0, 0, 67⟩ _ _ _
 refine Bt 0 16 Bg fun B => ?_
 refine Bt 16 24 B fun B => ?_
 refine An <| Ar <| Gg (fun (k_1 : Int) => mk [(0, .sl 2 (As Aa.enc l)), (3, .ptr 0 0), (5, vk k_1)] [(0, .box [vk u.Alg, vk u.Bits] 43)] 1) G (A3 [(0, 0)]) ?_
 rintro k_1 m1 o1 G hn1
 replace G : B9.l1 l u k_1 = some o1 := G
 show Cp _ _ _ _ (mk _ _ _)
 unfold B9.l1 at G
 refine An <| By (ι := Bool) (fun (x39_2 : Bool) => mk [(0, .sl 2 (As Aa.enc l)), (3, .ptr 0 0), (5, vk k_1), (39, .val (.bool x39_2))] [(0, .box [vk u.Alg, vk u.Bits] 43)] 1) (fun (x39_2 : Bool) => B9.j2 l u k_1 x39_2 = some o1) ?_ ?_
 refine Br (Cm _ _ []) (by kernel_rfl) [0, 0, 2, 7, 15, 31, 31, 127, 255, 511, 31, 1055, 4095, 8191, 16383, 16383, 65535, 131071, 262143, 16383, 540671, 2097151, 4194303, 8388607, 8388607, 33554431, 67108863, 134217727, 8388607, 276824063, 1073741823, 2147483647, 4294967295, 8589934591] 1 273 Bg rfl rfl (by kernel_rfl) ?_
 refine A8 ?_
 rcases If G with ⟨h3, G⟩ | ⟨h3, G⟩
 refine A8 ?_
 obtain ⟨e, he, G⟩ := Ac G
 refine A8 ?_
 refine D1 (Et rfl rfl h3) rfl (Dz bO Yr (by decide) (Eu Aa.enc_len (A4 he) (o := 0) (by decide) rfl)) rfl rfl ?_
 refine D1 (Et rfl rfl h3) rfl (D4 Yr (C8 Aa.enc_len (A4 he) (o := 0) (c := .int .i64 e.Alg) rfl rfl)) rfl rfl ?_
 refine A8 ?_
 rcases If G with ⟨h4, G⟩ | ⟨h4, G⟩
 refine B4 fun B => ?_
 exact ⟨true, G, A3 [(0, 0)]⟩
 refine A8 ?_
 refine D1 (Et rfl rfl h4) rfl (Dz bO Yr (by decide) (Eu Aa.enc_len (A4 he) (o := 0) (by decide) rfl)) rfl rfl ?_
 refine D1 (Et rfl rfl h4) rfl (D4 Yr (C8 Aa.enc_len (A4 he) (o := 0) (c := .int .i64 e.Alg) rfl rfl)) rfl rfl ?_
 refine A8 ?_
 rcases If G with ⟨h6, G⟩ | ⟨h6, G⟩
 refine A8 ?_
 refine D1 (Et rfl rfl h6) rfl (Dz hY Yr (by decide) (Eu Aa.enc_len (A4 he) (o := 1) (by decide) rfl)) rfl rfl ?_
 refine D1 (Et rfl rfl h6) rfl (D4 Yr (C8 Aa.enc_len (A4 he) (o := 1) (c := .int .i64 e.Bits) rfl rfl)) rfl rfl ?_
 refine B4 fun B => ?_
 exact ⟨decide (e.Bits < u.Bits), G, A3 [(0, 0)]⟩
 refine B4 fun B => ?_
 exact ⟨false, G, A3 [(0, 0)]⟩
 refine B4 fun B => ?_
 exact ⟨false, G, A3 [(0, 0)]⟩
 rintro x39_2 G
 replace G : B9.j2 l u k_1 x39_2 = some o1 := G
 show Cp _ _ _ _ (mk _ _ _)
 unfold B9.j2 at G
 refine C1 rfl G (fun h10 G => ?_) fun h10 G => ?_
 refine C9 ?_
 refine Ar <| Aq (Cm _ _ []) 1 25 Bg rfl rfl ?_
 refine B4 fun B => ?_
 obtain rfl := oi_ G
 exact ⟨(W (k_1 + 1), m1), xO _, hn1, A3 [(0, 0)]⟩
 refine F8 ?_
 replace G := B1 G hn1
 refine An <| By (ι := Bool) (fun (x53_3 : Bool) => mk [(0, .sl 2 (As Aa.enc l)), (3, .ptr 0 0), (5, vk k_1), (53, .val (.bool x53_3))] [(0, .box [vk u.Alg, vk u.Bits] 43)] 1) (fun (x53_3 : Bool) => B9.j3 l u k_1 x53_3 = some r) ?_ ?_
 refine Br (Cm _ _ []) (by kernel_rfl) [0, 0, 2, 7, 15, 31, 31, 127, 255, 31, 1023, 2047] 1 97 Bg rfl rfl (by kernel_rfl) ?_
 refine A8 ?_
 rcases If G with ⟨h12, G⟩ | ⟨h12, G⟩
 refine A8 ?_
 obtain ⟨e_2, he_2, G⟩ := Ac G
 refine A8 ?_
 refine Xz he_2 ?_
 refine A8 ?_
 refine D1 (Et rfl rfl h12) rfl (Ui e_2 u) rfl rfl ?_
 refine B4 fun B => ?_
 exact ⟨decide (e_2 = u), G, A3 [(0, 0)]⟩
 refine B4 fun B => ?_
 exact ⟨false, G, A3 [(0, 0)]⟩
 rintro x53_3 G
 replace G : B9.j3 l u k_1 x53_3 = some r := G
 show Cp _ _ _ _ (mk _ _ _)
 unfold B9.j3 at G
 refine C1 rfl G (fun h15 G => ?_) fun h15 G => ?_
 refine C4 1 17 Bg ?_
 exact F9
 refine C9 ?_
 refine An <| Br (Cm _ _ []) (by kernel_rfl) [0, 0, 0, 6, 15, 0, 32, 127, 0, 0, 768, 2047, 4095] 1 105 Bg rfl rfl (by kernel_rfl) ?_
 refine D1 rfl rfl (Nw Na oM (by decide) rfl rfl rfl rfl Hu (cs := []) .nil rfl (l := ([] : List Aa)) (f := Aa.enc) rfl) rfl rfl ?_
 refine A8 ?_
 obtain ⟨l_2, hl_2, G⟩ := Ac G
 refine D1 rfl rfl (Wf Na Aa.enc_len hl_2) rfl rfl ?_
 obtain ⟨l_3, hl_3, G⟩ := Ac G
 refine Ei (rd := [1]) rfl rfl (Fu Na Aa.enc_len .row rfl .sl rfl hl_3 rfl) rfl rfl ?_
 refine A8 ?_
 refine Ik Na oM Hu ([u] : List Aa) Aa.enc ?_
 obtain ⟨l_4, hl_4, G⟩ := Ac G
 refine Ei (rd := [33, 49]) rfl rfl (Fu Na Aa.enc_len .row rfl .row rfl hl_4 rfl) rfl rfl ?_
 refine A8 ?_
 obtain ⟨l_5, hl_5, G⟩ := Ac G
 refine D1 rfl rfl (gA Na Aa.enc_len hl_5) rfl rfl ?_
 obtain ⟨l_6, hl_6, G⟩ := Ac G
 refine Ei (rd := [57]) rfl rfl (Fu Na Aa.enc_len .row rfl .sl rfl hl_6 rfl) rfl rfl ?_
 exact F9
theorem Xg (p : (List Ai)) (x' : Bv) (r : (List Aa) × Int) (G : Cr p x' = some r) : Fn Try.prog 28 0 [.sl 3 (As Ai.enc p), .agg [.sl 2 (As A5.enc x'.Sections), .sl 2 (As Bc.enc x'.Symbols)]] [] (fun d' b' => d' = .tup [.sl 2 (As Aa.enc r.1), vk r.2] /\ b' = []) := by
 unfold Cr at G
 refine Fn.of Try.func28 rfl rfl rfl fun w0 I ρ0 => ?_
 show Cp _ ⟨w0, I, ρ0, 0, 0, 60⟩ _ _ _
 refine Bt 0 24 Bg fun B => ?_
 refine An <| C4 24 48 B ?_
 refine A8 ?_
 obtain ⟨y, hy, G⟩ := Ac G
 refine Ix (Jn _ _ hy) ?_
 refine B4 fun B => ?_
 refine Bt 48 64 B fun B => ?_
 refine C1 rfl G (fun h4 G => ?_) fun h4 G => ?_
 refine C4 64 88 B ?_
 exact F9
 refine C9 ?_
 refine An <| C4 64 88 B ?_
 refine A8 ?_
 obtain ⟨y_2, hy_2, G⟩ := Ac G
 refine Ix (Vs _ _ hy_2) ?_
 refine B4 fun B => ?_
 refine Bt 88 104 B fun B => ?_
 refine C1 rfl G (fun h8 G => ?_) fun h8 G => ?_
 refine C4 104 128 B ?_
 exact F9
 refine C9 ?_
 refine Bt 104 112 B fun B => ?_
 refine An <| Bt 112 120 B fun B => ?_
 refine Ar <| Gg (fun ((out_1, i_1) : List Aa × Int) => mk [(0, .sl 3 (As Ai.enc p)), (3, .ptr 0 0), (8, .sl 2 (As Aa.enc out_1)), (9, vk i_1)] [(0, .box [.sl 2 (As A5.enc x'.Sections), .sl 2 (As Bc.enc x'.Symbols)] 53)] 1) G (A3 [(0, 0)]) ?_
 rintro ⟨out_1, i_1⟩ m1 o1 G hn1
 replace G : Cr.l1 p x' out_1 i_1 = some o1 := G
 show Cp _ _ _ _ (mk _ _ _)
 unfold Cr.l1 at G
 refine An <| Bt 1 41 Bg fun B => ?_
 refine C1 rfl G (fun h13 G => ?_) fun h13 G => ?_
 refine C9 ?_
 refine An <| Ar <| C4 41 145 B ?_
 refine A8 ?_
 obtain ⟨e, he, G⟩ := Ac G
 refine A8 ?_
 refine D1 rfl rfl (Dz W8 Ky (by decide) (Eu A5.enc_len (A4 he) (o := 1) (by decide) rfl)) rfl rfl ?_
 refine D1 rfl rfl (D4 Ky (C8 A5.enc_len (A4 he) (o := 1) (c := .sl 1 (As e8 e.Bytes)) rfl rfl)) rfl rfl ?_
 obtain ⟨y_3, hy_3, G⟩ := Ac G
 refine Ix (O7 _ _ _ hy_3) ?_
 refine B4 fun B => ?_
 refine Bt 145 153 B fun B => ?_
 refine Ar <| Gg (fun ((out_2, k_2) : List Aa × Int) => mk [(0, .sl 3 (As Ai.enc p)), (3, .ptr 0 0), (8, .sl 2 (As Aa.enc out_2)), (9, vk i_1), (10, .sl 1 (As eI y_3.1)), (12, vk k_2)] [(0, .box [.sl 2 (As A5.enc x'.Sections), .sl 2 (As Bc.enc x'.Symbols)] 53)] 1) G (A3 [(0, 0)]) ?_
 rintro ⟨out_2, k_2⟩ m2 o2 G hn2
 replace G : Cr.l2 p i_1 y_3 out_2 k_2 = some o2 := G
 show Cp _ _ _ _ (mk _ _ _)
 unfold Cr.l2 at G
 refine An <| Bt 1 33 Bg fun B => ?_
 refine C1 rfl G (fun h17 G => ?_) fun h17 G => ?_
 refine C9 ?_
 refine By (ι := List Aa) (fun (out_3 : List Aa) => mk [(0, .sl 3 (As Ai.enc p)), (3, .ptr 0 0), (8, .sl 2 (As Aa.enc out_3)), (9, vk i_1), (10, .sl 1 (As eI y_3.1)), (12, vk k_2)] [(0, .box [.sl 2 (As A5.enc x'.Sections), .sl 2 (As Bc.enc x'.Symbols)] 53)] 1) (fun (out_3 : List Aa) => Cr.j3 k_2 out_3 = some o2) ?_ ?_
 refine Ar <| C4 33 73 B ?_
 refine A8 ?_
 obtain ⟨e_2, he_2, G⟩ := Ac G
 refine A8 ?_
 refine Uw he_2 ?_
 refine B4 fun B => ?_
 refine C1 rfl G (fun h19 G => ?_) fun h19 G => ?_
 refine Aq (Cm _ _ []) 73 137 B rfl rfl ?_
 refine A8 ?_
 obtain ⟨e_3, he_3, G⟩ := Ac G
 refine A8 ?_
 refine D1 rfl rfl (Dz Xm Ut (by decide) (Eu Ai.enc_len (A4 he_3) (o := 0) (by decide) rfl)) rfl rfl ?_
 refine D1 rfl rfl (Qj Ut (H4 Ai.enc_len (A4 he_3) (o := 0) (m := 2) (cs := [.int .i64 e_3.Use.Alg, .int .i64 e_3.Use.Bits]) rfl (by decide) rfl) (Eb Ai.enc_len (A4 he_3) (o := 0) (m := 2) (by decide) rfl)) rfl rfl ?_
 obtain ⟨y_4, hy_4, G⟩ := Ac G
 refine Ix (Yh _ _ _ hy_4) ?_
 refine B4 fun B => ?_
 exact ⟨y_4, G, A3 [(0, 0)]⟩
 refine C9 ?_
 exact ⟨out_2, G, A3 [(0, 0)]⟩
 rintro out_3 G
 replace G : Cr.j3 k_2 out_3 = some o2 := G
 show Cp _ _ _ _ (mk _ _ _)
 unfold Cr.j3 at G
 refine Aq (Cm _ _ []) 1 25 Bg rfl rfl ?_
 refine B4 fun B => ?_
 obtain rfl := oi_ G
 exact ⟨((out_3, W (k_2 + 1)), m2), xO _, hn2, A3 [(0, 0)]⟩
 refine F8 ?_
 replace G := B1 G hn2
 refine Aq (Cm _ _ []) 33 57 B rfl rfl ?_
 refine B4 fun B => ?_
 obtain rfl := oi_ G
 exact ⟨((out_2, W (i_1 + 1)), m1), xO _, hn1, A3 [(0, 0)]⟩
 refine F8 ?_
 replace G := B1 G hn1
 refine Bt 41 65 B fun B => ?_
 exact Nv
theorem Re (a : (List Ab)) (b : (List Ab)) (r : Bool) (G : Di a b = some r) : Fn Try.prog 19 0 [.sl 2 (As Ab.enc a), .sl 2 (As Ab.enc b)] [] (fun d' b' => d' = .val (.bool r) /\ b' = []) := by
 unfold Di at G
 refine Fn.of Try.func19 rfl rfl rfl fun w0 I ρ0 => ?_
 show Cp _ ⟨w0, I, ρ0, 0, 0, 26⟩ _ _ _
 refine Bt 0 8 Bg fun B => ?_
 refine An <| Bt 8 48 B fun B => ?_
 refine C1 rfl G (fun h3 G => ?_) fun h3 G => ?_
 refine C4 48 56 B ?_
 exact F9
 refine C9 ?_
 refine An <| Bt 48 56 B fun B => ?_
 refine Ar <| Gg (fun (i_1 : Int) => mk [(0, .sl 2 (As Ab.enc a)), (1, .sl 2 (As Ab.enc b)), (5, vk i_1)] [] 0) G (A3 []) ?_
 rintro i_1 m1 o1 G hn1
 replace G : Di.l1 a b i_1 = some o1 := G
 show Cp _ _ _ _ (mk _ _ _)
 unfold Di.l1 at G
 refine An <| Bt 0 32 Bg fun B => ?_
 refine C1 rfl G (fun h7 G => ?_) fun h7 G => ?_
 refine C9 ?_
 refine An <| Ar <| An <| Br (Cm _ _ []) (by kernel_rfl) [0, 0, 3, 7, 0, 0, 48, 112, 255] 32 104 B rfl rfl (by kernel_rfl) ?_
 refine A8 ?_
 obtain ⟨e, he, G⟩ := Ac G
 refine A8 ?_
 refine Xz he ?_
 refine A8 ?_
 obtain ⟨e_2, he_2, G⟩ := Ac G
 refine A8 ?_
 refine Xz he_2 ?_
 refine D1 rfl rfl (aL e e_2) rfl rfl ?_
 refine D2 fun B => ?_
 refine C1 rfl G (fun h9 G => ?_) fun h9 G => ?_
 refine Bt 104 112 B fun B => ?_
 refine El ?_
 replace G := B1 G hn1
 exact Xl
 refine C9 ?_
 refine Aq (Cm _ _ []) 104 128 B rfl rfl ?_
 refine B4 fun B => ?_
 obtain rfl := oi_ G
 exact ⟨(W (i_1 + 1), m1), xO _, hn1, A3 []⟩
 refine F8 ?_
 replace G := B1 G hn1
 refine Bt 32 40 B fun B => ?_
 exact Nv
theorem Rn (a : (List Aa)) (b : (List Aa)) (r : Bool) (G : Dj a b = some r) : Fn Try.prog 29 0 [.sl 2 (As Aa.enc a), .sl 2 (As Aa.enc b)] [] (fun d' b' => d' = .val (.bool r) /\ b' = []) := by
 unfold Dj at G
 refine Fn.of Try.func29 rfl rfl rfl fun w0 I ρ0 => ?_
 show Cp _ ⟨w0, I, ρ0, 0, 0, 26⟩ _ _ _
 refine Bt 0 8 Bg fun B => ?_
 refine An <| Bt 8 48 B fun B => ?_
 refine C1 rfl G (fun h3 G => ?_) fun h3 G => ?_
 refine C4 48 56 B ?_
 exact F9
 refine C9 ?_
 refine An <| Bt 48 56 B fun B => ?_
 refine Ar <| Gg (fun (i_1 : Int) => mk [(0, .sl 2 (As Aa.enc a)), (1, .sl 2 (As Aa.enc b)), (5, vk i_1)] [] 0) G (A3 []) ?_
 rintro i_1 m1 o1 G hn1
 replace G : Dj.l1 a b i_1 = some o1 := G
 show Cp _ _ _ _ (mk _ _ _)
 unfold Dj.l1 at G
 refine An <| Bt 0 32 Bg fun B => ?_
 refine C1 rfl G (fun h7 G => ?_) fun h7 G => ?_
 refine C9 ?_
 refine An <| Ar <| An <| Br (Cm _ _ []) (by kernel_rfl) [0, 0, 3, 7, 0, 0, 48, 112, 255] 32 104 B rfl rfl (by kernel_rfl) ?_
 refine A8 ?_
 obtain ⟨e, he, G⟩ := Ac G
 refine A8 ?_
 refine Xz he ?_
 refine A8 ?_
 obtain ⟨e_2, he_2, G⟩ := Ac G
 refine A8 ?_
 refine Xz he_2 ?_
 refine D1 rfl rfl (T8 e e_2) rfl rfl ?_
 refine D2 fun B => ?_
 refine C1 rfl G (fun h9 G => ?_) fun h9 G => ?_
 refine Bt 104 112 B fun B => ?_
 refine El ?_
 replace G := B1 G hn1
 exact Xl
 refine C9 ?_
 refine Aq (Cm _ _ []) 104 128 B rfl rfl ?_
 refine B4 fun B => ?_
 obtain rfl := oi_ G
 exact ⟨(W (i_1 + 1), m1), xO _, hn1, A3 []⟩
 refine F8 ?_
 replace G := B1 G hn1
 refine Bt 32 40 B fun B => ?_
 exact Nv
theorem O1 (l : (List Int)) (odd : UInt8) (r : Bool) (G : Bz l odd = some r) : Fn Try.prog 7 0 [.sl 1 (As eI l), .val (.int .u8 (odd.toNat : Int))] [] (fun d' b' => d' = .val (.bool r) /\ b' = []) := by
 unfold Bz at G
 refine Fn.of Try.func7 rfl rfl rfl fun w0 I ρ0 => ?_
 show Cp _ ⟨w0, I, ρ0, 0, 0, 161⟩ _ _ _
 refine Bt 0 8 Bg fun B => ?_
 refine An <| C4 8 32 B ?_
 refine A8 ?_
 obtain ⟨y, hy, G⟩ := Ac G
 refine Ix (Xa _ _ hy) ?_
 refine B4 fun B => ?_
 refine C1 rfl G (fun h3 G => ?_) fun h3 G => ?_
 refine C4 32 48 B ?_
 obtain ⟨y_2, hy_2, G⟩ := Ac G
 refine Ix (Pa _ hy_2) ?_
 exact F9
 refine C9 ?_
 refine C4 32 56 B ?_
 refine A8 ?_
 obtain ⟨y_3, hy_3, G⟩ := Ac G
 refine F6 (rd := []) (ps := []) (gs := []) false rfl (Yv _ _ hy_3) rfl rfl (.cons .sl .nil) rfl rfl (by intro h; cases h) rfl (by intro h; first | (cases h; done) | exact ⟨_, _, ⟨rfl, rfl⟩, by simp, by simp⟩) ?_
 rintro _ _ ⟨rfl, rfl⟩
 refine B4 fun B => ?_
 refine C4 56 112 B ?_
 refine A8 ?_
 obtain ⟨y_4, hy_4, G⟩ := Ac G
 refine F6 (rd := [40]) (ps := [40]) (gs := []) false rfl (O5 _ _ hy_4) rfl rfl (.cons (.ptr rfl) .nil) ⟨_, _, _, rfl, .head _, ⟨_, rfl, (by repeat' (first | exact Kx.nil | apply Kx.cons | exact Ag.val | exact Ag.sl | exact Ag.nils | exact Ag.ptr rfl | exact Ag.rowK rfl))⟩, rfl⟩ rfl (by intro h; cases h) rfl (by intro h; first | (cases h; done) | exact ⟨_, _, ⟨rfl, rfl⟩, by simp, by simp⟩) ?_
 rintro _ _ ⟨rfl, rfl⟩
 refine A8 ?_
 obtain ⟨y_5, hy_5, G⟩ := Ac G
 refine F6 (rd := [40]) (ps := [40]) (gs := []) false rfl (X9 _ _ hy_5) rfl rfl (.cons (.ptr rfl) .nil) ⟨_, _, _, rfl, .head _, ⟨_, rfl, (by repeat' (first | exact Kx.nil | apply Kx.cons | exact Ag.val | exact Ag.sl | exact Ag.nils | exact Ag.ptr rfl | exact Ag.rowK rfl))⟩, rfl⟩ rfl (by intro h; cases h) rfl (by intro h; first | (cases h; done) | exact ⟨_, _, ⟨rfl, rfl⟩, by simp, by simp⟩) ?_
 rintro _ _ ⟨rfl, rfl⟩
 refine B4 fun B => ?_
 refine C4 112 136 B ?_
 refine A8 ?_
 obtain ⟨y_6, hy_6, G⟩ := Ac G
 refine F6 (rd := [40]) (ps := [40]) (gs := []) false rfl (Qz _ _ _ hy_6) rfl rfl (.cons (.ptr rfl) (.cons .val .nil)) ⟨_, _, _, rfl, .head _, ⟨_, rfl, (by repeat' (first | exact Kx.nil | apply Kx.cons | exact Ag.val | exact Ag.sl | exact Ag.nils | exact Ag.ptr rfl | exact Ag.rowK rfl))⟩, rfl⟩ rfl (by intro h; cases h) rfl (by intro h; first | (cases h; done) | exact ⟨_, _, ⟨rfl, rfl⟩, by simp, by simp⟩) ?_
 rintro _ _ ⟨rfl, rfl⟩
 refine B4 fun B => ?_
 refine By (ι := List Ai × List UInt8 × List Bc) (fun ((p_2, b_2, l_2_2) : List Ai × List UInt8 × List Bc) => mk [(6, .row 0), (7, .ptr 1 0), (8, .row 2)] [(0, .row 45 3 (As Ai.enc p_2)), (1, .box [.sl 2 (As A5.enc y_5.1.Sections), .row 3] 53), (2, .row 5 1 (As e8 b_2)), (3, .row 57 2 (As Bc.enc l_2_2))] 4) (fun ((p_2, b_2, l_2_2) : List Ai × List UInt8 × List Bc) => Bz.j2 y_5 p_2 b_2 l_2_2 = some r) ?_ ?_
 refine C4 136 152 B ?_
 refine A8 ?_
 obtain ⟨q, hq, G⟩ := Ac G
 refine D1 rfl rfl (qY (a := odd) (b := (11 : UInt8)) hq) rfl rfl ?_
 refine D2 fun B => ?_
 refine Ar <| Bt 152 168 B fun B => ?_
 refine C1 rfl G (fun h10 G => ?_) fun h10 G => ?_
 refine Aq (Cm _ _ []) 168 200 B rfl rfl ?_
 refine A8 ?_
 obtain ⟨e, he, G⟩ := Ac G
 refine A8 ?_
 refine Ei (rd := [64]) rfl rfl (N9 Ky rfl (Eb Ai.enc_len (A4 he) (o := 2) (m := 1) (by decide) rfl) qN (cs' := [.sl 1 (As e8 [])]) (.cons .nil .nil) (Hv Ai.enc_len (A4 he) (o := 2) (x' := (Ai.mk e.Use ([] : (List UInt8)))) (xR rfl) rfl rfl)) rfl rfl ?_
 refine D2 fun B => ?_
 exact ⟨(Bi y_4.1 ((0 : Int).toNat) (Ai.mk e.Use ([] : (List UInt8))), y_6.1, y_5.1.Symbols), G, A3 [(0, 64), (1, 88), (2, 120), (3, 80)]⟩
 refine Bt 168 184 B fun B => ?_
 refine C1 rfl G (fun h13 G => ?_) fun h13 G => ?_
 refine Aq (Cm _ _ []) 184 224 B rfl rfl ?_
 refine A8 ?_
 refine Z9 Zk pZ oM ?_
 obtain ⟨e_2, he_2, G⟩ := Ac G
 refine A8 ?_
 refine Ei (rd := [64]) rfl rfl (N9 Ut rfl (Eb Ai.enc_len (A4 he_2) (o := 0) (m := 2) (by decide) rfl) Hu (cs' := [.int .i64 0, .int .i64 0]) (.cons .int (.cons .int .nil)) (Hv Ai.enc_len (A4 he_2) (o := 0) (x' := (Ai.mk (Aa.mk 0 0) e_2.Bytes)) (xR rfl) rfl rfl)) rfl rfl ?_
 refine D2 fun B => ?_
 exact ⟨(Bi y_4.1 ((0 : Int).toNat) (Ai.mk (Aa.mk 0 0) e_2.Bytes), y_6.1, y_5.1.Symbols), G, A3 [(0, 64), (1, 88), (2, 120), (3, 80)]⟩
 refine Bt 184 200 B fun B => ?_
 refine C1 rfl G (fun h16 G => ?_) fun h16 G => ?_
 refine Aq (Cm _ _ [232]) 200 264 B rfl rfl ?_
 refine A8 ?_
 obtain ⟨y_7, hy_7, G⟩ := Ac G
 refine G7 [40] [40] [] false (D6 _ _ _ hy_7) ?_
 refine A8 ?_
 obtain ⟨m, hm, G⟩ := Ac G
 refine vJ (rd := []) rfl rfl (Qm (f := e8) Lc z5 gH (.cons .int .nil) rfl hm rfl) rfl rfl rfl ?_
 obtain ⟨e_3, he_3, G⟩ := Ac G
 refine A8 ?_
 refine Ei (rd := [64]) rfl rfl (N9 Ky rfl (Eb Ai.enc_len (A4 he_3) (o := 2) (m := 1) (by decide) rfl) qN (cs' := [.sl 1 (As e8 m)]) (.cons .sl .nil) (Hv Ai.enc_len (A4 he_3) (o := 2) (x' := (Ai.mk e_3.Use m)) (xR rfl) rfl rfl)) rfl rfl ?_
 refine D2 fun B => ?_
 exact ⟨(Bi y_4.1 ((0 : Int).toNat) (Ai.mk e_3.Use m), y_6.1, y_5.1.Symbols), G, A3 [(0, 64), (1, 88), (2, 120), (3, 80)]⟩
 refine Bt 200 216 B fun B => ?_
 refine C1 rfl G (fun h19 G => ?_) fun h19 G => ?_
 refine Ar <| Gg (fun ((d_1, p_1) : Am × List Ai) => mk [(5, .ptr 0 0), (6, .row 1), (7, .ptr 2 0), (8, .row 3)] [(0, .box [.sl 1 (As eI d_1.L), vk d_1.At] 64), (1, .row 45 3 (As Ai.enc p_1)), (2, .box [.sl 2 (As A5.enc y_5.1.Sections), .row 4] 53), (3, .row 5 1 (As e8 y_6.1)), (4, .row 57 2 (As Bc.enc y_5.1.Symbols))] 5) G (A3 [(0, 40), (1, 64), (2, 88), (3, 120), (4, 80)]) ?_
 rintro ⟨d_1, p_1⟩ m1 o1 G hn1
 replace G : Bz.l1 y_5 y_6 d_1 p_1 = some o1 := G
 show Cp _ _ _ _ (mk _ _ _)
 unfold Bz.l1 at G
 refine An <| C4 5 53 Bg ?_
 refine A8 ?_
 obtain ⟨y_8, hy_8, G⟩ := Ac G
 refine G7 [0] [0] [] false (D6 _ _ _ hy_8) ?_
 refine B4 fun B => ?_
 refine C1 rfl G (fun h21 G => ?_) fun h21 G => ?_
 refine C9 ?_
 refine Ar <| Aq (Cm _ _ []) 53 109 B rfl rfl ?_
 refine A8 ?_
 obtain ⟨e_4, he_4, G⟩ := Ac G
 refine A8 ?_
 refine Fj he_4 ?_
 refine Ik fE oR sE ([e_4] : List Ai) Ai.enc ?_
 obtain ⟨l_2, hl_2, G⟩ := Ac G
 refine Ei (rd := [1, 85]) rfl rfl (Fu fE Ai.enc_len .row rfl .row rfl hl_2 rfl) rfl rfl ?_
 refine B4 fun B => ?_
 obtain rfl := oi_ G
 exact ⟨((y_8.2, l_2), m1), xO _, hn1, A3 [(0, 0), (1, 93), (2, 2), (3, 3), (4, 4)]⟩
 refine F8 ?_
 replace G := B1 G hn1
 exact ⟨(p_1, y_6.1, y_5.1.Symbols), G, A3 [(0, 1), (1, 2), (2, 3), (3, 4)]⟩
 refine Bt 216 232 B fun B => ?_
 refine C1 rfl G (fun h24 G => ?_) fun h24 G => ?_
 refine An <| Aq (Cm _ _ [240]) 232 272 B rfl rfl ?_
 refine A8 ?_
 refine eT Fo z3 Jj ([999, 1000, 1001, 4096, 4097] : List Int) eI ?_
 obtain ⟨y_9, hy_9, G⟩ := Ac G
 refine G7 [40] [40] [] false (Ew _ _ _ hy_9) ?_
 obtain ⟨m_2, hm_2, G⟩ := Ac G
 refine D1 rfl rfl (Qm (f := e8) Lc z5 gH (.cons .int .nil) rfl hm_2 rfl) rfl rfl ?_
 refine B4 fun B => ?_
 refine Aq (Cm _ _ [280]) 272 312 B rfl rfl ?_
 refine A8 ?_
 refine eT Lc z5 gH ([(0 : UInt8)] : List UInt8) e8 ?_
 obtain ⟨e_5, he_5, G⟩ := Ac G
 refine A8 ?_
 refine Ei (rd := [64]) rfl rfl (N9 Ky rfl (Eb Ai.enc_len (A4 he_5) (o := 2) (m := 1) (by decide) rfl) qN (cs' := [.sl 1 (As e8 ([(0 : UInt8)] : List UInt8))]) (.cons .sl .nil) (Hv Ai.enc_len (A4 he_5) (o := 2) (x' := (Ai.mk e_5.Use ([(0 : UInt8)] : List UInt8))) (xR rfl) rfl rfl)) rfl rfl ?_
 refine D2 fun B => ?_
 exact ⟨(Bi y_4.1 ((0 : Int).toNat) (Ai.mk e_5.Use ([(0 : UInt8)] : List UInt8)), m_2, y_5.1.Symbols), G, A3 [(0, 64), (1, 88), (2, 256), (3, 80)]⟩
 refine Bt 232 248 B fun B => ?_
 refine C1 rfl G (fun h28 G => ?_) fun h28 G => ?_
 refine Aq (Cm _ _ []) 248 304 B rfl rfl ?_
 refine A8 ?_
 refine Z9 dG tC uY ?_
 refine Ik iA uY tB ([(Bc.mk (⟨#[]⟩ : ByteArray) 0)] : List Bc) Bc.enc ?_
 obtain ⟨l_3, hl_3, G⟩ := Ac G
 refine Ei (rd := [80, 272]) rfl rfl (Fu iA Bc.enc_len .row rfl .row rfl hl_3 rfl) rfl rfl ?_
 refine B4 fun B => ?_
 exact ⟨(y_4.1, y_6.1, l_3), G, A3 [(0, 64), (1, 88), (2, 120), (3, 280)]⟩
 refine C9 ?_
 exact ⟨(y_4.1, y_6.1, y_5.1.Symbols), G, A3 [(0, 64), (1, 88), (2, 120), (3, 80)]⟩
 rintro ⟨p_2, b_2, l_2_2⟩ G
 replace G : Bz.j2 y_5 p_2 b_2 l_2_2 = some r := G
 show Cp _ _ _ _ (mk _ _ _)
 unfold Bz.j2 at G
 refine An <| J6 (σ' := mk [(6, .sl 3 (As Ai.enc p_2)), (7, .ptr 0 0), (8, .row 1)] [(0, .box [.sl 2 (As A5.enc y_5.1.Sections), .row 2] 53), (1, .row 5 1 (As e8 b_2)), (2, .row 57 2 (As Bc.enc l_2_2))] 3) (A3 [(0, 1), (1, 2), (2, 3)]) ?_
 refine J6 (σ' := mk [(6, .sl 3 (As Ai.enc p_2)), (7, .ptr 0 0), (8, .sl 1 (As e8 b_2))] [(0, .box [.sl 2 (As A5.enc y_5.1.Sections), .row 1] 53), (1, .row 57 2 (As Bc.enc l_2_2))] 2) (A3 [(0, 0), (1, 2)]) ?_
 refine Aq (Cm _ _ []) 2 66 Bg rfl rfl ?_
 refine A8 ?_
 obtain ⟨y_10, hy_10, G⟩ := Ac G
 refine Ix (Nx _ _ _ hy_10) ?_
 refine B4 fun B => ?_
 refine C4 66 130 B ?_
 refine A8 ?_
 obtain ⟨y_11, hy_11, G⟩ := Ac G
 refine Ix (Xd _ _ _ hy_11) ?_
 refine B4 fun B => ?_
 refine C4 130 194 B ?_
 refine A8 ?_
 obtain ⟨y_12, hy_12, G⟩ := Ac G
 refine Ix (Sv _ _ _ hy_12) ?_
 refine B4 fun B => ?_
 refine C4 194 258 B ?_
 refine A8 ?_
 obtain ⟨y_13, hy_13, G⟩ := Ac G
 refine Ix (O7 _ _ _ hy_13) ?_
 refine B4 fun B => ?_
 refine An <| J6 (σ' := mk [(6, .sl 3 (As Ai.enc p_2)), (7, .ptr 0 0), (9, .sl 2 (As Ab.enc y_10.1)), (10, vk y_10.2), (11, .sl 2 (As Ab.enc y_11.1)), (12, vk y_11.2), (13, .sl 1 (As eI y_12.1)), (14, vk y_12.2), (15, .sl 1 (As eI y_13.1)), (16, vk y_13.2)] [(0, .box [.sl 2 (As A5.enc y_5.1.Sections), .sl 2 (As Bc.enc l_2_2)] 53)] 1) (A3 [(0, 0)]) ?_
 refine Aq (Cm _ _ []) 1 65 Bg rfl rfl ?_
 refine A8 ?_
 obtain ⟨y_14, hy_14, G⟩ := Ac G
 refine Ix (U5 _ _ _ hy_14) ?_
 refine B4 fun B => ?_
 refine C4 65 129 B ?_
 refine A8 ?_
 obtain ⟨y_15, hy_15, G⟩ := Ac G
 refine Ix (Xg _ _ _ hy_15) ?_
 refine B4 fun B => ?_
 refine C4 129 441 B ?_
 refine A8 ?_
 obtain ⟨y_16, hy_16, G⟩ := Ac G
 refine Ix (Jx _ _ hy_16) ?_
 refine A8 ?_
 obtain ⟨y_17, hy_17, G⟩ := Ac G
 refine Ix (Jn _ _ hy_17) ?_
 refine A8 ?_
 rcases If G with ⟨h36, G⟩ | ⟨h36, G⟩
 refine A8 ?_
 rcases If G with ⟨h37, G⟩ | ⟨h37, G⟩
 refine A8 ?_
 obtain ⟨y_18, hy_18, G⟩ := Ac G
 refine Ix (Re _ _ _ hy_18) ?_
 refine A8 ?_
 rcases If G with ⟨h38, G⟩ | ⟨h38, G⟩
 refine A8 ?_
 rcases If G with ⟨h39, G⟩ | ⟨h39, G⟩
 refine A8 ?_
 obtain ⟨y_19, hy_19, G⟩ := Ac G
 refine Ix (Ly _ _ _ hy_19) ?_
 refine A8 ?_
 rcases If G with ⟨h40, G⟩ | ⟨h40, G⟩
 refine A8 ?_
 rcases If G with ⟨h41, G⟩ | ⟨h41, G⟩
 refine A8 ?_
 obtain ⟨y_20, hy_20, G⟩ := Ac G
 refine Ix (Rn _ _ _ hy_20) ?_
 refine A8 ?_
 rcases If G with ⟨h42, G⟩ | ⟨h42, G⟩
 obtain ⟨y_21, hy_21, G⟩ := Ac G
 refine Ix (Pa _ hy_21) ?_
 exact F9
 exact F9
 exact F9
 exact F9
 exact F9
 exact F9
 exact F9
 exact F9
end Go.Proofs.Ytfkgbfhpibiheaa
