import Derived.Test.YtfkgbfhpibiheaaT1
import Derived.Test.YtfkgbfhpibiheaaA1
import Derived.Test.YtfkgbfhpibiheaaA4
set_option linter.unusedVariables false
set_option linter.unusedSimpArgs false
set_option maxRecDepth 100000
set_option maxHeartbeats 1600000
namespace Go.Proofs.Ytfkgbfhpibiheaa
open Go.RowKit
theorem Vx (u : Aa) (r : Bool) (G : Ii u = some r) : Fn Try.prog 40 0 [.agg [vk u.Alg, vk u.Bits]] [] (fun d' b' => d' = .val (.bool r) /\ b' = []) := by
 unfold Ii at G
 refine Fn.of Try.func40 rfl rfl rfl fun w0 I ρ0 => ?_
 show Cp _ ⟨w0, I, ρ0, 0, 0, 6⟩ _ _ _
 refine Bt 0 16 Bg fun B => ?_
 refine C4 16 48 B ?_
 refine A8 ?_
 obtain ⟨y, hy, G⟩ := Ac G
 refine Ix (Rh _ _ hy) ?_
 exact F9
theorem Jn (p : (List Ai)) (r : Int) (G : C3 p = some r) : Fn Try.prog 18 0 [.sl 3 (As Ai.enc p)] [] (fun d' b' => d' = vk r /\ b' = []) := by
 unfold C3 at G
 refine Fn.of Try.func18 rfl rfl rfl fun w0 I ρ0 => ?_
 show Cp _ ⟨w0, I, ρ0, 0, 0, 38⟩ _ _ _
 refine Bt 0 8 Bg fun B => ?_
 refine An <| Bt 8 32 B fun B => ?_
 refine C1 rfl G (fun h3 G => ?_) fun h3 G => ?_
 refine C4 32 40 B ?_
 exact F9
 refine C9 ?_
 refine An <| Bt 32 40 B fun B => ?_
 refine Ar <| Gg (fun (i_1 : Int) => mk [(0, .sl 3 (As Ai.enc p)), (3, vk i_1)] [] 0) G (A3 []) ?_
 rintro i_1 m1 o1 G hn1
 replace G : C3.l1 p i_1 = some o1 := G
 show Cp _ _ _ _ (mk _ _ _)
 unfold C3.l1 at G
 refine An <| Bt 0 32 Bg fun B => ?_
 refine C1 rfl G (fun h7 G => ?_) fun h7 G => ?_
 refine C9 ?_
 refine An <| Ar <| By (ι := Bool) (fun (x37_2 : Bool) => mk [(0, .sl 3 (As Ai.enc p)), (3, vk i_1), (37, .val (.bool x37_2))] [] 0) (fun (x37_2 : Bool) => C3.j2 i_1 x37_2 = some o1) ?_ ?_
 refine Aq (Cm _ _ []) 32 232 B rfl rfl ?_
 refine A8 ?_
 obtain ⟨e, he, G⟩ := Ac G
 refine A8 ?_
 refine D1 rfl rfl (Dz Pi Ky (by decide) (Eu Ai.enc_len (A4 he) (o := 2) (by decide) rfl)) rfl rfl ?_
 refine D1 rfl rfl (D4 Ky (C8 Ai.enc_len (A4 he) (o := 2) (c := .sl 1 (As e8 e.Bytes)) rfl rfl)) rfl rfl ?_
 refine A8 ?_
 rcases If G with ⟨h8, G⟩ | ⟨h8, G⟩
 refine B4 fun B => ?_
 exact ⟨true, G, A3 []⟩
 refine A8 ?_
 refine D1 (Et rfl rfl h8) rfl (Dz Pi Ky (by decide) (Eu Ai.enc_len (A4 he) (o := 2) (by decide) rfl)) rfl rfl ?_
 refine D1 (Et rfl rfl h8) rfl (D4 Ky (C8 Ai.enc_len (A4 he) (o := 2) (c := .sl 1 (As e8 e.Bytes)) rfl rfl)) rfl rfl ?_
 refine A8 ?_
 rcases If G with ⟨h10, G⟩ | ⟨h10, G⟩
 refine B4 fun B => ?_
 exact ⟨true, G, A3 []⟩
 refine A8 ?_
 refine D1 (Et rfl rfl h10) rfl (Dz Xm Ut (by decide) (Eu Ai.enc_len (A4 he) (o := 0) (by decide) rfl)) rfl rfl ?_
 refine D1 (Et rfl rfl h10) rfl (Qj Ut (H4 Ai.enc_len (A4 he) (o := 0) (m := 2) (cs := [.int .i64 e.Use.Alg, .int .i64 e.Use.Bits]) rfl (by decide) rfl) (Eb Ai.enc_len (A4 he) (o := 0) (m := 2) (by decide) rfl)) rfl rfl ?_
 obtain ⟨y, hy, G⟩ := Ac G
 refine Ix (Vx _ _ hy) ?_
 refine B4 fun B => ?_
 exact ⟨!y, G, A3 []⟩
 rintro x37_2 G
 replace G : C3.j2 i_1 x37_2 = some o1 := G
 show Cp _ _ _ _ (mk _ _ _)
 unfold C3.j2 at G
 refine C1 rfl G (fun h13 G => ?_) fun h13 G => ?_
 refine Bt 0 8 Bg fun B => ?_
 refine El ?_
 replace G := B1 G hn1
 exact Xl
 refine C9 ?_
 refine Aq (Cm _ _ []) 0 24 Bg rfl rfl ?_
 refine B4 fun B => ?_
 obtain rfl := oi_ G
 exact ⟨(W (i_1 + 1), m1), xO _, hn1, A3 []⟩
 refine F8 ?_
 replace G := B1 G hn1
 refine Bt 32 40 B fun B => ?_
 exact Nv
theorem Tl (p : (List UInt8)) (b : (List UInt8)) (i : Int) (r : Bool) (G : I8 p b i = some r) : Fn Try.prog 37 0 [.sl 1 (As e8 p), .sl 1 (As e8 b), vk i] [] (fun d' b' => d' = .val (.bool r) /\ b' = []) := by
 unfold I8 at G
 refine Fn.of Try.func37 rfl rfl rfl fun w0 I ρ0 => ?_
 show Cp _ ⟨w0, I, ρ0, 0, 0, 27⟩ _ _ _
 refine Bt 0 8 Bg fun B => ?_
 refine An <| Br (Cm _ _ []) (by kernel_rfl) [0, 1, 0, 4, 0, 28, 63, 127, 255, 255, 255, 255, 2303, 7423, 16383, 32767, 255, 65791, 262143, 524287, 1048575] 8 176 B rfl rfl (by kernel_rfl) ?_
 refine A8 ?_
 rcases If G with ⟨h2, G⟩ | ⟨h2, G⟩
 refine A8 ?_
 obtain ⟨l, hl, G⟩ := Ac G
 refine D1 (Et rfl rfl h2) rfl (pB Lc Nc hl) rfl rfl ?_
 refine D1 (Et rfl rfl h2) rfl (dJ R8 Qe Pd .sl rfl) rfl rfl ?_
 refine A8 ?_
 refine D1 (Et rfl rfl h2) rfl (dJ R8 Qe Pd .sl rfl) rfl rfl ?_
 exact F9
 exact F9
theorem Xd (p : (List Ai)) (b : (List UInt8)) (r : (List Ab) × Int) (G : Cs p b = some r) : Fn Try.prog 14 0 [.sl 3 (As Ai.enc p), .sl 1 (As e8 b)] [] (fun d' b' => d' = .tup [.sl 2 (As Ab.enc r.1), vk r.2] /\ b' = []) := by
 unfold Cs at G
 refine Fn.of Try.func14 rfl rfl rfl fun w0 I ρ0 => ?_
 show Cp _ ⟨w0, I, ρ0, 0, 0, 48⟩ _ _ _
 refine Bt 0 16 Bg fun B => ?_
 refine An <| C4 16 40 B ?_
 refine A8 ?_
 obtain ⟨y, hy, G⟩ := Ac G
 refine Ix (Jn _ _ hy) ?_
 refine B4 fun B => ?_
 refine Bt 40 56 B fun B => ?_
 refine C1 rfl G (fun h4 G => ?_) fun h4 G => ?_
 refine C4 56 80 B ?_
 exact F9
 refine C9 ?_
 refine An <| Bt 56 80 B fun B => ?_
 refine C1 rfl G (fun h7 G => ?_) fun h7 G => ?_
 refine C4 80 96 B ?_
 exact F9
 refine C9 ?_
 refine Bt 80 88 B fun B => ?_
 refine An <| Bt 88 96 B fun B => ?_
 refine Ar <| Gg (fun ((i_1, out_1) : Int × List Ab) => mk [(0, .sl 3 (As Ai.enc p)), (1, .sl 1 (As e8 b)), (7, .row 0), (8, vk i_1)] [(0, .row 47 2 (As Ab.enc out_1))] 1) G (A3 []) ?_
 rintro ⟨i_1, out_1⟩ m1 o1 G hn1
 replace G : Cs.l1 p b i_1 out_1 = some o1 := G
 show Cp _ _ _ _ (mk _ _ _)
 unfold Cs.l1 at G
 refine An <| Bt 1 33 Bg fun B => ?_
 refine C1 rfl G (fun h12 G => ?_) fun h12 G => ?_
 refine C9 ?_
 refine An <| Ar <| An <| Bt 33 41 B fun B => ?_
 refine Ar <| Gg (fun ((k_2, out_2) : Int × List Ab) => mk [(0, .sl 3 (As Ai.enc p)), (1, .sl 1 (As e8 b)), (7, .row 0), (8, vk i_1), (9, vk k_2)] [(0, .row 47 2 (As Ab.enc out_2))] 1) G (A3 [(0, 0)]) ?_
 rintro ⟨k_2, out_2⟩ m2 o2 G hn2
 replace G : Cs.l2 p b i_1 k_2 out_2 = some o2 := G
 show Cp _ _ _ _ (mk _ _ _)
 unfold Cs.l2 at G
 refine An <| Bt 1 33 Bg fun B => ?_
 refine C1 rfl G (fun h15 G => ?_) fun h15 G => ?_
 refine C9 ?_
 refine By (ι := List Ab) (fun (out_3 : List Ab) => mk [(0, .sl 3 (As Ai.enc p)), (1, .sl 1 (As e8 b)), (7, .row 0), (8, vk i_1), (9, vk k_2)] [(0, .row 47 2 (As Ab.enc out_3))] 1) (fun (out_3 : List Ab) => Cs.j3 k_2 out_3 = some o2) ?_ ?_
 refine Ar <| C4 33 97 B ?_
 refine A8 ?_
 obtain ⟨e, he, G⟩ := Ac G
 refine A8 ?_
 refine D1 rfl rfl (Dz Pi Ky (by decide) (Eu Ai.enc_len (A4 he) (o := 2) (by decide) rfl)) rfl rfl ?_
 refine D1 rfl rfl (D4 Ky (C8 Ai.enc_len (A4 he) (o := 2) (c := .sl 1 (As e8 e.Bytes)) rfl rfl)) rfl rfl ?_
 refine A8 ?_
 obtain ⟨y_2, hy_2, G⟩ := Ac G
 refine Ix (Tl _ _ _ _ hy_2) ?_
 refine D2 fun B => ?_
 refine C1 rfl G (fun h17 G => ?_) fun h17 G => ?_
 refine Aq (Cm _ _ []) 97 153 B rfl rfl ?_
 refine A8 ?_
 refine Z9 Ue jW oI ?_
 refine Ik iV oI Ic ([(Ab.mk k_2 i_1)] : List Ab) Ab.enc ?_
 obtain ⟨l, hl, G⟩ := Ac G
 refine Ei (rd := [0, 129]) rfl rfl (Fu iV Ab.enc_len .row rfl .row rfl hl rfl) rfl rfl ?_
 refine B4 fun B => ?_
 exact ⟨l, G, A3 [(0, 137)]⟩
 refine C9 ?_
 exact ⟨out_2, G, A3 [(0, 0)]⟩
 rintro out_3 G
 replace G : Cs.j3 k_2 out_3 = some o2 := G
 show Cp _ _ _ _ (mk _ _ _)
 unfold Cs.j3 at G
 refine Aq (Cm _ _ []) 1 25 Bg rfl rfl ?_
 refine B4 fun B => ?_
 obtain rfl := oi_ G
 exact ⟨((W (k_2 + 1), out_3), m2), xO _, hn2, A3 [(0, 0)]⟩
 refine F8 ?_
 replace G := B1 G hn2
 refine Bt 33 57 B fun B => ?_
 refine C1 rfl G (fun h21 G => ?_) fun h21 G => ?_
 refine Bt 57 73 B fun B => ?_
 refine El ?_
 replace G := B1 G hn1
 exact Xl
 refine C9 ?_
 refine Aq (Cm _ _ []) 57 81 B rfl rfl ?_
 refine B4 fun B => ?_
 obtain rfl := oi_ G
 exact ⟨((W (i_1 + 1), out_2), m1), xO _, hn1, A3 [(0, 0)]⟩
 refine F8 ?_
 replace G := B1 G hn1
 refine Bt 33 57 B fun B => ?_
 exact Nv
theorem Pm (h' : Ab) (c0 : (List Int)) (r : Bool × (List Int)) (G : Fq h' c0 = some r) : Fn Try.prog 53 1 [.agg [vk h'.Pattern, vk h'.At], .ptr 0 0] [.box [.row 1] 22, .row 3 1 (As eI c0)] (fun d' b' => d' = .val (.bool r.1) /\ b' = [.box [.row 1] 22, .row 3 1 (As eI r.2)]) := by
 unfold Fq at G
 refine Fn.of Try.func53 rfl rfl rfl fun w0 I ρ0 => ?_
 show Cp _ ⟨w0, I, ρ0, 1, 2, 16⟩ _ _ _
 refine Bt 2 18 Bg fun B => ?_
 refine An <| C4 18 66 B ?_
 refine A8 ?_
 obtain ⟨e, he, G⟩ := Ac G
 refine A8 ?_
 refine Ei (rd := [1]) rfl rfl (.loadR1 Yr (C8 Lg (A4 he) (o := 0) (c := .int .i64 e) rfl rfl)) rfl rfl ?_
 refine B4 fun B => ?_
 refine C1 rfl G (fun h3 G => ?_) fun h3 G => ?_
 refine Aq (Cm _ _ []) 66 122 B rfl rfl ?_
 refine A8 ?_
 refine Il Jj he (x' := h'.At) ?_
 refine D2 fun B => ?_
 refine Bt 122 130 B fun B => ?_
 refine El ?_
 obtain rfl := oi_ G
 exact Ee [(0, 0), (1, 1)] ⟨rfl, rfl⟩
 refine C9 ?_
 refine Bt 66 74 B fun B => ?_
 refine El ?_
 obtain rfl := oi_ G
 exact Ee [(0, 0), (1, 1)] ⟨rfl, rfl⟩
theorem Hi (p : (List Ai)) (b : (List UInt8)) (yield : Ab -> (List Int) -> Option (Bool × (List Int))) (yield_b0 : (List Int)) (hf_yield : ∀ (x0 : Ab) (b0 : (List Int)) (y : Bool × (List Int)), yield x0 b0 = some y -> Fn Try.prog 53 1 [.agg [vk x0.Pattern, vk x0.At], .ptr 0 0] [.box [.row 1] 22, .row 3 1 (As eI b0)] (fun d' b' => d' = .val (.bool y.1) /\ b' = [.box [.row 1] 22, .row 3 1 (As eI y.2)])) (r : (List Int)) (G : Bp p b yield yield_b0 = some r) : Fn Try.prog 31 1 [.sl 3 (As Ai.enc p), .sl 1 (As e8 b), .clo 53 0 [.ptr 0 0]] [.box [.row 1] 22, .row 3 1 (As eI yield_b0)] (fun d' b' => d' = .tup [] /\ b' = [.box [.row 1] 22, .row 3 1 (As eI r)]) := by
 unfold Bp at G
 refine Fn.of Try.func31 rfl rfl rfl fun w0 I ρ0 => ?_
 show Cp _ ⟨w0, I, ρ0, 1, 2, 54⟩ _ _ _
 refine C4 2 26 Bg ?_
 refine A8 ?_
 obtain ⟨y, hy, G⟩ := Ac G
 refine Ix (K5 _ _ hy) ?_
 refine B4 fun B => ?_
 refine Bt 26 34 B fun B => ?_
 refine Bt 34 58 B fun B => ?_
 refine Ar <| Gg (fun ((at_1, x16_1, l_1) : Int × Int × List Int) => mk [(0, .sl 3 (As Ai.enc p)), (2, .clo 53 0 [.ptr 0 0]), (6, .sl 258 (As Al.enc y)), (7, .val (.int .i16 at_1)), (14, .sl 1 (As e8 b)), (15, .val (.int .i64 (b.length : Int))), (16, vk x16_1)] [(0, .box [.row 1] 22), (1, .row 3 1 (As eI l_1))] 2) G (A3 [(0, 0), (1, 1)]) ?_
 rintro ⟨at_1, x16_1, l_1⟩ m1 o1 G hn1
 replace G : Bp.l1 p b yield y at_1 x16_1 l_1 = some o1 := G
 show Cp _ _ _ _ (mk _ _ _)
 unfold Bp.l1 at G
 refine Bt 2 10 Bg fun B => ?_
 refine An <| C1 rfl G (fun h5 G => ?_) fun h5 G => ?_
 refine C9 ?_
 refine An <| Ar <| C4 10 50 B ?_
 refine A8 ?_
 obtain ⟨e, he, G⟩ := Ac G
 refine A8 ?_
 refine Uw he ?_
 refine B4 fun B => ?_
 refine C4 50 114 B ?_
 refine A8 ?_
 obtain ⟨e_2, he_2, G⟩ := Ac G
 refine A8 ?_
 refine D1 rfl rfl (Dz aF rA (by decide) (Eu Al.enc_len (A4 he_2) (o := 0) (by decide) rfl)) rfl rfl ?_
 obtain ⟨e_3, he_3, G⟩ := Ac G
 refine Jg (rd := []) rfl rfl (.idxA (j := (((e.toNat : Int)).toNat)) Qs K0 (Er he_3) (G8 (A4 he_3))) rfl rfl (fun _ => ⟨_, rfl⟩) ?_
 rintro _ rfl
 refine D1 rfl rfl (D4 K0 (W5 Al.enc_len (A4 he_2) rfl (A4 he_3))) rfl rfl ?_
 refine B4 fun B => ?_
 refine C4 114 170 B ?_
 refine A8 ?_
 obtain ⟨e_4, he_4, G⟩ := Ac G
 refine A8 ?_
 refine D1 rfl rfl (Dz bS Vz (by decide) (Eu Al.enc_len (A4 he_4) (o := 257) (by decide) rfl)) rfl rfl ?_
 refine D1 rfl rfl (D4 Vz (C8 Al.enc_len (A4 he_4) (o := 257) (c := .sl 1 (As eI e_4.ends)) (Oo (i := 1) rfl) rfl)) rfl rfl ?_
 refine B4 fun B => ?_
 refine Ar <| Gg (fun ((x34_2, l_2) : Int × List Int) => mk [(0, .sl 3 (As Ai.enc p)), (2, .clo 53 0 [.ptr 0 0]), (6, .sl 258 (As Al.enc y)), (7, .val (.int .i16 e_3)), (8, vk x16_1), (14, .sl 1 (As e8 b)), (15, .val (.int .i64 (b.length : Int))), (16, vk x16_1), (32, .sl 1 (As eI e_4.ends)), (33, .val (.int .i64 (e_4.ends.length : Int))), (34, vk x34_2)] [(0, .box [.row 1] 22), (1, .row 3 1 (As eI l_2))] 2) G (A3 [(0, 0), (1, 1)]) ?_
 rintro ⟨x34_2, l_2⟩ m2 o2 G hn2
 replace G : Bp.l2 p yield x16_1 e_3 e_4 x34_2 l_2 = some o2 := G
 show Cp _ _ _ _ (mk _ _ _)
 unfold Bp.l2 at G
 refine Bt 2 10 Bg fun B => ?_
 refine An <| C1 rfl G (fun h10 G => ?_) fun h10 G => ?_
 refine C9 ?_
 refine An <| Ar <| C4 10 34 B ?_
 obtain ⟨e_5, he_5, G⟩ := Ac G
 refine A8 ?_
 refine Uw he_5 ?_
 refine B4 fun B => ?_
 refine C4 34 146 B ?_
 refine A8 ?_
 obtain ⟨e_6, he_6, G⟩ := Ac G
 refine A8 ?_
 refine D1 rfl rfl (Dz Pi Ky (by decide) (Eu Ai.enc_len (A4 he_6) (o := 2) (by decide) rfl)) rfl rfl ?_
 refine D1 rfl rfl (D4 Ky (C8 Ai.enc_len (A4 he_6) (o := 2) (c := .sl 1 (As e8 e_6.Bytes)) rfl rfl)) rfl rfl ?_
 refine A8 ?_
 refine Z9 Ue jW oI ?_
 obtain ⟨y_2, hy_2, G⟩ := Ac G
 refine Ub (rd := [0, 1]) (ps := [0]) (gs := [1]) false rfl rfl (hf_yield (Ab.mk e_5 (W ((W (x16_1 + 1)) - (e_6.Bytes.length : Int)))) l_2 _ hy_2) rfl rfl (.cons (.agg (.cons .val (.cons .val .nil))) (.cons (.ptr rfl) .nil)) ⟨_, _, _, rfl, .head _, ⟨_, rfl, (by repeat' (first | exact Kx.nil | apply Kx.cons | exact Ag.val | exact Ag.sl | exact Ag.nils | exact Ag.ptr rfl | exact Ag.rowK rfl))⟩, ⟨_, _, _, rfl, .tail _ (.head _), rfl, rfl⟩⟩ rfl (by intro h; cases h) rfl (by intro h; first | (cases h; done) | exact ⟨_, _, ⟨rfl, rfl⟩, by simp, by simp⟩) ?_
 rintro _ _ ⟨rfl, rfl⟩
 refine B4 fun B => ?_
 refine C1 rfl G (fun h13 G => ?_) fun h13 G => ?_
 refine Mt ?_
 refine sW ?_
 replace G := B1 G hn2
 replace G := B1 G hn1
 obtain rfl := oi_ G
 exact Ee [(0, 0), (1, 130)] ⟨rfl, rfl⟩
 refine C9 ?_
 refine Aq (Cm _ _ []) 146 162 B rfl rfl ?_
 refine B4 fun B => ?_
 obtain rfl := oi_ G
 exact ⟨((W (x34_2 + 1), y_2.2), m2), xO _, hn2, A3 [(0, 0), (1, 130)]⟩
 refine F8 ?_
 replace G := B1 G hn2
 refine Aq (Cm _ _ []) 10 26 B rfl rfl ?_
 refine B4 fun B => ?_
 obtain rfl := oi_ G
 exact ⟨((e_3, W (x16_1 + 1), l_2), m1), xO _, hn1, A3 [(0, 0), (1, 1)]⟩
 refine F8 ?_
 replace G := B1 G hn1
 obtain rfl := oi_ G
 exact Ee [(0, 0), (1, 1)] ⟨rfl, rfl⟩
theorem J5 (p : (List Ai)) (b : (List UInt8)) (r : (List Int)) (G : D3 p b = some r) : Fn Try.prog 38 0 [.sl 3 (As Ai.enc p), .sl 1 (As e8 b)] [] (fun d' b' => d' = .row 0 /\ b' = [.row 3 1 (As eI r)]) := by
 unfold D3 at G
 refine Fn.of Try.func38 rfl rfl rfl fun w0 I ρ0 => ?_
 show Cp _ ⟨w0, I, ρ0, 0, 0, 24⟩ _ _ _
 refine Bt 0 8 Bg fun B => ?_
 refine C4 8 48 B ?_
 refine A8 ?_
 obtain ⟨m, hm, G⟩ := Ac G
 refine D1 rfl rfl (Qm (f := eI) Fo z3 Jj (.cons .int .nil) rfl hm rfl) rfl rfl ?_
 refine B4 fun B => ?_
 refine An <| Bt 48 72 B fun B => ?_
 refine Ar <| Gg (fun ((x12_1, l_1) : Int × List Int) => mk [(0, .sl 3 (As Ai.enc p)), (1, .sl 1 (As e8 b)), (5, .ptr 0 0), (11, .val (.int .i64 (m.length : Int))), (12, vk x12_1)] [(0, .box [.row 1] 22), (1, .row 3 1 (As eI l_1))] 2) G (A3 [(0, 32), (1, 24)]) ?_
 rintro ⟨x12_1, l_1⟩ m1 o1 G hn1
 replace G : D3.l1 p b m x12_1 l_1 = some o1 := G
 show Cp _ _ _ _ (mk _ _ _)
 unfold D3.l1 at G
 refine Bt 2 10 Bg fun B => ?_
 refine An <| C1 rfl G (fun h5 G => ?_) fun h5 G => ?_
 refine C9 ?_
 refine An <| Ar <| Bt 10 26 B fun B => ?_
 refine Aq (Cm _ _ []) 26 58 B rfl rfl ?_
 refine A8 ?_
 obtain ⟨e, he, G⟩ := Ac G
 refine A8 ?_
 refine Il Jj he (x' := -1) ?_
 refine D2 fun B => ?_
 refine Aq (Cm _ _ []) 58 74 B rfl rfl ?_
 refine B4 fun B => ?_
 obtain rfl := oi_ G
 exact ⟨((W (x12_1 + 1), Bi l_1 ((x12_1).toNat) (-1)), m1), xO _, hn1, A3 [(0, 0), (1, 1)]⟩
 refine F8 ?_
 replace G := B1 G hn1
 refine C4 10 42 B ?_
 refine A8 ?_
 obtain ⟨y, hy, G⟩ := Ac G
 refine F6 (rd := [0, 1]) (ps := [0]) (gs := [1]) false rfl (Hi p b (fun x0 b0 => Fq x0 b0) l_1 (fun x0 b0 y h => Pm x0 b0 y h) _ hy) rfl rfl (.cons .sl (.cons .sl (.cons (.clo (.cons (.ptr rfl) .nil)) .nil))) ⟨_, _, _, rfl, .head _, ⟨_, rfl, (by repeat' (first | exact Kx.nil | apply Kx.cons | exact Ag.val | exact Ag.sl | exact Ag.nils | exact Ag.ptr rfl | exact Ag.rowK rfl))⟩, ⟨_, _, _, rfl, .tail _ (.head _), rfl, rfl⟩⟩ rfl (by intro h; cases h) rfl (by intro h; first | (cases h; done) | exact ⟨_, _, ⟨rfl, rfl⟩, by simp, by simp⟩) ?_
 rintro _ _ ⟨rfl, rfl⟩
 refine D2 fun B => ?_
 refine Bt 42 58 B fun B => ?_
 refine El ?_
 obtain rfl := oi_ G
 exact Ee [(0, 34)] ⟨rfl, rfl⟩
theorem Sv (p : (List Ai)) (b : (List UInt8)) (r : (List Int) × Int) (G : Eg p b = some r) : Fn Try.prog 15 0 [.sl 3 (As Ai.enc p), .sl 1 (As e8 b)] [] (fun d' b' => d' = .tup [.sl 1 (As eI r.1), vk r.2] /\ b' = []) := by
 unfold Eg at G
 refine Fn.of Try.func15 rfl rfl rfl fun w0 I ρ0 => ?_
 show Cp _ ⟨w0, I, ρ0, 0, 0, 16⟩ _ _ _
 refine Bt 0 16 Bg fun B => ?_
 refine An <| C4 16 48 B ?_
 refine A8 ?_
 obtain ⟨y, hy, G⟩ := Ac G
 refine Ix (Mz _ _ _ hy) ?_
 refine B4 fun B => ?_
 refine Bt 48 64 B fun B => ?_
 refine C1 rfl G (fun h4 G => ?_) fun h4 G => ?_
 refine C4 64 88 B ?_
 exact F9
 refine C9 ?_
 refine C4 64 104 B ?_
 refine A8 ?_
 obtain ⟨y_2, hy_2, G⟩ := Ac G
 refine F6 (rd := []) (ps := []) (gs := []) false rfl (J5 _ _ _ hy_2) rfl rfl (.cons .sl (.cons .sl .nil)) rfl rfl (by intro h; cases h) rfl (by intro h; first | (cases h; done) | exact ⟨_, _, ⟨rfl, rfl⟩, by simp, by simp⟩) ?_
 rintro _ _ ⟨rfl, rfl⟩
 exact F9
theorem O7 (p : (List Ai)) (b : (List UInt8)) (r : (List Int) × Int) (G : Cd p b = some r) : Fn Try.prog 16 0 [.sl 3 (As Ai.enc p), .sl 1 (As e8 b)] [] (fun d' b' => d' = .tup [.sl 1 (As eI r.1), vk r.2] /\ b' = []) := by
 unfold Cd at G
 refine Fn.of Try.func16 rfl rfl rfl fun w0 I ρ0 => ?_
 show Cp _ ⟨w0, I, ρ0, 0, 0, 46⟩ _ _ _
 refine Bt 0 16 Bg fun B => ?_
 refine An <| C4 16 40 B ?_
 refine A8 ?_
 obtain ⟨y, hy, G⟩ := Ac G
 refine Ix (Jn _ _ hy) ?_
 refine B4 fun B => ?_
 refine Bt 40 56 B fun B => ?_
 refine C1 rfl G (fun h4 G => ?_) fun h4 G => ?_
 refine C4 56 80 B ?_
 exact F9
 refine C9 ?_
 refine An <| Bt 56 80 B fun B => ?_
 refine C1 rfl G (fun h7 G => ?_) fun h7 G => ?_
 refine C4 80 96 B ?_
 exact F9
 refine C9 ?_
 refine Bt 80 88 B fun B => ?_
 refine An <| Bt 88 96 B fun B => ?_
 refine Ar <| Gg (fun ((k_1, out_1) : Int × List Int) => mk [(0, .sl 3 (As Ai.enc p)), (1, .sl 1 (As e8 b)), (7, .row 0), (8, vk k_1)] [(0, .row 3 1 (As eI out_1))] 1) G (A3 []) ?_
 rintro ⟨k_1, out_1⟩ m1 o1 G hn1
 replace G : Cd.l1 p b k_1 out_1 = some o1 := G
 show Cp _ _ _ _ (mk _ _ _)
 unfold Cd.l1 at G
 refine An <| Bt 1 33 Bg fun B => ?_
 refine C1 rfl G (fun h12 G => ?_) fun h12 G => ?_
 refine C9 ?_
 refine An <| Ar <| Bt 33 41 B fun B => ?_
 refine An <| Bt 41 73 B fun B => ?_
 refine Ar <| Gg (fun ((x_2, i_2) : Int × Int) => mk [(0, .sl 3 (As Ai.enc p)), (1, .sl 1 (As e8 b)), (7, .row 0), (8, vk k_1), (9, vk x_2), (10, vk i_2)] [(0, .row 3 1 (As eI out_1))] 1) G (A3 [(0, 0)]) ?_
 rintro ⟨x_2, i_2⟩ m2 o2 G hn2
 replace G : Cd.l2 p b k_1 out_1 x_2 i_2 = some o2 := G
 show Cp _ _ _ _ (mk _ _ _)
 unfold Cd.l2 at G
 refine An <| Bt 1 17 Bg fun B => ?_
 refine C1 rfl G (fun h16 G => ?_) fun h16 G => ?_
 refine C9 ?_
 refine By (ι := Int) (fun (x_3 : Int) => mk [(0, .sl 3 (As Ai.enc p)), (1, .sl 1 (As e8 b)), (7, .row 0), (8, vk k_1), (9, vk x_3), (10, vk i_2)] [(0, .row 3 1 (As eI out_1))] 1) (fun (x_3 : Int) => Cd.j3 i_2 x_3 = some o2) ?_ ?_
 refine Ar <| C4 17 81 B ?_
 refine A8 ?_
 obtain ⟨e, he, G⟩ := Ac G
 refine A8 ?_
 refine D1 rfl rfl (Dz Pi Ky (by decide) (Eu Ai.enc_len (A4 he) (o := 2) (by decide) rfl)) rfl rfl ?_
 refine D1 rfl rfl (D4 Ky (C8 Ai.enc_len (A4 he) (o := 2) (c := .sl 1 (As e8 e.Bytes)) rfl rfl)) rfl rfl ?_
 refine A8 ?_
 obtain ⟨y_2, hy_2, G⟩ := Ac G
 refine Ix (Tl _ _ _ _ hy_2) ?_
 refine D2 fun B => ?_
 refine C1 rfl G (fun h18 G => ?_) fun h18 G => ?_
 refine Aq (Cm _ _ []) 81 97 B rfl rfl ?_
 refine B4 fun B => ?_
 exact ⟨i_2, G, A3 [(0, 0)]⟩
 refine C9 ?_
 exact ⟨x_2, G, A3 [(0, 0)]⟩
 rintro x_3 G
 replace G : Cd.j3 i_2 x_3 = some o2 := G
 show Cp _ _ _ _ (mk _ _ _)
 unfold Cd.j3 at G
 refine Aq (Cm _ _ []) 1 25 Bg rfl rfl ?_
 refine B4 fun B => ?_
 obtain rfl := oi_ G
 exact ⟨((x_3, W (i_2 - 1)), m2), xO _, hn2, A3 [(0, 0)]⟩
 refine F8 ?_
 replace G := B1 G hn2
 refine Aq (Cm _ _ []) 17 57 B rfl rfl ?_
 refine A8 ?_
 refine Ik Fo z3 Jj ([x_2] : List Int) eI ?_
 obtain ⟨l, hl, G⟩ := Ac G
 refine Ei (rd := [0, 33]) rfl rfl (Fu Fo Lg .row rfl .row rfl hl rfl) rfl rfl ?_
 refine B4 fun B => ?_
 refine Aq (Cm _ _ []) 57 81 B rfl rfl ?_
 refine B4 fun B => ?_
 obtain rfl := oi_ G
 exact ⟨((W (k_1 + 1), l), m1), xO _, hn1, A3 [(0, 41)]⟩
 refine F8 ?_
 replace G := B1 G hn1
 refine Bt 33 57 B fun B => ?_
 exact Nv
theorem Pj (i : Bv) (r : (List ByteArray) × (List ByteArray)) (G : Cq i = some r) : Fn Try.prog 57 0 [.agg [.sl 2 (As A5.enc i.Sections), .sl 2 (As Bc.enc i.Symbols)]] [] (fun d' b' => d' = .tup [.sl 1 (As eS r.1), .sl 1 (As eS r.2)] /\ b' = []) := by
 unfold Cq at G
 refine Fn.of Try.func57 rfl rfl rfl fun w0 I ρ0 => ?_
 show Cp _ ⟨w0, I, ρ0, 0, 0, 36⟩ _ _ _
 refine Bt 0 24 Bg fun B => ?_
 refine An <| Bt 24 56 B fun B => ?_
 refine Ar <| Gg (fun ((x11_1, sections_1) : Int × List ByteArray) => mk [(1, .ptr 0 0), (2, .row 1), (3, .val (.slice none 0 0)), (9, .sl 2 (As A5.enc i.Sections)), (10, .val (.int .i64 (i.Sections.length : Int))), (11, vk x11_1)] [(0, .box [.sl 2 (As A5.enc i.Sections), .sl 2 (As Bc.enc i.Symbols)] 53), (1, .row 9 1 (As eS sections_1))] 2) G (A3 [(0, 0)]) ?_
 rintro ⟨x11_1, sections_1⟩ m1 o1 G hn1
 replace G : Cq.l1 i x11_1 sections_1 = some o1 := G
 show Cp _ _ _ _ (mk _ _ _)
 unfold Cq.l1 at G
 refine Bt 2 10 Bg fun B => ?_
 refine An <| C1 rfl G (fun h4 G => ?_) fun h4 G => ?_
 refine C9 ?_
 refine An <| Ar <| C4 10 42 B ?_
 obtain ⟨e, he, G⟩ := Ac G
 refine A8 ?_
 refine Xz he ?_
 refine B4 fun B => ?_
 refine Aq (Cm _ _ []) 42 90 B rfl rfl ?_
 refine A8 ?_
 refine Ik Xs z9 vC ([e.Name] : List ByteArray) eS ?_
 obtain ⟨l, hl, G⟩ := Ac G
 refine Ei (rd := [1, 66]) rfl rfl (Fu Xs Ps .row rfl .row rfl hl rfl) rfl rfl ?_
 refine B4 fun B => ?_
 refine Aq (Cm _ _ []) 90 106 B rfl rfl ?_
 refine B4 fun B => ?_
 obtain rfl := oi_ G
 exact ⟨((W (x11_1 + 1), l), m1), xO _, hn1, A3 [(0, 0), (1, 74)]⟩
 refine F8 ?_
 replace G := B1 G hn1
 refine An <| Bt 10 42 B fun B => ?_
 refine Ar <| Gg (fun ((x24_2, symbols_2) : Int × List ByteArray) => mk [(2, .row 0), (3, .row 1), (22, .sl 2 (As Bc.enc i.Symbols)), (23, .val (.int .i64 (i.Symbols.length : Int))), (24, vk x24_2)] [(0, .row 9 1 (As eS sections_1)), (1, .row 9 1 (As eS symbols_2))] 2) G (A3 [(0, 1)]) ?_
 rintro ⟨x24_2, symbols_2⟩ m2 o2 G hn2
 replace G : Cq.l2 i sections_1 x24_2 symbols_2 = some o2 := G
 show Cp _ _ _ _ (mk _ _ _)
 unfold Cq.l2 at G
 refine Bt 2 10 Bg fun B => ?_
 refine An <| C1 rfl G (fun h10 G => ?_) fun h10 G => ?_
 refine C9 ?_
 refine An <| Ar <| C4 10 42 B ?_
 obtain ⟨e_2, he_2, G⟩ := Ac G
 refine A8 ?_
 refine Xz he_2 ?_
 refine B4 fun B => ?_
 refine Aq (Cm _ _ []) 42 90 B rfl rfl ?_
 refine A8 ?_
 refine Ik Xs z9 vC ([e_2.Name] : List ByteArray) eS ?_
 obtain ⟨l_2, hl_2, G⟩ := Ac G
 refine Ei (rd := [1, 66]) rfl rfl (Fu Xs Ps .row rfl .row rfl hl_2 rfl) rfl rfl ?_
 refine B4 fun B => ?_
 refine Aq (Cm _ _ []) 90 106 B rfl rfl ?_
 refine B4 fun B => ?_
 obtain rfl := oi_ G
 exact ⟨((W (x24_2 + 1), l_2), m2), xO _, hn2, A3 [(0, 0), (1, 74)]⟩
 refine F8 ?_
 replace G := B1 G hn2
 refine Bt 10 42 B fun B => ?_
 exact Nv
theorem Sf (s : ByteArray) (r : Bool) (G : Cz s = some r) : Fn Try.prog 80 0 [wj s] [] (fun d' b' => d' = .val (.bool r) /\ b' = []) := by
 unfold Cz at G
 refine Fn.of Try.func80 rfl rfl rfl fun w0 I ρ0 => ?_
 show Cp _ ⟨w0, I, ρ0, 0, 0, 27⟩ _ _ _
 refine Bt 0 8 Bg fun B => ?_
 refine An <| C4 8 40 B ?_
 refine A8 ?_
 refine D1 rfl rfl (lZ Pd R8 Qe) rfl rfl ?_
 refine B4 fun B => ?_
 refine Ar <| Gg (fun (x8_1 : Int) => mk [(0, wj s), (6, .sl 1 (As e8 (Up s))), (7, .val (.int .i64 ((Up s).length : Int))), (8, vk x8_1)] [] 0) G (A3 []) ?_
 rintro x8_1 m1 o1 G hn1
 replace G : Cz.l1 s x8_1 = some o1 := G
 show Cp _ _ _ _ (mk _ _ _)
 unfold Cz.l1 at G
 refine Bt 0 8 Bg fun B => ?_
 refine An <| C1 rfl G (fun h4 G => ?_) fun h4 G => ?_
 refine C9 ?_
 refine An <| Ar <| C4 8 32 B ?_
 obtain ⟨e, he, G⟩ := Ac G
 refine A8 ?_
 refine Uw he ?_
 refine B4 fun B => ?_
 refine By (ι := Bool) (fun (x17_2 : Bool) => mk [(0, wj s), (6, .sl 1 (As e8 (Up s))), (7, .val (.int .i64 ((Up s).length : Int))), (8, vk x8_1), (17, .val (.bool x17_2))] [] 0) (fun (x17_2 : Bool) => Cz.j2 x8_1 x17_2 = some o1) ?_ ?_
 refine Aq (Cm _ _ []) 32 80 B rfl rfl ?_
 refine A8 ?_
 rcases If G with ⟨h6, G⟩ | ⟨h6, G⟩
 refine B4 fun B => ?_
 exact ⟨true, G, A3 []⟩
 refine B4 fun B => ?_
 exact ⟨decide (126 < (e.toNat : Int)), G, A3 []⟩
 rintro x17_2 G
 replace G : Cz.j2 x8_1 x17_2 = some o1 := G
 show Cp _ _ _ _ (mk _ _ _)
 unfold Cz.j2 at G
 refine C1 rfl G (fun h9 G => ?_) fun h9 G => ?_
 refine Bt 0 8 Bg fun B => ?_
 refine El ?_
 replace G := B1 G hn1
 exact Xl
 refine C9 ?_
 refine Aq (Cm _ _ []) 0 16 Bg rfl rfl ?_
 refine B4 fun B => ?_
 obtain rfl := oi_ G
 exact ⟨(W (x8_1 + 1), m1), xO _, hn1, A3 []⟩
 refine F8 ?_
 replace G := B1 G hn1
 refine C4 8 80 B ?_
 refine A8 ?_
 refine D1 rfl rfl (Nq Pd) rfl rfl ?_
 refine A8 ?_
 rcases If G with ⟨h12, G⟩ | ⟨h12, G⟩
 refine A8 ?_
 refine D1 (Et rfl rfl h12) rfl (Nq Pd) rfl rfl ?_
 exact F9
 exact F9
theorem Nb (s : (List ByteArray)) (v : ByteArray) (r : Int) (G : Da s v = some r) : Fn Try.prog 99 0 [.sl 1 (As eS s), wj v] [] (fun d' b' => d' = vk r /\ b' = []) := by
 unfold Da at G
 refine Fn.of Try.func99 rfl rfl rfl fun w0 I ρ0 => ?_
 show Cp _ ⟨w0, I, ρ0, 0, 0, 19⟩ _ _ _
 refine Bt 0 8 Bg fun B => ?_
 refine An <| Bt 8 32 B fun B => ?_
 refine Ar <| Gg (fun (x8_1 : Int) => mk [(0, .sl 1 (As eS s)), (1, wj v), (7, .val (.int .i64 (s.length : Int))), (8, vk x8_1)] [] 0) G (A3 []) ?_
 rintro x8_1 m1 o1 G hn1
 replace G : Da.l1 s v x8_1 = some o1 := G
 show Cp _ _ _ _ (mk _ _ _)
 unfold Da.l1 at G
 refine Bt 0 8 Bg fun B => ?_
 refine An <| C1 rfl G (fun h4 G => ?_) fun h4 G => ?_
 refine C9 ?_
 refine An <| Ar <| Bt 8 24 B fun B => ?_
 refine C4 24 72 B ?_
 refine A8 ?_
 obtain ⟨e, he, G⟩ := Ac G
 refine A8 ?_
 refine Uw he ?_
 refine B4 fun B => ?_
 refine C1 rfl G (fun h7 G => ?_) fun h7 G => ?_
 refine Bt 72 88 B fun B => ?_
 refine El ?_
 replace G := B1 G hn1
 exact Xl
 refine C9 ?_
 refine Aq (Cm _ _ []) 72 88 B rfl rfl ?_
 refine B4 fun B => ?_
 obtain rfl := oi_ G
 exact ⟨(W (x8_1 + 1), m1), xO _, hn1, A3 []⟩
 refine F8 ?_
 replace G := B1 G hn1
 refine Bt 8 16 B fun B => ?_
 exact Nv
theorem Ld (s : (List ByteArray)) (v : ByteArray) (r : Bool) (G : E4 s v = some r) : Fn Try.prog 81 0 [.sl 1 (As eS s), wj v] [] (fun d' b' => d' = .val (.bool r) /\ b' = []) := by
 unfold E4 at G
 refine Fn.of Try.func81 rfl rfl rfl fun w0 I ρ0 => ?_
 show Cp _ ⟨w0, I, ρ0, 0, 0, 9⟩ _ _ _
 refine Bt 0 8 Bg fun B => ?_
 refine C4 8 48 B ?_
 refine A8 ?_
 obtain ⟨y, hy, G⟩ := Ac G
 refine Ix (Nb _ _ _ hy) ?_
 exact F9
theorem Ku (names : (List ByteArray)) (r : Bool) (G : B3 names = some r) : Fn Try.prog 58 0 [.sl 1 (As eS names)] [] (fun d' b' => d' = .val (.bool r) /\ b' = []) := by
 unfold B3 at G
 refine Fn.of Try.func58 rfl rfl rfl fun w0 I ρ0 => ?_
 show Cp _ ⟨w0, I, ρ0, 0, 0, 23⟩ _ _ _
 refine Bt 0 8 Bg fun B => ?_
 refine An <| Bt 8 32 B fun B => ?_
 refine Ar <| Gg (fun (x7_1 : Int) => mk [(0, .sl 1 (As eS names)), (5, .sl 1 (As eS names)), (6, .val (.int .i64 (names.length : Int))), (7, vk x7_1)] [] 0) G (A3 []) ?_
 rintro x7_1 m1 o1 G hn1
 replace G : B3.l1 names x7_1 = some o1 := G
 show Cp _ _ _ _ (mk _ _ _)
 unfold B3.l1 at G
 refine Bt 0 8 Bg fun B => ?_
 refine An <| C1 rfl G (fun h4 G => ?_) fun h4 G => ?_
 refine C9 ?_
 refine An <| Ar <| C4 8 48 B ?_
 refine A8 ?_
 obtain ⟨e, he, G⟩ := Ac G
 refine A8 ?_
 refine Uw he ?_
 refine B4 fun B => ?_
 refine By (ι := Bool) (fun (x21_2 : Bool) => mk [(0, .sl 1 (As eS names)), (5, .sl 1 (As eS names)), (6, .val (.int .i64 (names.length : Int))), (7, vk x7_1), (21, .val (.bool x21_2))] [] 0) (fun (x21_2 : Bool) => B3.j2 x7_1 x21_2 = some o1) ?_ ?_
 refine Aq (Cm _ _ []) 48 128 B rfl rfl ?_
 refine A8 ?_
 obtain ⟨y, hy, G⟩ := Ac G
 refine Ix (Sf _ _ hy) ?_
 refine A8 ?_
 rcases If G with ⟨h6, G⟩ | ⟨h6, G⟩
 refine B4 fun B => ?_
 exact ⟨true, G, A3 []⟩
 refine A8 ?_
 obtain ⟨l, hl, G⟩ := Ac G
 refine D1 (Et rfl rfl h6) rfl (Wf Xs Ps hl) rfl rfl ?_
 refine A8 ?_
 obtain ⟨y_2, hy_2, G⟩ := Ac G
 refine Ix (Ld _ _ _ hy_2) ?_
 refine B4 fun B => ?_
 exact ⟨y_2, G, A3 []⟩
 rintro x21_2 G
 replace G : B3.j2 x7_1 x21_2 = some o1 := G
 show Cp _ _ _ _ (mk _ _ _)
 unfold B3.j2 at G
 refine C1 rfl G (fun h9 G => ?_) fun h9 G => ?_
 refine Bt 0 8 Bg fun B => ?_
 refine El ?_
 replace G := B1 G hn1
 exact Xl
 refine C9 ?_
 refine Aq (Cm _ _ []) 0 16 Bg rfl rfl ?_
 refine B4 fun B => ?_
 obtain rfl := oi_ G
 exact ⟨(W (x7_1 + 1), m1), xO _, hn1, A3 []⟩
 refine F8 ?_
 replace G := B1 G hn1
 refine Bt 8 16 B fun B => ?_
 exact Nv
theorem E9 (b : List UInt8) (n : Int) (count : Int) (r : (List UInt8)) (G : C0 b n count = some r) : Fn Try.prog 82 0 [.row 0, vk n, vk count] [.que 5 1 (As e8 b)] (fun d' b' => d' = .row 0 /\ b' = [.que 5 1 (As e8 r)]) := by
 unfold C0 at G
 refine Fn.of Try.func82 rfl rfl rfl fun w0 I ρ0 => ?_
 show Cp _ ⟨w0, I, ρ0, 0, 1, 23⟩ _ _ _
 refine Bt 1 9 Bg fun B => ?_
 refine An <| Bt 9 33 B fun B => ?_
 refine Ar <| Gg (fun ((i_1, b_1) : Int × List UInt8) => mk [(0, .row 0), (1, vk n), (7, vk i_1)] [(0, .que 5 1 (As e8 b_1))] 1) G (A3 [(0, 0)]) ?_
 rintro ⟨i_1, b_1⟩ m1 o1 G hn1
 replace G : C0.l1 n i_1 b_1 = some o1 := G
 show Cp _ _ _ _ (mk _ _ _)
 unfold C0.l1 at G
 refine An <| Bt 1 17 Bg fun B => ?_
 refine C1 rfl G (fun h4 G => ?_) fun h4 G => ?_
 refine C9 ?_
 refine An <| Ar <| Aq (Cm _ _ []) 17 89 B rfl rfl ?_
 refine A8 ?_
 obtain ⟨q, hq, G⟩ := Ac G
 refine D1 rfl rfl (Tk hq) rfl rfl ?_
 refine D1 rfl rfl (L5 Rq Qe) rfl rfl ?_
 refine Ik Lc z5 gH ([(u8 q)] : List UInt8) e8 ?_
 obtain ⟨l, hl, G⟩ := Ac G
 refine Jg (rd := [0, 65]) rfl rfl (aP Lc Nc .row rfl hl rfl (List.Mem.head _) rfl) rfl rfl (fun _ => ⟨_, rfl⟩) ?_
 rintro _ rfl
 refine B4 fun B => ?_
 refine Aq (Cm _ _ []) 89 113 B rfl rfl ?_
 refine B4 fun B => ?_
 obtain rfl := oi_ G
 exact ⟨((W (i_1 - 1), l), m1), xO _, hn1, A3 [(0, 73)]⟩
 refine F8 ?_
 replace G := B1 G hn1
 refine Bt 17 33 B fun B => ?_
 refine El ?_
 obtain rfl := oi_ G
 exact Ee [(0, 0)] ⟨rfl, rfl⟩
theorem I6 (b : List UInt8) (s : ByteArray) (r : (List UInt8)) (G : Fy b s = some r) : Fn Try.prog 83 0 [.row 0, wj s] [.que 5 1 (As e8 b)] (fun d' b' => d' = .row 0 /\ b' = [.que 5 1 (As e8 r)]) := by
 unfold Fy at G
 refine Fn.of Try.func83 rfl rfl rfl fun w0 I ρ0 => ?_
 show Cp _ ⟨w0, I, ρ0, 0, 1, 11⟩ _ _ _
 refine Bt 1 9 Bg fun B => ?_
 refine C4 9 65 B ?_
 refine A8 ?_
 refine D1 rfl rfl (Nq Pd) rfl rfl ?_
 obtain ⟨y, hy, G⟩ := Ac G
 refine F6 (rd := [0]) (ps := []) (gs := [0]) false rfl (E9 _ _ _ _ hy) rfl rfl (.cons (.rowK rfl) (.cons .val (.cons .val .nil))) ⟨_, _, _, rfl, .head _, rfl, rfl⟩ rfl (by intro h; cases h) rfl (by intro h; first | (cases h; done) | exact ⟨_, _, ⟨rfl, rfl⟩, by simp, by simp⟩) ?_
 rintro _ _ ⟨rfl, rfl⟩
 refine A8 ?_
 obtain ⟨l, hl, G⟩ := Ac G
 refine Jg (rd := [33]) rfl rfl (mL Lc Pd hl (List.Mem.head _) rfl) rfl rfl (fun _ => ⟨_, rfl⟩) ?_
 rintro _ rfl
 refine B4 fun B => ?_
 refine El ?_
 obtain rfl := oi_ G
 exact Ee [(0, 49)] ⟨rfl, rfl⟩
theorem Lf (i : Bv) (r : (List UInt8)) (G : Ck i = some r) : Fn Try.prog 59 0 [.agg [.sl 2 (As A5.enc i.Sections), .sl 2 (As Bc.enc i.Symbols)]] [] (fun d' b' => d' = .row 0 /\ b' = [.que 5 1 (As e8 r)]) := by
 unfold Ck at G
 refine Fn.of Try.func59 rfl rfl rfl fun w0 I ρ0 => ?_
 show Cp _ ⟨w0, I, ρ0, 0, 0, 54⟩ _ _ _
 refine Bt 0 16 Bg fun B => ?_
 refine C4 16 72 B ?_
 refine Ik Lc z5 gH ([(88 : UInt8), (69 : UInt8), (1 : UInt8)] : List UInt8) e8 ?_
 refine Jg (rd := [16]) rfl rfl (.markQ R8 Qe (xR rfl) (.head _) rfl) rfl rfl (fun _ => ⟨_, rfl⟩) ?_
 rintro _ rfl
 refine A8 ?_
 obtain ⟨y, hy, G⟩ := Ac G
 refine F6 (rd := [24]) (ps := []) (gs := [24]) false rfl (E9 _ _ _ _ hy) rfl rfl (.cons (.rowK rfl) (.cons .val (.cons .val .nil))) ⟨_, _, _, rfl, .head _, rfl, rfl⟩ rfl (by intro h; cases h) rfl (by intro h; first | (cases h; done) | exact ⟨_, _, ⟨rfl, rfl⟩, by simp, by simp⟩) ?_
 rintro _ _ ⟨rfl, rfl⟩
 refine B4 fun B => ?_
 refine An <| Bt 72 104 B fun B => ?_
 refine Ar <| Gg (fun ((x17_1, b_1) : Int × List UInt8) => mk [(1, .ptr 0 0), (3, .row 1), (15, .sl 2 (As A5.enc i.Sections)), (16, .val (.int .i64 (i.Sections.length : Int))), (17, vk x17_1)] [(0, .box [.sl 2 (As A5.enc i.Sections), .sl 2 (As Bc.enc i.Symbols)] 53), (1, .que 5 1 (As e8 b_1))] 2) G (A3 [(0, 0), (1, 56)]) ?_
 rintro ⟨x17_1, b_1⟩ m1 o1 G hn1
 replace G : Ck.l1 i x17_1 b_1 = some o1 := G
 show Cp _ _ _ _ (mk _ _ _)
 unfold Ck.l1 at G
 refine Bt 2 10 Bg fun B => ?_
 refine An <| C1 rfl G (fun h5 G => ?_) fun h5 G => ?_
 refine C9 ?_
 refine An <| Ar <| C4 10 42 B ?_
 obtain ⟨e, he, G⟩ := Ac G
 refine A8 ?_
 refine Xz he ?_
 refine B4 fun B => ?_
 refine Br (Cm _ _ []) (by kernel_rfl) [0, 0, 2, 7, 0, 16, 48, 127, 0, 256, 1023, 2047] 42 138 B rfl rfl (by kernel_rfl) ?_
 refine A8 ?_
 obtain ⟨y_2, hy_2, G⟩ := Ac G
 refine F6 (rd := [1]) (ps := []) (gs := [1]) false rfl (I6 _ _ _ hy_2) rfl rfl (.cons (.rowK rfl) (.cons .val .nil)) ⟨_, _, _, rfl, .head _, rfl, rfl⟩ rfl (by intro h; cases h) rfl (by intro h; first | (cases h; done) | exact ⟨_, _, ⟨rfl, rfl⟩, by simp, by simp⟩) ?_
 rintro _ _ ⟨rfl, rfl⟩
 refine A8 ?_
 obtain ⟨y_3, hy_3, G⟩ := Ac G
 refine F6 (rd := [66]) (ps := []) (gs := [66]) false rfl (E9 _ _ _ _ hy_3) rfl rfl (.cons (.rowK rfl) (.cons .val (.cons .val .nil))) ⟨_, _, _, rfl, .head _, rfl, rfl⟩ rfl (by intro h; cases h) rfl (by intro h; first | (cases h; done) | exact ⟨_, _, ⟨rfl, rfl⟩, by simp, by simp⟩) ?_
 rintro _ _ ⟨rfl, rfl⟩
 refine A8 ?_
 obtain ⟨l, hl, G⟩ := Ac G
 refine Jg (rd := [98]) rfl rfl (aP Lc Nc .sl rfl hl rfl (List.Mem.head _) rfl) rfl rfl (fun _ => ⟨_, rfl⟩) ?_
 rintro _ rfl
 refine B4 fun B => ?_
 refine Aq (Cm _ _ []) 138 154 B rfl rfl ?_
 refine B4 fun B => ?_
 obtain rfl := oi_ G
 exact ⟨((W (x17_1 + 1), l), m1), xO _, hn1, A3 [(0, 0), (1, 122)]⟩
 refine F8 ?_
 replace G := B1 G hn1
 refine C4 10 58 B ?_
 refine A8 ?_
 obtain ⟨y_4, hy_4, G⟩ := Ac G
 refine F6 (rd := [1]) (ps := []) (gs := [1]) false rfl (E9 _ _ _ _ hy_4) rfl rfl (.cons (.rowK rfl) (.cons .val (.cons .val .nil))) ⟨_, _, _, rfl, .head _, rfl, rfl⟩ rfl (by intro h; cases h) rfl (by intro h; first | (cases h; done) | exact ⟨_, _, ⟨rfl, rfl⟩, by simp, by simp⟩) ?_
 rintro _ _ ⟨rfl, rfl⟩
 refine B4 fun B => ?_
 refine An <| Bt 58 90 B fun B => ?_
 refine Ar <| Gg (fun ((x41_2, b_2) : Int × List UInt8) => mk [(3, .row 0), (39, .sl 2 (As Bc.enc i.Symbols)), (40, .val (.int .i64 (i.Symbols.length : Int))), (41, vk x41_2)] [(0, .que 5 1 (As e8 b_2))] 1) G (A3 [(0, 42)]) ?_
 rintro ⟨x41_2, b_2⟩ m2 o2 G hn2
 replace G : Ck.l2 i x41_2 b_2 = some o2 := G
 show Cp _ _ _ _ (mk _ _ _)
 unfold Ck.l2 at G
 refine Bt 1 9 Bg fun B => ?_
 refine An <| C1 rfl G (fun h12 G => ?_) fun h12 G => ?_
 refine C9 ?_
 refine An <| Ar <| C4 9 41 B ?_
 obtain ⟨e_2, he_2, G⟩ := Ac G
 refine A8 ?_
 refine Xz he_2 ?_
 refine B4 fun B => ?_
 refine Br (Cm _ _ []) (by kernel_rfl) [0, 0, 2, 7, 0, 16, 63, 127] 41 105 B rfl rfl (by kernel_rfl) ?_
 refine A8 ?_
 obtain ⟨y_5, hy_5, G⟩ := Ac G
 refine F6 (rd := [0]) (ps := []) (gs := [0]) false rfl (I6 _ _ _ hy_5) rfl rfl (.cons (.rowK rfl) (.cons .val .nil)) ⟨_, _, _, rfl, .head _, rfl, rfl⟩ rfl (by intro h; cases h) rfl (by intro h; first | (cases h; done) | exact ⟨_, _, ⟨rfl, rfl⟩, by simp, by simp⟩) ?_
 rintro _ _ ⟨rfl, rfl⟩
 refine A8 ?_
 obtain ⟨y_6, hy_6, G⟩ := Ac G
 refine F6 (rd := [65]) (ps := []) (gs := [65]) false rfl (E9 _ _ _ _ hy_6) rfl rfl (.cons (.rowK rfl) (.cons .val (.cons .val .nil))) ⟨_, _, _, rfl, .head _, rfl, rfl⟩ rfl (by intro h; cases h) rfl (by intro h; first | (cases h; done) | exact ⟨_, _, ⟨rfl, rfl⟩, by simp, by simp⟩) ?_
 rintro _ _ ⟨rfl, rfl⟩
 refine B4 fun B => ?_
 refine Aq (Cm _ _ []) 105 121 B rfl rfl ?_
 refine B4 fun B => ?_
 obtain rfl := oi_ G
 exact ⟨((W (x41_2 + 1), y_6), m2), xO _, hn2, A3 [(0, 89)]⟩
 refine F8 ?_
 replace G := B1 G hn2
 refine Bt 9 25 B fun B => ?_
 refine El ?_
 obtain rfl := oi_ G
 exact Ee [(0, 0)] ⟨rfl, rfl⟩
theorem Pf (i : Bv) (r : Int) (G : Bs i = some r) : Fn Try.prog 43 0 [.agg [.sl 2 (As A5.enc i.Sections), .sl 2 (As Bc.enc i.Symbols)]] [] (fun d' b' => d' = vk r /\ b' = []) := by
 unfold Bs at G
 refine Fn.of Try.func43 rfl rfl rfl fun w0 I ρ0 => ?_
 show Cp _ ⟨w0, I, ρ0, 0, 0, 48⟩ _ _ _
 refine Bt 0 16 Bg fun B => ?_
 refine C4 16 72 B ?_
 refine A8 ?_
 obtain ⟨y, hy, G⟩ := Ac G
 refine Ix (Pj _ _ hy) ?_
 refine B4 fun B => ?_
 refine An <| By (ι := Bool) (fun (x27_1 : Bool) => mk [(1, .ptr 0 0), (27, .val (.bool x27_1))] [(0, .box [.sl 2 (As A5.enc i.Sections), .sl 2 (As Bc.enc i.Symbols)] 53)] 1) (fun (x27_1 : Bool) => Bs.j1 i x27_1 = some r) ?_ ?_
 refine Aq (Cm _ _ []) 72 200 B rfl rfl ?_
 refine A8 ?_
 rcases If G with ⟨h3, G⟩ | ⟨h3, G⟩
 refine B4 fun B => ?_
 exact ⟨true, G, A3 [(0, 0)]⟩
 refine A8 ?_
 rcases If G with ⟨h5, G⟩ | ⟨h5, G⟩
 refine B4 fun B => ?_
 exact ⟨true, G, A3 [(0, 0)]⟩
 refine A8 ?_
 obtain ⟨y_2, hy_2, G⟩ := Ac G
 refine Ix (Ku _ _ hy_2) ?_
 refine A8 ?_
 rcases If G with ⟨h7, G⟩ | ⟨h7, G⟩
 refine B4 fun B => ?_
 exact ⟨true, G, A3 [(0, 0)]⟩
 refine A8 ?_
 obtain ⟨y_3, hy_3, G⟩ := Ac G
 refine Ix (Ku _ _ hy_3) ?_
 refine B4 fun B => ?_
 exact ⟨y_3, G, A3 [(0, 0)]⟩
 rintro x27_1 G
 replace G : Bs.j1 i x27_1 = some r := G
 show Cp _ _ _ _ (mk _ _ _)
 unfold Bs.j1 at G
 refine C1 rfl G (fun h10 G => ?_) fun h10 G => ?_
 refine C4 1 9 Bg ?_
 exact F9
 refine C9 ?_
 refine An <| Bt 1 33 Bg fun B => ?_
 refine Ar <| Gg (fun (x31_2 : Int) => mk [(1, .ptr 0 0), (29, .sl 2 (As Bc.enc i.Symbols)), (30, .val (.int .i64 (i.Symbols.length : Int))), (31, vk x31_2)] [(0, .box [.sl 2 (As A5.enc i.Sections), .sl 2 (As Bc.enc i.Symbols)] 53)] 1) G (A3 [(0, 0)]) ?_
 rintro x31_2 m2 o2 G hn2
 replace G : Bs.l2 i x31_2 = some o2 := G
 show Cp _ _ _ _ (mk _ _ _)
 unfold Bs.l2 at G
 refine Bt 1 9 Bg fun B => ?_
 refine An <| C1 rfl G (fun h14 G => ?_) fun h14 G => ?_
 refine C9 ?_
 refine An <| Ar <| C4 9 41 B ?_
 obtain ⟨e, he, G⟩ := Ac G
 refine A8 ?_
 refine Xz he ?_
 refine B4 fun B => ?_
 refine By (ι := Bool) (fun (x42_3 : Bool) => mk [(1, .ptr 0 0), (29, .sl 2 (As Bc.enc i.Symbols)), (30, .val (.int .i64 (i.Symbols.length : Int))), (31, vk x31_2), (42, .val (.bool x42_3))] [(0, .box [.sl 2 (As A5.enc i.Sections), .sl 2 (As Bc.enc i.Symbols)] 53)] 1) (fun (x42_3 : Bool) => Bs.j3 x31_2 x42_3 = some o2) ?_ ?_
 refine Aq (Cm _ _ []) 41 105 B rfl rfl ?_
 refine A8 ?_
 rcases If G with ⟨h16, G⟩ | ⟨h16, G⟩
 refine B4 fun B => ?_
 exact ⟨true, G, A3 [(0, 0)]⟩
 refine B4 fun B => ?_
 exact ⟨decide (4294967296 <= e.Value), G, A3 [(0, 0)]⟩
 rintro x42_3 G
 replace G : Bs.j3 x31_2 x42_3 = some o2 := G
 show Cp _ _ _ _ (mk _ _ _)
 unfold Bs.j3 at G
 refine C1 rfl G (fun h19 G => ?_) fun h19 G => ?_
 refine Bt 1 9 Bg fun B => ?_
 refine El ?_
 replace G := B1 G hn2
 exact Xl
 refine C9 ?_
 refine Aq (Cm _ _ []) 1 17 Bg rfl rfl ?_
 refine B4 fun B => ?_
 obtain rfl := oi_ G
 exact ⟨(W (x31_2 + 1), m2), xO _, hn2, A3 [(0, 0)]⟩
 refine F8 ?_
 replace G := B1 G hn2
 refine An <| C4 9 41 B ?_
 refine A8 ?_
 obtain ⟨y_4, hy_4, G⟩ := Ac G
 refine F6 (rd := []) (ps := []) (gs := []) false rfl (Lf _ _ hy_4) rfl rfl (.cons (.agg (.cons .sl (.cons .sl .nil))) .nil) rfl rfl (by intro h; cases h) rfl (by intro h; first | (cases h; done) | exact ⟨_, _, ⟨rfl, rfl⟩, by simp, by simp⟩) ?_
 rintro _ _ ⟨rfl, rfl⟩
 refine Jg (rd := [17]) rfl rfl (jA Lc Nc) rfl rfl (fun _ => ⟨_, rfl⟩) ?_
 rintro _ rfl
 refine B4 fun B => ?_
 refine C1 rfl G (fun h23 G => ?_) fun h23 G => ?_
 refine C4 41 49 B ?_
 exact F9
 refine C9 ?_
 refine Bt 41 49 B fun B => ?_
 exact Nv
end Go.Proofs.Ytfkgbfhpibiheaa
