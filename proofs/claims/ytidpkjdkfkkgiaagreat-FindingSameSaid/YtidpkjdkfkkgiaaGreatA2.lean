import Derived.Test.YtidpkjdkfkkgiaaGreatT1
import Derived.Test.YtidpkjdkfkkgiaaGreatA1
set_option linter.unusedVariables false
set_option linter.unusedSimpArgs false
set_option maxRecDepth 100000
set_option maxHeartbeats 1600000
namespace Go.Proofs.YtidpkjdkfkkgiaaGreat
open Go.RowKit
theorem Jd (n : Int) (r : Bool) (G : Ej n = some r) : Fn Tryz.prog 69 0 [vk n] [] (fun d' b' => d' = .val (.bool r) /\ b' = []) := by
 unfold Ej at G
 refine Fn.of Tryz.func69 rfl rfl rfl fun w0 I ρ0 => ?_
 show B2 _ ⟨w0, I, ρ0, 0, 0, 9⟩ _ _ _
 refine Bh 0 8 A5 fun B => ?_
 refine B9 8 64 B ?_
 refine Aw ?_
 rcases D9 G with ⟨h2, G⟩ | ⟨h2, G⟩
 exact De
 exact De
theorem Ss (l : (List ByteArray)) (r : Bool) (G : Bu l = some r) : Fn Tryz.prog 149 0 [.sl 1 (Aq eS l)] [] (fun d' b' => d' = .val (.bool r) /\ b' = []) := by
 unfold Bu at G
 refine Fn.of Tryz.func149 rfl rfl rfl fun w0 I ρ0 => ?_
 show B2 _ ⟨w0, I, ρ0, 0, 0, 32⟩ _ _ _
 refine Bh 0 8 A5 fun B => ?_
 refine Aj <| Bh 8 32 B fun B => ?_
 refine Ap <| Jy (fun (x7_1 : Int) => mk [(0, .sl 1 (Aq eS l)), (5, .sl 1 (Aq eS l)), (6, .val (.int .i64 (l.length : Int))), (7, vk x7_1)] [] 0) G (A1 []) ?_
 rintro x7_1 m1 o1 G hn1
 replace G : Bu.l1 l x7_1 = some o1 := G
 show B2 _ _ _ _ (mk _ _ _)
 unfold Bu.l1 at G
 refine Bh 0 8 A5 fun B => ?_
 refine Aj <| C4 rfl G (fun h4 G => ?_) fun h4 G => ?_
 refine Dg ?_
 refine Aj <| Ap <| B9 8 48 B ?_
 refine Aw ?_
 obtain ⟨e, he, G⟩ := Ab G
 refine Aw ?_
 refine Ra he ?_
 refine Bj fun B => ?_
 refine Bo (ι := Bool) (fun (x27_2 : Bool) => mk [(0, .sl 1 (Aq eS l)), (5, .sl 1 (Aq eS l)), (6, .val (.int .i64 (l.length : Int))), (7, vk x7_1), (27, .val (.bool x27_2))] [] 0) (fun (x27_2 : Bool) => Bu.j2 x7_1 x27_2 = some o1) ?_ ?_
 refine Ak (B8 _ _ []) 48 176 B rfl rfl ?_
 refine Aw ?_
 obtain ⟨y, hy, G⟩ := Ab G
 refine Do (He _ _ hy) ?_
 refine Aw ?_
 rcases D9 G with ⟨h6, G⟩ | ⟨h6, G⟩
 refine Bj fun B => ?_
 exact ⟨true, G, A1 []⟩
 refine Aw ?_
 rcases D9 G with ⟨h8, G⟩ | ⟨h8, G⟩
 refine Aw ?_
 obtain ⟨e_2, he_2, G⟩ := Ab G
 refine Aw ?_
 refine Ra he_2 ?_
 refine Aw ?_
 refine C0 (E5 rfl rfl h8) rfl gL rfl rfl ?_
 refine Bj fun B => ?_
 exact ⟨!K1 (Im e_2) (Im e), G, A1 []⟩
 refine Bj fun B => ?_
 exact ⟨false, G, A1 []⟩
 rintro x27_2 G
 replace G : Bu.j2 x7_1 x27_2 = some o1 := G
 show B2 _ _ _ _ (mk _ _ _)
 unfold Bu.j2 at G
 refine C4 rfl G (fun h11 G => ?_) fun h11 G => ?_
 refine Bh 0 8 A5 fun B => ?_
 refine Fg ?_
 replace G := Cn G hn1
 exact Zh
 refine Dg ?_
 refine Ak (B8 _ _ []) 0 16 A5 rfl rfl ?_
 refine Bj fun B => ?_
 obtain rfl := oi_ G
 exact ⟨(W (x7_1 + 1), m1), Nat.lt_succ_self _, hn1, A1 []⟩
 refine Jl ?_
 replace G := Cn G hn1
 refine Bh 8 40 B fun B => ?_
 exact La
theorem O6 (u : As) (kind : Int) (r : Bool) (G : Hq u kind = some r) : Fn Tryz.prog 150 0 [.agg [vk u.Alg, vk u.Bits], vk kind] [] (fun d' b' => d' = .val (.bool r) /\ b' = []) := by
 unfold Hq at G
 refine Fn.of Tryz.func150 rfl rfl rfl fun w0 I ρ0 => ?_
 show B2 _ ⟨w0, I, ρ0, 0, 0, 14⟩ _ _ _
 refine Bh 0 16 A5 fun B => ?_
 refine B9 16 96 B ?_
 refine Aw ?_
 obtain ⟨y, hy, G⟩ := Ab G
 refine Do (Kd _ _ hy) ?_
 refine Aw ?_
 rcases D9 G with ⟨h2, G⟩ | ⟨h2, G⟩
 refine Aw ?_
 obtain ⟨y_2, hy_2, G⟩ := Ab G
 refine Do (Kl _ _ hy_2) ?_
 exact De
 exact De
theorem Uu (n : Int) (r : Bool) (G : Ib n = some r) : Fn Tryz.prog 151 0 [vk n] [] (fun d' b' => d' = .val (.bool r) /\ b' = []) := by
 unfold Ib at G
 refine Fn.of Tryz.func151 rfl rfl rfl fun w0 I ρ0 => ?_
 show B2 _ ⟨w0, I, ρ0, 0, 0, 9⟩ _ _ _
 refine Bh 0 8 A5 fun B => ?_
 refine B9 8 64 B ?_
 refine Aw ?_
 rcases D9 G with ⟨h2, G⟩ | ⟨h2, G⟩
 exact De
 exact De
theorem S6 (c : Af) (r : Bool) (G : Bc c = some r) : Fn Tryz.prog 130 0 [.agg (Af.dv c)] [] (fun d' b' => d' = .val (.bool r) /\ b' = []) := by
 unfold Bc at G
 refine Fn.of Tryz.func130 rfl rfl rfl fun w0 I ρ0 => ?_
 show B2 _ ⟨w0, I, ρ0, 0, 0, 91⟩ _ _ _
 refine Bh 0 16 A5 fun B => ?_
 refine Aj <| Bo (ι := Bool) (fun (x28_1 : Bool) => mk [(1, .ptr 0 0), (28, .val (.bool x28_1))] [(0, .box (Af.dv c) 107)] 1) (fun (x28_1 : Bool) => Bc.j1 c x28_1 = some r) ?_ ?_
 refine Ak (B8 _ _ []) 16 224 B rfl rfl ?_
 refine Aw ?_
 rcases D9 G with ⟨h2, G⟩ | ⟨h2, G⟩
 refine Bj fun B => ?_
 exact ⟨true, G, A1 [(0, 0)]⟩
 refine Aw ?_
 rcases D9 G with ⟨h4, G⟩ | ⟨h4, G⟩
 refine Bj fun B => ?_
 exact ⟨true, G, A1 [(0, 0)]⟩
 refine Aw ?_
 obtain ⟨y, hy, G⟩ := Ab G
 refine Do (He _ _ hy) ?_
 refine Aw ?_
 rcases D9 G with ⟨h6, G⟩ | ⟨h6, G⟩
 refine Bj fun B => ?_
 exact ⟨true, G, A1 [(0, 0)]⟩
 refine Aw ?_
 obtain ⟨y_2, hy_2, G⟩ := Ab G
 refine Do (He _ _ hy_2) ?_
 refine Aw ?_
 rcases D9 G with ⟨h8, G⟩ | ⟨h8, G⟩
 refine Bj fun B => ?_
 exact ⟨true, G, A1 [(0, 0)]⟩
 refine Aw ?_
 obtain ⟨y_3, hy_3, G⟩ := Ab G
 refine Do (Ss _ _ hy_3) ?_
 refine Bj fun B => ?_
 exact ⟨!y_3, G, A1 [(0, 0)]⟩
 rintro x28_1 G
 replace G : Bc.j1 c x28_1 = some r := G
 show B2 _ _ _ _ (mk _ _ _)
 unfold Bc.j1 at G
 refine C4 rfl G (fun h11 G => ?_) fun h11 G => ?_
 refine B9 1 9 A5 ?_
 exact De
 refine Dg ?_
 refine Aj <| Bo (ι := Bool) (fun (x58_2 : Bool) => mk [(1, .ptr 0 0), (58, .val (.bool x58_2))] [(0, .box (Af.dv c) 107)] 1) (fun (x58_2 : Bool) => Bc.j2 c x58_2 = some r) ?_ ?_
 refine Ak (B8 _ _ []) 1 241 A5 rfl rfl ?_
 refine Aw ?_
 obtain ⟨y_4, hy_4, G⟩ := Ab G
 refine Do (O6 _ _ _ hy_4) ?_
 refine Aw ?_
 rcases D9 G with ⟨h13, G⟩ | ⟨h13, G⟩
 refine Bj fun B => ?_
 exact ⟨true, G, A1 [(0, 0)]⟩
 refine Aw ?_
 obtain ⟨y_5, hy_5, G⟩ := Ab G
 refine Do (Jd _ _ hy_5) ?_
 refine Aw ?_
 rcases D9 G with ⟨h15, G⟩ | ⟨h15, G⟩
 refine Bj fun B => ?_
 exact ⟨true, G, A1 [(0, 0)]⟩
 refine Aw ?_
 obtain ⟨y_6, hy_6, G⟩ := Ab G
 refine Do (O6 _ _ _ hy_6) ?_
 refine Aw ?_
 rcases D9 G with ⟨h17, G⟩ | ⟨h17, G⟩
 refine Bj fun B => ?_
 exact ⟨true, G, A1 [(0, 0)]⟩
 refine Aw ?_
 obtain ⟨y_7, hy_7, G⟩ := Ab G
 refine Do (Jd _ _ hy_7) ?_
 refine Aw ?_
 rcases D9 G with ⟨h19, G⟩ | ⟨h19, G⟩
 refine Bj fun B => ?_
 exact ⟨true, G, A1 [(0, 0)]⟩
 refine Aw ?_
 obtain ⟨y_8, hy_8, G⟩ := Ab G
 refine Do (Uu _ _ hy_8) ?_
 refine Bj fun B => ?_
 exact ⟨!y_8, G, A1 [(0, 0)]⟩
 rintro x58_2 G
 replace G : Bc.j2 c x58_2 = some r := G
 show B2 _ _ _ _ (mk _ _ _)
 unfold Bc.j2 at G
 refine C4 rfl G (fun h22 G => ?_) fun h22 G => ?_
 refine B9 1 9 A5 ?_
 exact De
 refine Dg ?_
 refine Aj <| Bo (ι := Bool) (fun (x73_3 : Bool) => mk [(1, .ptr 0 0), (73, .val (.bool x73_3))] [(0, .box (Af.dv c) 107)] 1) (fun (x73_3 : Bool) => Bc.j3 c x73_3 = some r) ?_ ?_
 refine Ak (B8 _ _ []) 1 121 A5 rfl rfl ?_
 refine Aw ?_
 rcases D9 G with ⟨h24, G⟩ | ⟨h24, G⟩
 refine Bj fun B => ?_
 exact ⟨true, G, A1 [(0, 0)]⟩
 refine Aw ?_
 rcases D9 G with ⟨h26, G⟩ | ⟨h26, G⟩
 refine Bj fun B => ?_
 exact ⟨true, G, A1 [(0, 0)]⟩
 refine Bj fun B => ?_
 exact ⟨decide (40000 < c.To), G, A1 [(0, 0)]⟩
 rintro x73_3 G
 replace G : Bc.j3 c x73_3 = some r := G
 show B2 _ _ _ _ (mk _ _ _)
 unfold Bc.j3 at G
 refine C4 rfl G (fun h29 G => ?_) fun h29 G => ?_
 refine B9 1 9 A5 ?_
 exact De
 refine Dg ?_
 refine B9 1 145 A5 ?_
 refine Aw ?_
 rcases D9 G with ⟨h31, G⟩ | ⟨h31, G⟩
 refine Aw ?_
 rcases D9 G with ⟨h32, G⟩ | ⟨h32, G⟩
 refine Aw ?_
 rcases D9 G with ⟨h33, G⟩ | ⟨h33, G⟩
 exact De
 exact De
 exact De
 exact De
theorem Sw (c : Af) (r : Int) (G : Hh c = some r) : Fn Tryz.prog 92 0 [.agg (Af.dv c)] [] (fun d' b' => d' = vk r /\ b' = []) := by
 unfold Hh at G
 refine Fn.of Tryz.func92 rfl rfl rfl fun w0 I ρ0 => ?_
 show B2 _ ⟨w0, I, ρ0, 0, 0, 6⟩ _ _ _
 refine Bh 0 16 A5 fun B => ?_
 refine Aj <| B9 16 40 B ?_
 refine Aw ?_
 obtain ⟨y, hy, G⟩ := Ab G
 refine Do (S6 _ _ hy) ?_
 refine Bj fun B => ?_
 refine C4 rfl G (fun h3 G => ?_) fun h3 G => ?_
 refine B9 40 48 B ?_
 exact De
 refine Dg ?_
 refine Bh 40 48 B fun B => ?_
 exact La
theorem Le (key : As) (id : Int) (l : (List Af)) (r : Bool) (G : Bn key id l = some r) : Fn Tryz.prog 65 0 [.agg [vk key.Alg, vk key.Bits], vk id, .sl 15 (Aq Af.enc l)] [] (fun d' b' => d' = .val (.bool r) /\ b' = []) := by
 unfold Bn at G
 refine Fn.of Tryz.func65 rfl rfl rfl fun w0 I ρ0 => ?_
 show B2 _ ⟨w0, I, ρ0, 0, 0, 57⟩ _ _ _
 refine Bh 0 16 A5 fun B => ?_
 refine Aj <| Bo (ι := Bool) (fun (x27_1 : Bool) => mk [(1, vk id), (2, .sl 15 (Aq Af.enc l)), (3, .ptr 0 0), (27, .val (.bool x27_1))] [(0, .box [vk key.Alg, vk key.Bits] 28)] 1) (fun (x27_1 : Bool) => Bn.j1 key id l x27_1 = some r) ?_ ?_
 refine Ak (B8 _ _ []) 16 168 B rfl rfl ?_
 refine Aw ?_
 obtain ⟨y, hy, G⟩ := Ab G
 refine Do (Kd _ _ hy) ?_
 refine Aw ?_
 rcases D9 G with ⟨h2, G⟩ | ⟨h2, G⟩
 refine Bj fun B => ?_
 exact ⟨true, G, A1 [(0, 0)]⟩
 refine Aw ?_
 obtain ⟨y_2, hy_2, G⟩ := Ab G
 refine Do (Kl _ _ hy_2) ?_
 refine Aw ?_
 rcases D9 G with ⟨h4, G⟩ | ⟨h4, G⟩
 refine Bj fun B => ?_
 exact ⟨true, G, A1 [(0, 0)]⟩
 refine Aw ?_
 obtain ⟨y_3, hy_3, G⟩ := Ab G
 refine Do (Jd _ _ hy_3) ?_
 refine Aw ?_
 rcases D9 G with ⟨h6, G⟩ | ⟨h6, G⟩
 refine Bj fun B => ?_
 exact ⟨true, G, A1 [(0, 0)]⟩
 refine Bj fun B => ?_
 exact ⟨decide (8 < (l.length : Int)), G, A1 [(0, 0)]⟩
 rintro x27_1 G
 replace G : Bn.j1 key id l x27_1 = some r := G
 show B2 _ _ _ _ (mk _ _ _)
 unfold Bn.j1 at G
 refine C4 rfl G (fun h9 G => ?_) fun h9 G => ?_
 refine B9 1 9 A5 ?_
 exact De
 refine Dg ?_
 refine Aj <| Bh 1 25 A5 fun B => ?_
 refine Ap <| Jy (fun (x30_2 : Int) => mk [(1, vk id), (2, .sl 15 (Aq Af.enc l)), (3, .ptr 0 0), (28, .sl 15 (Aq Af.enc l)), (29, .val (.int .i64 (l.length : Int))), (30, vk x30_2)] [(0, .box [vk key.Alg, vk key.Bits] 28)] 1) G (A1 [(0, 0)]) ?_
 rintro x30_2 m2 o2 G hn2
 replace G : Bn.l2 key id l x30_2 = some o2 := G
 show B2 _ _ _ _ (mk _ _ _)
 unfold Bn.l2 at G
 refine Bh 1 9 A5 fun B => ?_
 refine Aj <| C4 rfl G (fun h13 G => ?_) fun h13 G => ?_
 refine Dg ?_
 refine Aj <| Ap <| B9 9 41 B ?_
 obtain ⟨e, he, G⟩ := Ab G
 refine Aw ?_
 refine dF he ?_
 refine Bj fun B => ?_
 refine B9 41 65 B ?_
 refine Aw ?_
 obtain ⟨y_4, hy_4, G⟩ := Ab G
 refine Do (Sw _ _ hy_4) ?_
 refine Bj fun B => ?_
 refine C4 rfl G (fun h16 G => ?_) fun h16 G => ?_
 refine Bh 65 73 B fun B => ?_
 refine Fg ?_
 replace G := Cn G hn2
 exact Zh
 refine Dg ?_
 refine Ak (B8 _ _ []) 65 81 B rfl rfl ?_
 refine Bj fun B => ?_
 obtain rfl := oi_ G
 exact ⟨(W (x30_2 + 1), m2), Nat.lt_succ_self _, hn2, A1 [(0, 0)]⟩
 refine Jl ?_
 replace G := Cn G hn2
 refine Aj <| Bq (B8 _ _ []) (by kernel_rfl) [0, 1, 3, 7, 15, 31, 63, 127, 15, 511, 1023, 2047, 4095, 8191, 16383, 2047, 65535, 131071, 262143, 524287] 9 169 B rfl rfl (by kernel_rfl) ?_
 refine Aw ?_
 rcases D9 G with ⟨h19, G⟩ | ⟨h19, G⟩
 exact De
 refine Aw ?_
 obtain ⟨e_2, he_2, G⟩ := Ab G
 refine Aw ?_
 refine C0 (E5 rfl rfl h19) rfl (N0 kJ aA4 (by decide) (Tp Af.enc_len (Cw he_2) (o := 3) (by decide) rfl)) rfl rfl ?_
 refine C0 (E5 rfl rfl h19) rfl (Eb aA4 (In Af.enc_len (Cw he_2) (o := 3) (m := 2) (cs := [.int .i64 e_2.Key.Alg, .int .i64 e_2.Key.Bits]) rfl (by decide) rfl) (Fh Af.enc_len (Cw he_2) (o := 3) (m := 2) (by decide) rfl)) rfl rfl ?_
 refine Aw ?_
 refine C0 (E5 rfl rfl h19) rfl (Tw e_2.Key key) rfl rfl ?_
 refine Aw ?_
 rcases D9 G with ⟨h21, G⟩ | ⟨h21, G⟩
 refine Aw ?_
 refine C0 (E5 rfl rfl h21) rfl (N0 kA hH (by decide) (Tp Af.enc_len (Cw he_2) (o := 5) (by decide) rfl)) rfl rfl ?_
 refine C0 (E5 rfl rfl h21) rfl (Dy hH (Gt Af.enc_len (Cw he_2) (o := 5) (c := .int .i64 e_2.KeyId) rfl rfl)) rfl rfl ?_
 exact De
 exact De
theorem Vd (l : (List C9)) (r : Int) (G : B4 l = some r) : Fn Tryz.prog 52 0 [.sl 6 (Aq C9.enc l)] [] (fun d' b' => d' = vk r /\ b' = []) := by
 unfold B4 at G
 refine Fn.of Tryz.func52 rfl rfl rfl fun w0 I ρ0 => ?_
 show B2 _ ⟨w0, I, ρ0, 0, 0, 45⟩ _ _ _
 refine Bh 0 8 A5 fun B => ?_
 refine Aj <| Bh 8 32 B fun B => ?_
 refine Ap <| Jy (fun (x7_1 : Int) => mk [(0, .sl 6 (Aq C9.enc l)), (5, .sl 6 (Aq C9.enc l)), (6, .val (.int .i64 (l.length : Int))), (7, vk x7_1)] [] 0) G (A1 []) ?_
 rintro x7_1 m1 o1 G hn1
 replace G : B4.l1 l x7_1 = some o1 := G
 show B2 _ _ _ _ (mk _ _ _)
 unfold B4.l1 at G
 refine Bh 0 8 A5 fun B => ?_
 refine Aj <| C4 rfl G (fun h4 G => ?_) fun h4 G => ?_
 refine Dg ?_
 refine Aj <| Ap <| B9 8 56 B ?_
 refine Aw ?_
 obtain ⟨e, he, G⟩ := Ab G
 refine Aw ?_
 refine dF he ?_
 refine Bj fun B => ?_
 refine Bo (ι := Bool) (fun (x40_2 : Bool) => mk [(0, .sl 6 (Aq C9.enc l)), (5, .sl 6 (Aq C9.enc l)), (6, .val (.int .i64 (l.length : Int))), (7, vk x7_1), (40, .val (.bool x40_2))] [] 0) (fun (x40_2 : Bool) => B4.j2 x7_1 x40_2 = some o1) ?_ ?_
 refine Bq (B8 _ _ []) (by kernel_rfl) [0, 1, 3, 7, 15, 31, 63, 127, 255, 255, 767, 2047, 4095, 8191, 255, 16639, 65535, 131071, 262143, 524287, 1048575, 2097151, 1048575, 5242879, 1048575, 17825791, 67108863, 134217727, 268435455] 56 288 B rfl rfl (by kernel_rfl) ?_
 refine Aw ?_
 obtain ⟨y, hy, G⟩ := Ab G
 refine Do (He _ _ hy) ?_
 refine Aw ?_
 rcases D9 G with ⟨h6, G⟩ | ⟨h6, G⟩
 refine Bj fun B => ?_
 exact ⟨true, G, A1 []⟩
 refine Aw ?_
 rcases D9 G with ⟨h8, G⟩ | ⟨h8, G⟩
 refine Aw ?_
 obtain ⟨e_2, he_2, G⟩ := Ab G
 refine Aw ?_
 refine C0 (E5 rfl rfl h8) rfl (N0 oL ty9 (by decide) (Tp C9.enc_len (Cw he_2) (o := 0) (by decide) rfl)) rfl rfl ?_
 refine C0 (E5 rfl rfl h8) rfl (Dy ty9 (Gt C9.enc_len (Cw he_2) (o := 0) (c := .str e_2.Alias) rfl rfl)) rfl rfl ?_
 refine Aw ?_
 refine C0 (E5 rfl rfl h8) rfl gL rfl rfl ?_
 refine Aw ?_
 rcases D9 G with ⟨h9, G⟩ | ⟨h9, G⟩
 refine Bj fun B => ?_
 exact ⟨true, G, A1 []⟩
 refine Aw ?_
 obtain ⟨y_2, hy_2, G⟩ := Ab G
 refine Do (Le _ _ _ _ hy_2) ?_
 refine Bj fun B => ?_
 exact ⟨!y_2, G, A1 []⟩
 refine Aw ?_
 obtain ⟨y_3, hy_3, G⟩ := Ab G
 refine Do (Le _ _ _ _ hy_3) ?_
 refine Bj fun B => ?_
 exact ⟨!y_3, G, A1 []⟩
 rintro x40_2 G
 replace G : B4.j2 x7_1 x40_2 = some o1 := G
 show B2 _ _ _ _ (mk _ _ _)
 unfold B4.j2 at G
 refine C4 rfl G (fun h13 G => ?_) fun h13 G => ?_
 refine Bh 0 8 A5 fun B => ?_
 refine Fg ?_
 replace G := Cn G hn1
 exact Zh
 refine Dg ?_
 refine Ak (B8 _ _ []) 0 16 A5 rfl rfl ?_
 refine Bj fun B => ?_
 obtain rfl := oi_ G
 exact ⟨(W (x7_1 + 1), m1), Nat.lt_succ_self _, hn1, A1 []⟩
 refine Jl ?_
 replace G := Cn G hn1
 refine Aj <| Bh 8 32 B fun B => ?_
 refine C4 rfl G (fun h17 G => ?_) fun h17 G => ?_
 refine B9 32 40 B ?_
 exact De
 refine Dg ?_
 refine Bh 32 40 B fun B => ?_
 exact La
theorem Dx (p : Dh) (kind : Int) (u : As) (number : Int) (r : Dh) (G : Cp p kind u number = some r) : Fn Tryz.prog 37 1 [.ptr 0 0, vk kind, .agg [vk u.Alg, vk u.Bits], vk number] [.box [vk p.at_.Source, ws p.at_.Host, vk p.at_.Machine, vk p.at_.Day, vk p.at_.Confidence, vk p.at_.Kind, ws p.at_.Subject, vk p.at_.Use.Alg, vk p.at_.Use.Bits, vk p.at_.Number, ws p.at_.Text, .row 1] 80, .row 30 11 (Aq Aa.enc p.l)] (fun d' b' => d' = .tup [] /\ b' = [.box [vk r.at_.Source, ws r.at_.Host, vk r.at_.Machine, vk r.at_.Day, vk r.at_.Confidence, vk r.at_.Kind, ws r.at_.Subject, vk r.at_.Use.Alg, vk r.at_.Use.Bits, vk r.at_.Number, ws r.at_.Text, .row 1] 80, .row 30 11 (Aq Aa.enc r.l)]) := by
 unfold Cp at G
 refine Fn.of Tryz.func37 rfl rfl rfl fun w0 I ρ0 => ?_
 show B2 _ ⟨w0, I, ρ0, 1, 2, 29⟩ _ _ _
 refine Bh 2 10 A5 fun B => ?_
 refine Bh 10 58 B fun B => ?_
 refine Aj <| Bq (B8 _ _ []) (by kernel_rfl) [0, 0, 0, 1, 9, 27, 59, 127, 255] 58 130 B rfl rfl (by kernel_rfl) ?_
 refine Bj fun B => ?_
 refine Bq (B8 _ _ []) (by kernel_rfl) [0, 0, 2, 6, 14, 0, 32, 126, 255, 511, 1023] 130 218 B rfl rfl (by kernel_rfl) ?_
 refine Aw ?_
 refine Kh Vs z30 J7 ([(Aa.mk p.at_.Source p.at_.Host p.at_.Machine p.at_.Day p.at_.Confidence kind p.at_.Subject u number p.at_.Text)] : List Aa) Aa.enc ?_
 obtain ⟨l, hl, G⟩ := Ab G
 refine Gd (rd := [1, 178]) rfl rfl (D5 Vs Aa.enc_len .row rfl .row rfl hl rfl) rfl rfl ?_
 refine Bj fun B => ?_
 obtain rfl := oi_ G
 exact Gr [(0, 0), (1, 186)] ⟨rfl, rfl⟩
theorem Lk (s : (List Aa)) (r : (List Aa)) (G : B6 s = some r) : Fn Tryz.prog 71 0 [.sl 11 (Aq Aa.enc s)] [] (fun d' b' => d' = .row 0 /\ b' = [.row 30 11 (Aq Aa.enc r)]) := by
 unfold B6 at G
 refine Fn.of Tryz.func71 rfl rfl rfl fun w0 I ρ0 => ?_
 show B2 _ ⟨w0, I, ρ0, 0, 0, 8⟩ _ _ _
 refine Bh 0 8 A5 fun B => ?_
 refine Aj <| Bo (ι := Bool) (fun (x4_1 : Bool) => mk [(0, .sl 11 (Aq Aa.enc s)), (4, .val (.bool x4_1))] [] 0) (fun (x4_1 : Bool) => B6.j1 s x4_1 = some r) ?_ ?_
 refine Ak (B8 _ _ []) 8 24 B rfl rfl ?_
 refine Aw ?_
 refine vC rfl rfl ⟨_, aCj⟩ rfl ?_
 intro bz hz2
 rcases bz with _ | _
 replace G := aAc G
 refine Gk fun B => ?_
 exact ⟨false, G, A1 []⟩
 replace G := xA ((iN Aa.enc_len (by decide) (hz2 rfl))) G
 refine Gk fun B => ?_
 exact ⟨true, G, A1 []⟩
 rintro x4_1 G
 replace G : B6.j1 s x4_1 = some r := G
 show B2 _ _ _ _ (mk _ _ _)
 unfold B6.j1 at G
 refine C4 rfl G (fun h5 G => ?_) fun h5 G => ?_
 refine B9 0 8 A5 ?_
 exact De
 refine Dg ?_
 refine B9 0 32 A5 ?_
 refine C0 rfl rfl (Em Vs z30 (by decide) rfl rfl rfl rfl J7 (cs := []) .nil rfl (l := ([] : List Aa)) (f := Aa.enc) rfl) rfl rfl ?_
 refine Aw ?_
 obtain ⟨l, hl, G⟩ := Ab G
 refine Gd (rd := [0]) rfl rfl (D5 Vs Aa.enc_len .row rfl .sl rfl hl rfl) rfl rfl ?_
 refine Bj fun B => ?_
 refine Fg ?_
 obtain rfl := oi_ G
 exact Gr [(0, 16)] ⟨rfl, rfl⟩
theorem Uz (x' : Int) (r : Int) (G : Bi x' = some r) : Fn Tryz.prog 140 0 [.val (.int .u64 x')] [] (fun d' b' => d' = vk r /\ b' = []) := by
 unfold Bi at G
 refine Fn.of Tryz.func140 rfl rfl rfl fun w0 I ρ0 => ?_
 show B2 _ ⟨w0, I, ρ0, 0, 0, 25⟩ _ _ _
 refine Bh 0 8 A5 fun B => ?_
 refine Bo (ι := Int × Int) (fun ((x_1, n_1) : Int × Int) => mk [(0, .val (.int .u64 x_1)), (2, vk n_1)] [] 0) (fun ((x_1, n_1) : Int × Int) => Bi.j1 x_1 n_1 = some r) ?_ ?_
 refine Bh 8 24 B fun B => ?_
 refine C4 rfl G (fun h3 G => ?_) fun h3 G => ?_
 refine B9 24 48 B ?_
 refine Aw ?_
 obtain ⟨q, hq, G⟩ := Ab G
 refine C0 rfl rfl (Nu hq) rfl rfl ?_
 refine Bj fun B => ?_
 refine Ak (B8 _ _ []) 48 56 B rfl rfl ?_
 refine Bj fun B => ?_
 exact ⟨(q, 32), G, A1 []⟩
 refine Dg ?_
 exact ⟨(x', 0), G, A1 []⟩
 rintro ⟨x_1, n_1⟩ G
 replace G : Bi.j1 x_1 n_1 = some r := G
 show B2 _ _ _ _ (mk _ _ _)
 unfold Bi.j1 at G
 refine Bo (ι := Int × Int) (fun ((x_2, n_2) : Int × Int) => mk [(0, .val (.int .u64 x_2)), (2, vk n_2)] [] 0) (fun ((x_2, n_2) : Int × Int) => Bi.j2 x_2 n_2 = some r) ?_ ?_
 refine Bh 0 16 A5 fun B => ?_
 refine C4 rfl G (fun h7 G => ?_) fun h7 G => ?_
 refine B9 16 40 B ?_
 refine Aw ?_
 obtain ⟨q_2, hq_2, G⟩ := Ab G
 refine C0 rfl rfl (Nu hq_2) rfl rfl ?_
 refine Bj fun B => ?_
 refine Ak (B8 _ _ []) 40 64 B rfl rfl ?_
 refine Bj fun B => ?_
 exact ⟨(q_2, W (n_1 + 16)), G, A1 []⟩
 refine Dg ?_
 exact ⟨(x_1, n_1), G, A1 []⟩
 rintro ⟨x_2, n_2⟩ G
 replace G : Bi.j2 x_2 n_2 = some r := G
 show B2 _ _ _ _ (mk _ _ _)
 unfold Bi.j2 at G
 refine Bo (ι := Int × Int) (fun ((x_3, n_3) : Int × Int) => mk [(0, .val (.int .u64 x_3)), (2, vk n_3)] [] 0) (fun ((x_3, n_3) : Int × Int) => Bi.j3 x_3 n_3 = some r) ?_ ?_
 refine Bh 0 16 A5 fun B => ?_
 refine C4 rfl G (fun h11 G => ?_) fun h11 G => ?_
 refine B9 16 40 B ?_
 refine Aw ?_
 obtain ⟨q_3, hq_3, G⟩ := Ab G
 refine C0 rfl rfl (Nu hq_3) rfl rfl ?_
 refine Bj fun B => ?_
 refine Ak (B8 _ _ []) 40 64 B rfl rfl ?_
 refine Bj fun B => ?_
 exact ⟨(q_3, W (n_2 + 8)), G, A1 []⟩
 refine Dg ?_
 exact ⟨(x_2, n_2), G, A1 []⟩
 rintro ⟨x_3, n_3⟩ G
 replace G : Bi.j3 x_3 n_3 = some r := G
 show B2 _ _ _ _ (mk _ _ _)
 unfold Bi.j3 at G
 refine B9 0 56 A5 ?_
 refine Aw ?_
 refine C0 rfl rfl (E2 zK Mc) rfl rfl ?_
 obtain ⟨c, hc, G⟩ := Ab G
 refine C0 rfl rfl (gS Vc hc) rfl rfl ?_
 refine C0 rfl rfl (lC (u := c) Mc L5) rfl rfl ?_
 exact De
theorem Qr (x' : Int) (r : Int) (G : Hc x' = some r) : Fn Tryz.prog 95 0 [.val (.int .u64 x')] [] (fun d' b' => d' = vk r /\ b' = []) := by
 unfold Hc at G
 refine Fn.of Tryz.func95 rfl rfl rfl fun w0 I ρ0 => ?_
 show B2 _ ⟨w0, I, ρ0, 0, 0, 8⟩ _ _ _
 refine Bh 0 8 A5 fun B => ?_
 refine Aj <| lZ (fun h => ?_) (fun h => ?_)
 exact absurd h (by first | decide | exact fun h => nomatch (show false = true from h) | exact fun h => nomatch (show true = false from h))
 refine Dg ?_
 refine B9 8 32 B ?_
 refine Aw ?_
 obtain ⟨y, hy, G⟩ := Ab G
 refine Do (Uz _ _ hy) ?_
 exact De
theorem Pg (c0 : Aa) (c1 : Aa) (r : (Aa × Aa)) (G : G0 c0 c1 = some r) : Fn Tryz.prog 99 0 [.val (.func (.func 102) #[] #[]), .elt (([.int .i64 c0.Source, .str c0.Host, .int .i64 c0.Machine, .int .i64 c0.Day, .int .i64 c0.Confidence, .int .i64 c0.Kind, .str c0.Subject, .int .i64 c0.Use.Alg, .int .i64 c0.Use.Bits, .int .i64 c0.Number, .str c0.Text] : List C).drop 0), .elt (([.int .i64 c1.Source, .str c1.Host, .int .i64 c1.Machine, .int .i64 c1.Day, .int .i64 c1.Confidence, .int .i64 c1.Kind, .str c1.Subject, .int .i64 c1.Use.Alg, .int .i64 c1.Use.Bits, .int .i64 c1.Number, .str c1.Text] : List C).drop 0)] [] (fun d' b' => d' = .clo 100 0 [.elt (([.raw (.func (.func 102) #[] #[])] : List C).drop 0), .elt (([.int .i64 r.1.Source, .str r.1.Host, .int .i64 r.1.Machine, .int .i64 r.1.Day, .int .i64 r.1.Confidence, .int .i64 r.1.Kind, .str r.1.Subject, .int .i64 r.1.Use.Alg, .int .i64 r.1.Use.Bits, .int .i64 r.1.Number, .str r.1.Text] : List C).drop 0), .elt (([.int .i64 r.2.Source, .str r.2.Host, .int .i64 r.2.Machine, .int .i64 r.2.Day, .int .i64 r.2.Confidence, .int .i64 r.2.Kind, .str r.2.Subject, .int .i64 r.2.Use.Alg, .int .i64 r.2.Use.Bits, .int .i64 r.2.Number, .str r.2.Text] : List C).drop 0)] /\ b' = []) := by
 unfold G0 at G
 refine Fn.of Tryz.func99 rfl rfl rfl fun w0 I ρ0 => ?_
 show B2 _ ⟨w0, I, ρ0, 0, 0, 6⟩ _ _ _
 refine Bh 0 16 A5 fun B => ?_
 refine Aj <| E3 (σ' := mk [(1, .elt (([.int .i64 c0.Source, .str c0.Host, .int .i64 c0.Machine, .int .i64 c0.Day, .int .i64 c0.Confidence, .int .i64 c0.Kind, .str c0.Subject, .int .i64 c0.Use.Alg, .int .i64 c0.Use.Bits, .int .i64 c0.Number, .str c0.Text] : List C).drop 0)), (2, .elt (([.int .i64 c1.Source, .str c1.Host, .int .i64 c1.Machine, .int .i64 c1.Day, .int .i64 c1.Confidence, .int .i64 c1.Kind, .str c1.Subject, .int .i64 c1.Use.Alg, .int .i64 c1.Use.Bits, .int .i64 c1.Number, .str c1.Text] : List C).drop 0)), (3, .elt (([.raw (.func (.func 102) #[] #[])] : List C).drop 0))] [] 0) ((by exact P3.lists [] rfl rfl ⟨⟨_, rfl, .elt _⟩, ⟨_, rfl, .elt _⟩, ⟨_, rfl, .frzb (ks := [none]) rfl (.cons .func .nil) (Fq rfl)⟩, trivial⟩ trivial)) ?_
 refine Ak (B8 _ _ []) 0 16 A5 rfl rfl ?_
 exact De
theorem Pc (c0 : Aa) (c1 : Aa) (r : (Aa × Aa)) (G : G6 c0 c1 = some r) : Fn Tryz.prog 96 0 [.val (.func (.func 103) #[] #[]), .elt (([.int .i64 c0.Source, .str c0.Host, .int .i64 c0.Machine, .int .i64 c0.Day, .int .i64 c0.Confidence, .int .i64 c0.Kind, .str c0.Subject, .int .i64 c0.Use.Alg, .int .i64 c0.Use.Bits, .int .i64 c0.Number, .str c0.Text] : List C).drop 0), .elt (([.int .i64 c1.Source, .str c1.Host, .int .i64 c1.Machine, .int .i64 c1.Day, .int .i64 c1.Confidence, .int .i64 c1.Kind, .str c1.Subject, .int .i64 c1.Use.Alg, .int .i64 c1.Use.Bits, .int .i64 c1.Number, .str c1.Text] : List C).drop 0)] [] (fun d' b' => d' = .clo 97 0 [.elt (([.raw (.func (.func 103) #[] #[])] : List C).drop 0), .elt (([.int .i64 r.1.Source, .str r.1.Host, .int .i64 r.1.Machine, .int .i64 r.1.Day, .int .i64 r.1.Confidence, .int .i64 r.1.Kind, .str r.1.Subject, .int .i64 r.1.Use.Alg, .int .i64 r.1.Use.Bits, .int .i64 r.1.Number, .str r.1.Text] : List C).drop 0), .elt (([.int .i64 r.2.Source, .str r.2.Host, .int .i64 r.2.Machine, .int .i64 r.2.Day, .int .i64 r.2.Confidence, .int .i64 r.2.Kind, .str r.2.Subject, .int .i64 r.2.Use.Alg, .int .i64 r.2.Use.Bits, .int .i64 r.2.Number, .str r.2.Text] : List C).drop 0)] /\ b' = []) := by
 unfold G6 at G
 refine Fn.of Tryz.func96 rfl rfl rfl fun w0 I ρ0 => ?_
 show B2 _ ⟨w0, I, ρ0, 0, 0, 6⟩ _ _ _
 refine Bh 0 16 A5 fun B => ?_
 refine Aj <| E3 (σ' := mk [(1, .elt (([.int .i64 c0.Source, .str c0.Host, .int .i64 c0.Machine, .int .i64 c0.Day, .int .i64 c0.Confidence, .int .i64 c0.Kind, .str c0.Subject, .int .i64 c0.Use.Alg, .int .i64 c0.Use.Bits, .int .i64 c0.Number, .str c0.Text] : List C).drop 0)), (2, .elt (([.int .i64 c1.Source, .str c1.Host, .int .i64 c1.Machine, .int .i64 c1.Day, .int .i64 c1.Confidence, .int .i64 c1.Kind, .str c1.Subject, .int .i64 c1.Use.Alg, .int .i64 c1.Use.Bits, .int .i64 c1.Number, .str c1.Text] : List C).drop 0)), (3, .elt (([.raw (.func (.func 103) #[] #[])] : List C).drop 0))] [] 0) ((by exact P3.lists [] rfl rfl ⟨⟨_, rfl, .elt _⟩, ⟨_, rfl, .elt _⟩, ⟨_, rfl, .frzb (ks := [none]) rfl (.cons .func .nil) (Fq rfl)⟩, trivial⟩ trivial)) ?_
 refine Ak (B8 _ _ []) 0 16 A5 rfl rfl ?_
 exact De
theorem Pl (c0 : Aa) (c1 : Aa) (r : (Aa × Aa)) (G : G7 c0 c1 = some r) : Fn Tryz.prog 96 0 [.val (.func (.func 104) #[] #[]), .elt (([.int .i64 c0.Source, .str c0.Host, .int .i64 c0.Machine, .int .i64 c0.Day, .int .i64 c0.Confidence, .int .i64 c0.Kind, .str c0.Subject, .int .i64 c0.Use.Alg, .int .i64 c0.Use.Bits, .int .i64 c0.Number, .str c0.Text] : List C).drop 0), .elt (([.int .i64 c1.Source, .str c1.Host, .int .i64 c1.Machine, .int .i64 c1.Day, .int .i64 c1.Confidence, .int .i64 c1.Kind, .str c1.Subject, .int .i64 c1.Use.Alg, .int .i64 c1.Use.Bits, .int .i64 c1.Number, .str c1.Text] : List C).drop 0)] [] (fun d' b' => d' = .clo 97 0 [.elt (([.raw (.func (.func 104) #[] #[])] : List C).drop 0), .elt (([.int .i64 r.1.Source, .str r.1.Host, .int .i64 r.1.Machine, .int .i64 r.1.Day, .int .i64 r.1.Confidence, .int .i64 r.1.Kind, .str r.1.Subject, .int .i64 r.1.Use.Alg, .int .i64 r.1.Use.Bits, .int .i64 r.1.Number, .str r.1.Text] : List C).drop 0), .elt (([.int .i64 r.2.Source, .str r.2.Host, .int .i64 r.2.Machine, .int .i64 r.2.Day, .int .i64 r.2.Confidence, .int .i64 r.2.Kind, .str r.2.Subject, .int .i64 r.2.Use.Alg, .int .i64 r.2.Use.Bits, .int .i64 r.2.Number, .str r.2.Text] : List C).drop 0)] /\ b' = []) := by
 unfold G7 at G
 refine Fn.of Tryz.func96 rfl rfl rfl fun w0 I ρ0 => ?_
 show B2 _ ⟨w0, I, ρ0, 0, 0, 6⟩ _ _ _
 refine Bh 0 16 A5 fun B => ?_
 refine Aj <| E3 (σ' := mk [(1, .elt (([.int .i64 c0.Source, .str c0.Host, .int .i64 c0.Machine, .int .i64 c0.Day, .int .i64 c0.Confidence, .int .i64 c0.Kind, .str c0.Subject, .int .i64 c0.Use.Alg, .int .i64 c0.Use.Bits, .int .i64 c0.Number, .str c0.Text] : List C).drop 0)), (2, .elt (([.int .i64 c1.Source, .str c1.Host, .int .i64 c1.Machine, .int .i64 c1.Day, .int .i64 c1.Confidence, .int .i64 c1.Kind, .str c1.Subject, .int .i64 c1.Use.Alg, .int .i64 c1.Use.Bits, .int .i64 c1.Number, .str c1.Text] : List C).drop 0)), (3, .elt (([.raw (.func (.func 104) #[] #[])] : List C).drop 0))] [] 0) ((by exact P3.lists [] rfl rfl ⟨⟨_, rfl, .elt _⟩, ⟨_, rfl, .elt _⟩, ⟨_, rfl, .frzb (ks := [none]) rfl (.cons .func .nil) (Fq rfl)⟩, trivial⟩ trivial)) ?_
 refine Ak (B8 _ _ []) 0 16 A5 rfl rfl ?_
 exact De
theorem O4 (c0 : Aa) (c1 : Aa) (r : (Aa × Aa)) (G : Gy c0 c1 = some r) : Fn Tryz.prog 99 0 [.val (.func (.func 105) #[] #[]), .elt (([.int .i64 c0.Source, .str c0.Host, .int .i64 c0.Machine, .int .i64 c0.Day, .int .i64 c0.Confidence, .int .i64 c0.Kind, .str c0.Subject, .int .i64 c0.Use.Alg, .int .i64 c0.Use.Bits, .int .i64 c0.Number, .str c0.Text] : List C).drop 0), .elt (([.int .i64 c1.Source, .str c1.Host, .int .i64 c1.Machine, .int .i64 c1.Day, .int .i64 c1.Confidence, .int .i64 c1.Kind, .str c1.Subject, .int .i64 c1.Use.Alg, .int .i64 c1.Use.Bits, .int .i64 c1.Number, .str c1.Text] : List C).drop 0)] [] (fun d' b' => d' = .clo 100 0 [.elt (([.raw (.func (.func 105) #[] #[])] : List C).drop 0), .elt (([.int .i64 r.1.Source, .str r.1.Host, .int .i64 r.1.Machine, .int .i64 r.1.Day, .int .i64 r.1.Confidence, .int .i64 r.1.Kind, .str r.1.Subject, .int .i64 r.1.Use.Alg, .int .i64 r.1.Use.Bits, .int .i64 r.1.Number, .str r.1.Text] : List C).drop 0), .elt (([.int .i64 r.2.Source, .str r.2.Host, .int .i64 r.2.Machine, .int .i64 r.2.Day, .int .i64 r.2.Confidence, .int .i64 r.2.Kind, .str r.2.Subject, .int .i64 r.2.Use.Alg, .int .i64 r.2.Use.Bits, .int .i64 r.2.Number, .str r.2.Text] : List C).drop 0)] /\ b' = []) := by
 unfold Gy at G
 refine Fn.of Tryz.func99 rfl rfl rfl fun w0 I ρ0 => ?_
 show B2 _ ⟨w0, I, ρ0, 0, 0, 6⟩ _ _ _
 refine Bh 0 16 A5 fun B => ?_
 refine Aj <| E3 (σ' := mk [(1, .elt (([.int .i64 c0.Source, .str c0.Host, .int .i64 c0.Machine, .int .i64 c0.Day, .int .i64 c0.Confidence, .int .i64 c0.Kind, .str c0.Subject, .int .i64 c0.Use.Alg, .int .i64 c0.Use.Bits, .int .i64 c0.Number, .str c0.Text] : List C).drop 0)), (2, .elt (([.int .i64 c1.Source, .str c1.Host, .int .i64 c1.Machine, .int .i64 c1.Day, .int .i64 c1.Confidence, .int .i64 c1.Kind, .str c1.Subject, .int .i64 c1.Use.Alg, .int .i64 c1.Use.Bits, .int .i64 c1.Number, .str c1.Text] : List C).drop 0)), (3, .elt (([.raw (.func (.func 105) #[] #[])] : List C).drop 0))] [] 0) ((by exact P3.lists [] rfl rfl ⟨⟨_, rfl, .elt _⟩, ⟨_, rfl, .elt _⟩, ⟨_, rfl, .frzb (ks := [none]) rfl (.cons .func .nil) (Fq rfl)⟩, trivial⟩ trivial)) ?_
 refine Ak (B8 _ _ []) 0 16 A5 rfl rfl ?_
 exact De
theorem Pi (c0 : Aa) (c1 : Aa) (r : (Aa × Aa)) (G : G5 c0 c1 = some r) : Fn Tryz.prog 96 0 [.val (.func (.func 106) #[] #[]), .elt (([.int .i64 c0.Source, .str c0.Host, .int .i64 c0.Machine, .int .i64 c0.Day, .int .i64 c0.Confidence, .int .i64 c0.Kind, .str c0.Subject, .int .i64 c0.Use.Alg, .int .i64 c0.Use.Bits, .int .i64 c0.Number, .str c0.Text] : List C).drop 0), .elt (([.int .i64 c1.Source, .str c1.Host, .int .i64 c1.Machine, .int .i64 c1.Day, .int .i64 c1.Confidence, .int .i64 c1.Kind, .str c1.Subject, .int .i64 c1.Use.Alg, .int .i64 c1.Use.Bits, .int .i64 c1.Number, .str c1.Text] : List C).drop 0)] [] (fun d' b' => d' = .clo 97 0 [.elt (([.raw (.func (.func 106) #[] #[])] : List C).drop 0), .elt (([.int .i64 r.1.Source, .str r.1.Host, .int .i64 r.1.Machine, .int .i64 r.1.Day, .int .i64 r.1.Confidence, .int .i64 r.1.Kind, .str r.1.Subject, .int .i64 r.1.Use.Alg, .int .i64 r.1.Use.Bits, .int .i64 r.1.Number, .str r.1.Text] : List C).drop 0), .elt (([.int .i64 r.2.Source, .str r.2.Host, .int .i64 r.2.Machine, .int .i64 r.2.Day, .int .i64 r.2.Confidence, .int .i64 r.2.Kind, .str r.2.Subject, .int .i64 r.2.Use.Alg, .int .i64 r.2.Use.Bits, .int .i64 r.2.Number, .str r.2.Text] : List C).drop 0)] /\ b' = []) := by
 unfold G5 at G
 refine Fn.of Tryz.func96 rfl rfl rfl fun w0 I ρ0 => ?_
 show B2 _ ⟨w0, I, ρ0, 0, 0, 6⟩ _ _ _
 refine Bh 0 16 A5 fun B => ?_
 refine Aj <| E3 (σ' := mk [(1, .elt (([.int .i64 c0.Source, .str c0.Host, .int .i64 c0.Machine, .int .i64 c0.Day, .int .i64 c0.Confidence, .int .i64 c0.Kind, .str c0.Subject, .int .i64 c0.Use.Alg, .int .i64 c0.Use.Bits, .int .i64 c0.Number, .str c0.Text] : List C).drop 0)), (2, .elt (([.int .i64 c1.Source, .str c1.Host, .int .i64 c1.Machine, .int .i64 c1.Day, .int .i64 c1.Confidence, .int .i64 c1.Kind, .str c1.Subject, .int .i64 c1.Use.Alg, .int .i64 c1.Use.Bits, .int .i64 c1.Number, .str c1.Text] : List C).drop 0)), (3, .elt (([.raw (.func (.func 106) #[] #[])] : List C).drop 0))] [] 0) ((by exact P3.lists [] rfl rfl ⟨⟨_, rfl, .elt _⟩, ⟨_, rfl, .elt _⟩, ⟨_, rfl, .frzb (ks := [none]) rfl (.cons .func .nil) (Fq rfl)⟩, trivial⟩ trivial)) ?_
 refine Ak (B8 _ _ []) 0 16 A5 rfl rfl ?_
 exact De
theorem Pk (c0 : Aa) (c1 : Aa) (r : (Aa × Aa)) (G : G8 c0 c1 = some r) : Fn Tryz.prog 96 0 [.val (.func (.func 107) #[] #[]), .elt (([.int .i64 c0.Source, .str c0.Host, .int .i64 c0.Machine, .int .i64 c0.Day, .int .i64 c0.Confidence, .int .i64 c0.Kind, .str c0.Subject, .int .i64 c0.Use.Alg, .int .i64 c0.Use.Bits, .int .i64 c0.Number, .str c0.Text] : List C).drop 0), .elt (([.int .i64 c1.Source, .str c1.Host, .int .i64 c1.Machine, .int .i64 c1.Day, .int .i64 c1.Confidence, .int .i64 c1.Kind, .str c1.Subject, .int .i64 c1.Use.Alg, .int .i64 c1.Use.Bits, .int .i64 c1.Number, .str c1.Text] : List C).drop 0)] [] (fun d' b' => d' = .clo 97 0 [.elt (([.raw (.func (.func 107) #[] #[])] : List C).drop 0), .elt (([.int .i64 r.1.Source, .str r.1.Host, .int .i64 r.1.Machine, .int .i64 r.1.Day, .int .i64 r.1.Confidence, .int .i64 r.1.Kind, .str r.1.Subject, .int .i64 r.1.Use.Alg, .int .i64 r.1.Use.Bits, .int .i64 r.1.Number, .str r.1.Text] : List C).drop 0), .elt (([.int .i64 r.2.Source, .str r.2.Host, .int .i64 r.2.Machine, .int .i64 r.2.Day, .int .i64 r.2.Confidence, .int .i64 r.2.Kind, .str r.2.Subject, .int .i64 r.2.Use.Alg, .int .i64 r.2.Use.Bits, .int .i64 r.2.Number, .str r.2.Text] : List C).drop 0)] /\ b' = []) := by
 unfold G8 at G
 refine Fn.of Tryz.func96 rfl rfl rfl fun w0 I ρ0 => ?_
 show B2 _ ⟨w0, I, ρ0, 0, 0, 6⟩ _ _ _
 refine Bh 0 16 A5 fun B => ?_
 refine Aj <| E3 (σ' := mk [(1, .elt (([.int .i64 c0.Source, .str c0.Host, .int .i64 c0.Machine, .int .i64 c0.Day, .int .i64 c0.Confidence, .int .i64 c0.Kind, .str c0.Subject, .int .i64 c0.Use.Alg, .int .i64 c0.Use.Bits, .int .i64 c0.Number, .str c0.Text] : List C).drop 0)), (2, .elt (([.int .i64 c1.Source, .str c1.Host, .int .i64 c1.Machine, .int .i64 c1.Day, .int .i64 c1.Confidence, .int .i64 c1.Kind, .str c1.Subject, .int .i64 c1.Use.Alg, .int .i64 c1.Use.Bits, .int .i64 c1.Number, .str c1.Text] : List C).drop 0)), (3, .elt (([.raw (.func (.func 107) #[] #[])] : List C).drop 0))] [] 0) ((by exact P3.lists [] rfl rfl ⟨⟨_, rfl, .elt _⟩, ⟨_, rfl, .elt _⟩, ⟨_, rfl, .frzb (ks := [none]) rfl (.cons .func .nil) (Fq rfl)⟩, trivial⟩ trivial)) ?_
 refine Ak (B8 _ _ []) 0 16 A5 rfl rfl ?_
 exact De
theorem Ps (c0 : Aa) (c1 : Aa) (r : (Aa × Aa)) (G : G4 c0 c1 = some r) : Fn Tryz.prog 96 0 [.val (.func (.func 108) #[] #[]), .elt (([.int .i64 c0.Source, .str c0.Host, .int .i64 c0.Machine, .int .i64 c0.Day, .int .i64 c0.Confidence, .int .i64 c0.Kind, .str c0.Subject, .int .i64 c0.Use.Alg, .int .i64 c0.Use.Bits, .int .i64 c0.Number, .str c0.Text] : List C).drop 0), .elt (([.int .i64 c1.Source, .str c1.Host, .int .i64 c1.Machine, .int .i64 c1.Day, .int .i64 c1.Confidence, .int .i64 c1.Kind, .str c1.Subject, .int .i64 c1.Use.Alg, .int .i64 c1.Use.Bits, .int .i64 c1.Number, .str c1.Text] : List C).drop 0)] [] (fun d' b' => d' = .clo 97 0 [.elt (([.raw (.func (.func 108) #[] #[])] : List C).drop 0), .elt (([.int .i64 r.1.Source, .str r.1.Host, .int .i64 r.1.Machine, .int .i64 r.1.Day, .int .i64 r.1.Confidence, .int .i64 r.1.Kind, .str r.1.Subject, .int .i64 r.1.Use.Alg, .int .i64 r.1.Use.Bits, .int .i64 r.1.Number, .str r.1.Text] : List C).drop 0), .elt (([.int .i64 r.2.Source, .str r.2.Host, .int .i64 r.2.Machine, .int .i64 r.2.Day, .int .i64 r.2.Confidence, .int .i64 r.2.Kind, .str r.2.Subject, .int .i64 r.2.Use.Alg, .int .i64 r.2.Use.Bits, .int .i64 r.2.Number, .str r.2.Text] : List C).drop 0)] /\ b' = []) := by
 unfold G4 at G
 refine Fn.of Tryz.func96 rfl rfl rfl fun w0 I ρ0 => ?_
 show B2 _ ⟨w0, I, ρ0, 0, 0, 6⟩ _ _ _
 refine Bh 0 16 A5 fun B => ?_
 refine Aj <| E3 (σ' := mk [(1, .elt (([.int .i64 c0.Source, .str c0.Host, .int .i64 c0.Machine, .int .i64 c0.Day, .int .i64 c0.Confidence, .int .i64 c0.Kind, .str c0.Subject, .int .i64 c0.Use.Alg, .int .i64 c0.Use.Bits, .int .i64 c0.Number, .str c0.Text] : List C).drop 0)), (2, .elt (([.int .i64 c1.Source, .str c1.Host, .int .i64 c1.Machine, .int .i64 c1.Day, .int .i64 c1.Confidence, .int .i64 c1.Kind, .str c1.Subject, .int .i64 c1.Use.Alg, .int .i64 c1.Use.Bits, .int .i64 c1.Number, .str c1.Text] : List C).drop 0)), (3, .elt (([.raw (.func (.func 108) #[] #[])] : List C).drop 0))] [] 0) ((by exact P3.lists [] rfl rfl ⟨⟨_, rfl, .elt _⟩, ⟨_, rfl, .elt _⟩, ⟨_, rfl, .frzb (ks := [none]) rfl (.cons .func .nil) (Fq rfl)⟩, trivial⟩ trivial)) ?_
 refine Ak (B8 _ _ []) 0 16 A5 rfl rfl ?_
 exact De
theorem P2 (c0 : Aa) (c1 : Aa) (r : (Aa × Aa)) (G : Gz c0 c1 = some r) : Fn Tryz.prog 96 0 [.val (.func (.func 109) #[] #[]), .elt (([.int .i64 c0.Source, .str c0.Host, .int .i64 c0.Machine, .int .i64 c0.Day, .int .i64 c0.Confidence, .int .i64 c0.Kind, .str c0.Subject, .int .i64 c0.Use.Alg, .int .i64 c0.Use.Bits, .int .i64 c0.Number, .str c0.Text] : List C).drop 0), .elt (([.int .i64 c1.Source, .str c1.Host, .int .i64 c1.Machine, .int .i64 c1.Day, .int .i64 c1.Confidence, .int .i64 c1.Kind, .str c1.Subject, .int .i64 c1.Use.Alg, .int .i64 c1.Use.Bits, .int .i64 c1.Number, .str c1.Text] : List C).drop 0)] [] (fun d' b' => d' = .clo 97 0 [.elt (([.raw (.func (.func 109) #[] #[])] : List C).drop 0), .elt (([.int .i64 r.1.Source, .str r.1.Host, .int .i64 r.1.Machine, .int .i64 r.1.Day, .int .i64 r.1.Confidence, .int .i64 r.1.Kind, .str r.1.Subject, .int .i64 r.1.Use.Alg, .int .i64 r.1.Use.Bits, .int .i64 r.1.Number, .str r.1.Text] : List C).drop 0), .elt (([.int .i64 r.2.Source, .str r.2.Host, .int .i64 r.2.Machine, .int .i64 r.2.Day, .int .i64 r.2.Confidence, .int .i64 r.2.Kind, .str r.2.Subject, .int .i64 r.2.Use.Alg, .int .i64 r.2.Use.Bits, .int .i64 r.2.Number, .str r.2.Text] : List C).drop 0)] /\ b' = []) := by
 unfold Gz at G
 refine Fn.of Tryz.func96 rfl rfl rfl fun w0 I ρ0 => ?_
 show B2 _ ⟨w0, I, ρ0, 0, 0, 6⟩ _ _ _
 refine Bh 0 16 A5 fun B => ?_
 refine Aj <| E3 (σ' := mk [(1, .elt (([.int .i64 c0.Source, .str c0.Host, .int .i64 c0.Machine, .int .i64 c0.Day, .int .i64 c0.Confidence, .int .i64 c0.Kind, .str c0.Subject, .int .i64 c0.Use.Alg, .int .i64 c0.Use.Bits, .int .i64 c0.Number, .str c0.Text] : List C).drop 0)), (2, .elt (([.int .i64 c1.Source, .str c1.Host, .int .i64 c1.Machine, .int .i64 c1.Day, .int .i64 c1.Confidence, .int .i64 c1.Kind, .str c1.Subject, .int .i64 c1.Use.Alg, .int .i64 c1.Use.Bits, .int .i64 c1.Number, .str c1.Text] : List C).drop 0)), (3, .elt (([.raw (.func (.func 109) #[] #[])] : List C).drop 0))] [] 0) ((by exact P3.lists [] rfl rfl ⟨⟨_, rfl, .elt _⟩, ⟨_, rfl, .elt _⟩, ⟨_, rfl, .frzb (ks := [none]) rfl (.cons .func .nil) (Fq rfl)⟩, trivial⟩ trivial)) ?_
 refine Ak (B8 _ _ []) 0 16 A5 rfl rfl ?_
 exact De
theorem P0 (c0 : Aa) (c1 : Aa) (r : (Aa × Aa)) (G : G1 c0 c1 = some r) : Fn Tryz.prog 99 0 [.val (.func (.func 110) #[] #[]), .elt (([.int .i64 c0.Source, .str c0.Host, .int .i64 c0.Machine, .int .i64 c0.Day, .int .i64 c0.Confidence, .int .i64 c0.Kind, .str c0.Subject, .int .i64 c0.Use.Alg, .int .i64 c0.Use.Bits, .int .i64 c0.Number, .str c0.Text] : List C).drop 0), .elt (([.int .i64 c1.Source, .str c1.Host, .int .i64 c1.Machine, .int .i64 c1.Day, .int .i64 c1.Confidence, .int .i64 c1.Kind, .str c1.Subject, .int .i64 c1.Use.Alg, .int .i64 c1.Use.Bits, .int .i64 c1.Number, .str c1.Text] : List C).drop 0)] [] (fun d' b' => d' = .clo 100 0 [.elt (([.raw (.func (.func 110) #[] #[])] : List C).drop 0), .elt (([.int .i64 r.1.Source, .str r.1.Host, .int .i64 r.1.Machine, .int .i64 r.1.Day, .int .i64 r.1.Confidence, .int .i64 r.1.Kind, .str r.1.Subject, .int .i64 r.1.Use.Alg, .int .i64 r.1.Use.Bits, .int .i64 r.1.Number, .str r.1.Text] : List C).drop 0), .elt (([.int .i64 r.2.Source, .str r.2.Host, .int .i64 r.2.Machine, .int .i64 r.2.Day, .int .i64 r.2.Confidence, .int .i64 r.2.Kind, .str r.2.Subject, .int .i64 r.2.Use.Alg, .int .i64 r.2.Use.Bits, .int .i64 r.2.Number, .str r.2.Text] : List C).drop 0)] /\ b' = []) := by
 unfold G1 at G
 refine Fn.of Tryz.func99 rfl rfl rfl fun w0 I ρ0 => ?_
 show B2 _ ⟨w0, I, ρ0, 0, 0, 6⟩ _ _ _
 refine Bh 0 16 A5 fun B => ?_
 refine Aj <| E3 (σ' := mk [(1, .elt (([.int .i64 c0.Source, .str c0.Host, .int .i64 c0.Machine, .int .i64 c0.Day, .int .i64 c0.Confidence, .int .i64 c0.Kind, .str c0.Subject, .int .i64 c0.Use.Alg, .int .i64 c0.Use.Bits, .int .i64 c0.Number, .str c0.Text] : List C).drop 0)), (2, .elt (([.int .i64 c1.Source, .str c1.Host, .int .i64 c1.Machine, .int .i64 c1.Day, .int .i64 c1.Confidence, .int .i64 c1.Kind, .str c1.Subject, .int .i64 c1.Use.Alg, .int .i64 c1.Use.Bits, .int .i64 c1.Number, .str c1.Text] : List C).drop 0)), (3, .elt (([.raw (.func (.func 110) #[] #[])] : List C).drop 0))] [] 0) ((by exact P3.lists [] rfl rfl ⟨⟨_, rfl, .elt _⟩, ⟨_, rfl, .elt _⟩, ⟨_, rfl, .frzb (ks := [none]) rfl (.cons .func .nil) (Fq rfl)⟩, trivial⟩ trivial)) ?_
 refine Ak (B8 _ _ []) 0 16 A5 rfl rfl ?_
 exact De
theorem Pz (c0 : Aa) (c1 : Aa) (r : (Aa × Aa)) (G : G2 c0 c1 = some r) : Fn Tryz.prog 96 0 [.val (.func (.func 111) #[] #[]), .elt (([.int .i64 c0.Source, .str c0.Host, .int .i64 c0.Machine, .int .i64 c0.Day, .int .i64 c0.Confidence, .int .i64 c0.Kind, .str c0.Subject, .int .i64 c0.Use.Alg, .int .i64 c0.Use.Bits, .int .i64 c0.Number, .str c0.Text] : List C).drop 0), .elt (([.int .i64 c1.Source, .str c1.Host, .int .i64 c1.Machine, .int .i64 c1.Day, .int .i64 c1.Confidence, .int .i64 c1.Kind, .str c1.Subject, .int .i64 c1.Use.Alg, .int .i64 c1.Use.Bits, .int .i64 c1.Number, .str c1.Text] : List C).drop 0)] [] (fun d' b' => d' = .clo 97 0 [.elt (([.raw (.func (.func 111) #[] #[])] : List C).drop 0), .elt (([.int .i64 r.1.Source, .str r.1.Host, .int .i64 r.1.Machine, .int .i64 r.1.Day, .int .i64 r.1.Confidence, .int .i64 r.1.Kind, .str r.1.Subject, .int .i64 r.1.Use.Alg, .int .i64 r.1.Use.Bits, .int .i64 r.1.Number, .str r.1.Text] : List C).drop 0), .elt (([.int .i64 r.2.Source, .str r.2.Host, .int .i64 r.2.Machine, .int .i64 r.2.Day, .int .i64 r.2.Confidence, .int .i64 r.2.Kind, .str r.2.Subject, .int .i64 r.2.Use.Alg, .int .i64 r.2.Use.Bits, .int .i64 r.2.Number, .str r.2.Text] : List C).drop 0)] /\ b' = []) := by
 unfold G2 at G
 refine Fn.of Tryz.func96 rfl rfl rfl fun w0 I ρ0 => ?_
 show B2 _ ⟨w0, I, ρ0, 0, 0, 6⟩ _ _ _
 refine Bh 0 16 A5 fun B => ?_
 refine Aj <| E3 (σ' := mk [(1, .elt (([.int .i64 c0.Source, .str c0.Host, .int .i64 c0.Machine, .int .i64 c0.Day, .int .i64 c0.Confidence, .int .i64 c0.Kind, .str c0.Subject, .int .i64 c0.Use.Alg, .int .i64 c0.Use.Bits, .int .i64 c0.Number, .str c0.Text] : List C).drop 0)), (2, .elt (([.int .i64 c1.Source, .str c1.Host, .int .i64 c1.Machine, .int .i64 c1.Day, .int .i64 c1.Confidence, .int .i64 c1.Kind, .str c1.Subject, .int .i64 c1.Use.Alg, .int .i64 c1.Use.Bits, .int .i64 c1.Number, .str c1.Text] : List C).drop 0)), (3, .elt (([.raw (.func (.func 111) #[] #[])] : List C).drop 0))] [] 0) ((by exact P3.lists [] rfl rfl ⟨⟨_, rfl, .elt _⟩, ⟨_, rfl, .elt _⟩, ⟨_, rfl, .frzb (ks := [none]) rfl (.cons .func .nil) (Fq rfl)⟩, trivial⟩ trivial)) ?_
 refine Ak (B8 _ _ []) 0 16 A5 rfl rfl ?_
 exact De
end Go.Proofs.YtidpkjdkfkkgiaaGreat
