import Derived.Test.YtkoflhimdenjaaaGreatT1
set_option linter.unusedVariables false
set_option linter.unusedSimpArgs false
set_option maxRecDepth 100000
set_option maxHeartbeats 40000000
namespace Go.Proofs.YtkoflhimdenjaaaGreat
open Go.RowKit
theorem Fv (p : C8) (kind : Int) (u : Aw) (number : Int) (r : C8) (G : C7 p kind u number = some r) : Fn Tryz.prog 67 1 [.ptr 0 0, vk kind, .agg [vk u.Alg, vk u.Bits], vk number] [.box [vk p.at_.Source, ws p.at_.Host, vk p.at_.Machine, vk p.at_.Day, vk p.at_.Confidence, vk p.at_.Kind, ws p.at_.Subject, vk p.at_.Use.Alg, vk p.at_.Use.Bits, vk p.at_.Number, ws p.at_.Text, .row 1] 126, .row 48 11 (Aq Aa.enc p.l)] (fun d' b' => d' = .tup [] /\ b' = [.box [vk r.at_.Source, ws r.at_.Host, vk r.at_.Machine, vk r.at_.Day, vk r.at_.Confidence, vk r.at_.Kind, ws r.at_.Subject, vk r.at_.Use.Alg, vk r.at_.Use.Bits, vk r.at_.Number, ws r.at_.Text, .row 1] 126, .row 48 11 (Aq Aa.enc r.l)]) := by
 unfold C7 at G
 refine Fn.of Tryz.func67 rfl rfl rfl fun w0 I ρ0 => ?_
 show B4 _ ⟨w0, I, ρ0, 1, 2, 29⟩ _ _ _
 refine Bk 2 10 A8 fun B => ?_
 refine Bk 10 58 B fun B => ?_
 refine Ak <| Bv (Cj _ _ []) (by kernel_rfl) [0, 0, 0, 1, 9, 27, 59, 127, 255] 58 130 B rfl rfl (by kernel_rfl) ?_
 refine Bq fun B => ?_
 refine Bv (Cj _ _ []) (by kernel_rfl) [0, 0, 2, 6, 14, 0, 32, 126, 255, 511, 1023] 130 218 B rfl rfl (by kernel_rfl) ?_
 refine A6 ?_
 refine Ka Qe yU Jh ([(Aa.mk p.at_.Source p.at_.Host p.at_.Machine p.at_.Day p.at_.Confidence kind p.at_.Subject u number p.at_.Text)] : List Aa) Aa.enc ?_
 obtain ⟨l, hl, G⟩ := Ac G
 refine G4 (rd := [1, 178]) rfl rfl (Fb Qe Aa.enc_len .row rfl .row rfl hl rfl) rfl rfl ?_
 refine Bq fun B => ?_
 obtain rfl := oi_ G
 exact Ht [(0, 0), (1, 186)] ⟨rfl, rfl⟩
theorem K5 (s : (List Aa)) (r : (List Aa)) (G : B2 s = some r) : Fn Tryz.prog 110 0 [.sl 11 (Aq Aa.enc s)] [] (fun d' b' => d' = .row 0 /\ b' = [.row 48 11 (Aq Aa.enc r)]) := by
 unfold B2 at G
 refine Fn.of Tryz.func110 rfl rfl rfl fun w0 I ρ0 => ?_
 show B4 _ ⟨w0, I, ρ0, 0, 0, 8⟩ _ _ _
 refine Bk 0 8 A8 fun B => ?_
 refine Ak <| Bw (ι := Bool) (fun (x4_1 : Bool) => mk [(0, .sl 11 (Aq Aa.enc s)), (4, .val (.bool x4_1))] [] 0) (fun (x4_1 : Bool) => B2.j1 s x4_1 = some r) ?_ ?_
 refine An (Cj _ _ []) 8 24 B rfl rfl ?_
 refine A6 ?_
 refine uD rfl rfl ⟨_, aCo⟩ rfl ?_
 intro bz hz2
 rcases bz with _ | _
 replace G := wA G
 refine F7 fun B => ?_
 exact ⟨false, G, Bc []⟩
 replace G := zE ((eR Aa.enc_len (by decide) (hz2 rfl))) G
 refine F7 fun B => ?_
 exact ⟨true, G, Bc []⟩
 rintro x4_1 G
 replace G : B2.j1 s x4_1 = some r := G
 show B4 _ _ _ _ (mk _ _ _)
 unfold B2.j1 at G
 refine C5 rfl G (fun h5 G => ?_) fun h5 G => ?_
 refine B8 0 8 A8 ?_
 exact C6
 refine Dd ?_
 refine B8 0 32 A8 ?_
 refine Cr rfl rfl (Fp Qe yU (by decide) rfl rfl rfl rfl Jh (cs := []) .nil rfl (l := ([] : List Aa)) (f := Aa.enc) rfl) rfl rfl ?_
 refine A6 ?_
 obtain ⟨l, hl, G⟩ := Ac G
 refine G4 (rd := [0]) rfl rfl (Fb Qe Aa.enc_len .row rfl .sl rfl hl rfl) rfl rfl ?_
 refine Bq fun B => ?_
 refine F3 ?_
 obtain rfl := oi_ G
 exact Ht [(0, 16)] ⟨rfl, rfl⟩
theorem T6 (x' : Int) (r : Int) (G : Bj x' = some r) : Fn Tryz.prog 190 0 [.val (.int .u64 x')] [] (fun d' b' => d' = vk r /\ b' = []) := by
 unfold Bj at G
 refine Fn.of Tryz.func190 rfl rfl rfl fun w0 I ρ0 => ?_
 show B4 _ ⟨w0, I, ρ0, 0, 0, 25⟩ _ _ _
 refine Bk 0 8 A8 fun B => ?_
 refine Bw (ι := Int × Int) (fun ((x_1, n_1) : Int × Int) => mk [(0, .val (.int .u64 x_1)), (2, vk n_1)] [] 0) (fun ((x_1, n_1) : Int × Int) => Bj.j1 x_1 n_1 = some r) ?_ ?_
 refine Bk 8 24 B fun B => ?_
 refine C5 rfl G (fun h3 G => ?_) fun h3 G => ?_
 refine B8 24 48 B ?_
 refine A6 ?_
 obtain ⟨q, hq, G⟩ := Ac G
 refine Cr rfl rfl (Sn hq) rfl rfl ?_
 refine Bq fun B => ?_
 refine An (Cj _ _ []) 48 56 B rfl rfl ?_
 refine Bq fun B => ?_
 exact ⟨(q, 32), G, Bc []⟩
 refine Dd ?_
 exact ⟨(x', 0), G, Bc []⟩
 rintro ⟨x_1, n_1⟩ G
 replace G : Bj.j1 x_1 n_1 = some r := G
 show B4 _ _ _ _ (mk _ _ _)
 unfold Bj.j1 at G
 refine Bw (ι := Int × Int) (fun ((x_2, n_2) : Int × Int) => mk [(0, .val (.int .u64 x_2)), (2, vk n_2)] [] 0) (fun ((x_2, n_2) : Int × Int) => Bj.j2 x_2 n_2 = some r) ?_ ?_
 refine Bk 0 16 A8 fun B => ?_
 refine C5 rfl G (fun h7 G => ?_) fun h7 G => ?_
 refine B8 16 40 B ?_
 refine A6 ?_
 obtain ⟨q_2, hq_2, G⟩ := Ac G
 refine Cr rfl rfl (Sn hq_2) rfl rfl ?_
 refine Bq fun B => ?_
 refine An (Cj _ _ []) 40 64 B rfl rfl ?_
 refine Bq fun B => ?_
 exact ⟨(q_2, W (n_1 + 16)), G, Bc []⟩
 refine Dd ?_
 exact ⟨(x_1, n_1), G, Bc []⟩
 rintro ⟨x_2, n_2⟩ G
 replace G : Bj.j2 x_2 n_2 = some r := G
 show B4 _ _ _ _ (mk _ _ _)
 unfold Bj.j2 at G
 refine Bw (ι := Int × Int) (fun ((x_3, n_3) : Int × Int) => mk [(0, .val (.int .u64 x_3)), (2, vk n_3)] [] 0) (fun ((x_3, n_3) : Int × Int) => Bj.j3 x_3 n_3 = some r) ?_ ?_
 refine Bk 0 16 A8 fun B => ?_
 refine C5 rfl G (fun h11 G => ?_) fun h11 G => ?_
 refine B8 16 40 B ?_
 refine A6 ?_
 obtain ⟨q_3, hq_3, G⟩ := Ac G
 refine Cr rfl rfl (Sn hq_3) rfl rfl ?_
 refine Bq fun B => ?_
 refine An (Cj _ _ []) 40 64 B rfl rfl ?_
 refine Bq fun B => ?_
 exact ⟨(q_3, W (n_2 + 8)), G, Bc []⟩
 refine Dd ?_
 exact ⟨(x_2, n_2), G, Bc []⟩
 rintro ⟨x_3, n_3⟩ G
 replace G : Bj.j3 x_3 n_3 = some r := G
 show B4 _ _ _ _ (mk _ _ _)
 unfold Bj.j3 at G
 refine B8 0 56 A8 ?_
 refine A6 ?_
 refine Cr rfl rfl (K1 aAo Vz) rfl rfl ?_
 obtain ⟨c, hc, G⟩ := Ac G
 refine Cr rfl rfl (eW Vk hc) rfl rfl ?_
 refine Cr rfl rfl (lG (u := c) Vz V0) rfl rfl ?_
 exact C6
theorem P2 (x' : Int) (r : Int) (G : Gk x' = some r) : Fn Tryz.prog 141 0 [.val (.int .u64 x')] [] (fun d' b' => d' = vk r /\ b' = []) := by
 unfold Gk at G
 refine Fn.of Tryz.func141 rfl rfl rfl fun w0 I ρ0 => ?_
 show B4 _ ⟨w0, I, ρ0, 0, 0, 8⟩ _ _ _
 refine Bk 0 8 A8 fun B => ?_
 refine Ak <| jW (fun h => ?_) (fun h => ?_)
 exact absurd h (by first | decide | exact fun h => nomatch (show false = true from h) | exact fun h => nomatch (show true = false from h))
 refine Dd ?_
 refine B8 8 32 B ?_
 refine A6 ?_
 obtain ⟨y, hy, G⟩ := Ac G
 refine Dz (T6 _ _ hy) ?_
 exact C6
theorem O5 (c0 : Aa) (c1 : Aa) (r : (Aa × Aa)) (G : Ga c0 c1 = some r) : Fn Tryz.prog 145 0 [.val (.func (.func 148) #[] #[]), .elt (([.int .i64 c0.Source, .str c0.Host, .int .i64 c0.Machine, .int .i64 c0.Day, .int .i64 c0.Confidence, .int .i64 c0.Kind, .str c0.Subject, .int .i64 c0.Use.Alg, .int .i64 c0.Use.Bits, .int .i64 c0.Number, .str c0.Text] : List C).drop 0), .elt (([.int .i64 c1.Source, .str c1.Host, .int .i64 c1.Machine, .int .i64 c1.Day, .int .i64 c1.Confidence, .int .i64 c1.Kind, .str c1.Subject, .int .i64 c1.Use.Alg, .int .i64 c1.Use.Bits, .int .i64 c1.Number, .str c1.Text] : List C).drop 0)] [] (fun d' b' => d' = .clo 146 0 [.elt (([.raw (.func (.func 148) #[] #[])] : List C).drop 0), .elt (([.int .i64 r.1.Source, .str r.1.Host, .int .i64 r.1.Machine, .int .i64 r.1.Day, .int .i64 r.1.Confidence, .int .i64 r.1.Kind, .str r.1.Subject, .int .i64 r.1.Use.Alg, .int .i64 r.1.Use.Bits, .int .i64 r.1.Number, .str r.1.Text] : List C).drop 0), .elt (([.int .i64 r.2.Source, .str r.2.Host, .int .i64 r.2.Machine, .int .i64 r.2.Day, .int .i64 r.2.Confidence, .int .i64 r.2.Kind, .str r.2.Subject, .int .i64 r.2.Use.Alg, .int .i64 r.2.Use.Bits, .int .i64 r.2.Number, .str r.2.Text] : List C).drop 0)] /\ b' = []) := by
 unfold Ga at G
 refine Fn.of Tryz.func145 rfl rfl rfl fun w0 I ρ0 => ?_
 show B4 _ ⟨w0, I, ρ0, 0, 0, 6⟩ _ _ _
 refine Bk 0 16 A8 fun B => ?_
 refine Ak <| Ec (σ' := mk [(1, .elt (([.int .i64 c0.Source, .str c0.Host, .int .i64 c0.Machine, .int .i64 c0.Day, .int .i64 c0.Confidence, .int .i64 c0.Kind, .str c0.Subject, .int .i64 c0.Use.Alg, .int .i64 c0.Use.Bits, .int .i64 c0.Number, .str c0.Text] : List C).drop 0)), (2, .elt (([.int .i64 c1.Source, .str c1.Host, .int .i64 c1.Machine, .int .i64 c1.Day, .int .i64 c1.Confidence, .int .i64 c1.Kind, .str c1.Subject, .int .i64 c1.Use.Alg, .int .i64 c1.Use.Bits, .int .i64 c1.Number, .str c1.Text] : List C).drop 0)), (3, .elt (([.raw (.func (.func 148) #[] #[])] : List C).drop 0))] [] 0) ((by exact Ns.lists [] rfl rfl ⟨⟨_, rfl, .elt _⟩, ⟨_, rfl, .elt _⟩, ⟨_, rfl, .frzb (ks := [none]) rfl (.cons .func .nil) (Ei rfl)⟩, trivial⟩ trivial)) ?_
 refine An (Cj _ _ []) 0 16 A8 rfl rfl ?_
 exact C6
theorem N9 (c0 : Aa) (c1 : Aa) (r : (Aa × Aa)) (G : Gi c0 c1 = some r) : Fn Tryz.prog 142 0 [.val (.func (.func 149) #[] #[]), .elt (([.int .i64 c0.Source, .str c0.Host, .int .i64 c0.Machine, .int .i64 c0.Day, .int .i64 c0.Confidence, .int .i64 c0.Kind, .str c0.Subject, .int .i64 c0.Use.Alg, .int .i64 c0.Use.Bits, .int .i64 c0.Number, .str c0.Text] : List C).drop 0), .elt (([.int .i64 c1.Source, .str c1.Host, .int .i64 c1.Machine, .int .i64 c1.Day, .int .i64 c1.Confidence, .int .i64 c1.Kind, .str c1.Subject, .int .i64 c1.Use.Alg, .int .i64 c1.Use.Bits, .int .i64 c1.Number, .str c1.Text] : List C).drop 0)] [] (fun d' b' => d' = .clo 143 0 [.elt (([.raw (.func (.func 149) #[] #[])] : List C).drop 0), .elt (([.int .i64 r.1.Source, .str r.1.Host, .int .i64 r.1.Machine, .int .i64 r.1.Day, .int .i64 r.1.Confidence, .int .i64 r.1.Kind, .str r.1.Subject, .int .i64 r.1.Use.Alg, .int .i64 r.1.Use.Bits, .int .i64 r.1.Number, .str r.1.Text] : List C).drop 0), .elt (([.int .i64 r.2.Source, .str r.2.Host, .int .i64 r.2.Machine, .int .i64 r.2.Day, .int .i64 r.2.Confidence, .int .i64 r.2.Kind, .str r.2.Subject, .int .i64 r.2.Use.Alg, .int .i64 r.2.Use.Bits, .int .i64 r.2.Number, .str r.2.Text] : List C).drop 0)] /\ b' = []) := by
 unfold Gi at G
 refine Fn.of Tryz.func142 rfl rfl rfl fun w0 I ρ0 => ?_
 show B4 _ ⟨w0, I, ρ0, 0, 0, 6⟩ _ _ _
 refine Bk 0 16 A8 fun B => ?_
 refine Ak <| Ec (σ' := mk [(1, .elt (([.int .i64 c0.Source, .str c0.Host, .int .i64 c0.Machine, .int .i64 c0.Day, .int .i64 c0.Confidence, .int .i64 c0.Kind, .str c0.Subject, .int .i64 c0.Use.Alg, .int .i64 c0.Use.Bits, .int .i64 c0.Number, .str c0.Text] : List C).drop 0)), (2, .elt (([.int .i64 c1.Source, .str c1.Host, .int .i64 c1.Machine, .int .i64 c1.Day, .int .i64 c1.Confidence, .int .i64 c1.Kind, .str c1.Subject, .int .i64 c1.Use.Alg, .int .i64 c1.Use.Bits, .int .i64 c1.Number, .str c1.Text] : List C).drop 0)), (3, .elt (([.raw (.func (.func 149) #[] #[])] : List C).drop 0))] [] 0) ((by exact Ns.lists [] rfl rfl ⟨⟨_, rfl, .elt _⟩, ⟨_, rfl, .elt _⟩, ⟨_, rfl, .frzb (ks := [none]) rfl (.cons .func .nil) (Ei rfl)⟩, trivial⟩ trivial)) ?_
 refine An (Cj _ _ []) 0 16 A8 rfl rfl ?_
 exact C6
theorem O1 (c0 : Aa) (c1 : Aa) (r : (Aa × Aa)) (G : Gc c0 c1 = some r) : Fn Tryz.prog 142 0 [.val (.func (.func 150) #[] #[]), .elt (([.int .i64 c0.Source, .str c0.Host, .int .i64 c0.Machine, .int .i64 c0.Day, .int .i64 c0.Confidence, .int .i64 c0.Kind, .str c0.Subject, .int .i64 c0.Use.Alg, .int .i64 c0.Use.Bits, .int .i64 c0.Number, .str c0.Text] : List C).drop 0), .elt (([.int .i64 c1.Source, .str c1.Host, .int .i64 c1.Machine, .int .i64 c1.Day, .int .i64 c1.Confidence, .int .i64 c1.Kind, .str c1.Subject, .int .i64 c1.Use.Alg, .int .i64 c1.Use.Bits, .int .i64 c1.Number, .str c1.Text] : List C).drop 0)] [] (fun d' b' => d' = .clo 143 0 [.elt (([.raw (.func (.func 150) #[] #[])] : List C).drop 0), .elt (([.int .i64 r.1.Source, .str r.1.Host, .int .i64 r.1.Machine, .int .i64 r.1.Day, .int .i64 r.1.Confidence, .int .i64 r.1.Kind, .str r.1.Subject, .int .i64 r.1.Use.Alg, .int .i64 r.1.Use.Bits, .int .i64 r.1.Number, .str r.1.Text] : List C).drop 0), .elt (([.int .i64 r.2.Source, .str r.2.Host, .int .i64 r.2.Machine, .int .i64 r.2.Day, .int .i64 r.2.Confidence, .int .i64 r.2.Kind, .str r.2.Subject, .int .i64 r.2.Use.Alg, .int .i64 r.2.Use.Bits, .int .i64 r.2.Number, .str r.2.Text] : List C).drop 0)] /\ b' = []) := by
 unfold Gc at G
 refine Fn.of Tryz.func142 rfl rfl rfl fun w0 I ρ0 => ?_
 show B4 _ ⟨w0, I, ρ0, 0, 0, 6⟩ _ _ _
 refine Bk 0 16 A8 fun B => ?_
 refine Ak <| Ec (σ' := mk [(1, .elt (([.int .i64 c0.Source, .str c0.Host, .int .i64 c0.Machine, .int .i64 c0.Day, .int .i64 c0.Confidence, .int .i64 c0.Kind, .str c0.Subject, .int .i64 c0.Use.Alg, .int .i64 c0.Use.Bits, .int .i64 c0.Number, .str c0.Text] : List C).drop 0)), (2, .elt (([.int .i64 c1.Source, .str c1.Host, .int .i64 c1.Machine, .int .i64 c1.Day, .int .i64 c1.Confidence, .int .i64 c1.Kind, .str c1.Subject, .int .i64 c1.Use.Alg, .int .i64 c1.Use.Bits, .int .i64 c1.Number, .str c1.Text] : List C).drop 0)), (3, .elt (([.raw (.func (.func 150) #[] #[])] : List C).drop 0))] [] 0) ((by exact Ns.lists [] rfl rfl ⟨⟨_, rfl, .elt _⟩, ⟨_, rfl, .elt _⟩, ⟨_, rfl, .frzb (ks := [none]) rfl (.cons .func .nil) (Ei rfl)⟩, trivial⟩ trivial)) ?_
 refine An (Cj _ _ []) 0 16 A8 rfl rfl ?_
 exact C6
theorem Od (c0 : Aa) (c1 : Aa) (r : (Aa × Aa)) (G : Ge c0 c1 = some r) : Fn Tryz.prog 145 0 [.val (.func (.func 151) #[] #[]), .elt (([.int .i64 c0.Source, .str c0.Host, .int .i64 c0.Machine, .int .i64 c0.Day, .int .i64 c0.Confidence, .int .i64 c0.Kind, .str c0.Subject, .int .i64 c0.Use.Alg, .int .i64 c0.Use.Bits, .int .i64 c0.Number, .str c0.Text] : List C).drop 0), .elt (([.int .i64 c1.Source, .str c1.Host, .int .i64 c1.Machine, .int .i64 c1.Day, .int .i64 c1.Confidence, .int .i64 c1.Kind, .str c1.Subject, .int .i64 c1.Use.Alg, .int .i64 c1.Use.Bits, .int .i64 c1.Number, .str c1.Text] : List C).drop 0)] [] (fun d' b' => d' = .clo 146 0 [.elt (([.raw (.func (.func 151) #[] #[])] : List C).drop 0), .elt (([.int .i64 r.1.Source, .str r.1.Host, .int .i64 r.1.Machine, .int .i64 r.1.Day, .int .i64 r.1.Confidence, .int .i64 r.1.Kind, .str r.1.Subject, .int .i64 r.1.Use.Alg, .int .i64 r.1.Use.Bits, .int .i64 r.1.Number, .str r.1.Text] : List C).drop 0), .elt (([.int .i64 r.2.Source, .str r.2.Host, .int .i64 r.2.Machine, .int .i64 r.2.Day, .int .i64 r.2.Confidence, .int .i64 r.2.Kind, .str r.2.Subject, .int .i64 r.2.Use.Alg, .int .i64 r.2.Use.Bits, .int .i64 r.2.Number, .str r.2.Text] : List C).drop 0)] /\ b' = []) := by
 unfold Ge at G
 refine Fn.of Tryz.func145 rfl rfl rfl fun w0 I ρ0 => ?_
 show B4 _ ⟨w0, I, ρ0, 0, 0, 6⟩ _ _ _
 refine Bk 0 16 A8 fun B => ?_
 refine Ak <| Ec (σ' := mk [(1, .elt (([.int .i64 c0.Source, .str c0.Host, .int .i64 c0.Machine, .int .i64 c0.Day, .int .i64 c0.Confidence, .int .i64 c0.Kind, .str c0.Subject, .int .i64 c0.Use.Alg, .int .i64 c0.Use.Bits, .int .i64 c0.Number, .str c0.Text] : List C).drop 0)), (2, .elt (([.int .i64 c1.Source, .str c1.Host, .int .i64 c1.Machine, .int .i64 c1.Day, .int .i64 c1.Confidence, .int .i64 c1.Kind, .str c1.Subject, .int .i64 c1.Use.Alg, .int .i64 c1.Use.Bits, .int .i64 c1.Number, .str c1.Text] : List C).drop 0)), (3, .elt (([.raw (.func (.func 151) #[] #[])] : List C).drop 0))] [] 0) ((by exact Ns.lists [] rfl rfl ⟨⟨_, rfl, .elt _⟩, ⟨_, rfl, .elt _⟩, ⟨_, rfl, .frzb (ks := [none]) rfl (.cons .func .nil) (Ei rfl)⟩, trivial⟩ trivial)) ?_
 refine An (Cj _ _ []) 0 16 A8 rfl rfl ?_
 exact C6
theorem Ol (c0 : Aa) (c1 : Aa) (r : (Aa × Aa)) (G : Gd c0 c1 = some r) : Fn Tryz.prog 142 0 [.val (.func (.func 152) #[] #[]), .elt (([.int .i64 c0.Source, .str c0.Host, .int .i64 c0.Machine, .int .i64 c0.Day, .int .i64 c0.Confidence, .int .i64 c0.Kind, .str c0.Subject, .int .i64 c0.Use.Alg, .int .i64 c0.Use.Bits, .int .i64 c0.Number, .str c0.Text] : List C).drop 0), .elt (([.int .i64 c1.Source, .str c1.Host, .int .i64 c1.Machine, .int .i64 c1.Day, .int .i64 c1.Confidence, .int .i64 c1.Kind, .str c1.Subject, .int .i64 c1.Use.Alg, .int .i64 c1.Use.Bits, .int .i64 c1.Number, .str c1.Text] : List C).drop 0)] [] (fun d' b' => d' = .clo 143 0 [.elt (([.raw (.func (.func 152) #[] #[])] : List C).drop 0), .elt (([.int .i64 r.1.Source, .str r.1.Host, .int .i64 r.1.Machine, .int .i64 r.1.Day, .int .i64 r.1.Confidence, .int .i64 r.1.Kind, .str r.1.Subject, .int .i64 r.1.Use.Alg, .int .i64 r.1.Use.Bits, .int .i64 r.1.Number, .str r.1.Text] : List C).drop 0), .elt (([.int .i64 r.2.Source, .str r.2.Host, .int .i64 r.2.Machine, .int .i64 r.2.Day, .int .i64 r.2.Confidence, .int .i64 r.2.Kind, .str r.2.Subject, .int .i64 r.2.Use.Alg, .int .i64 r.2.Use.Bits, .int .i64 r.2.Number, .str r.2.Text] : List C).drop 0)] /\ b' = []) := by
 unfold Gd at G
 refine Fn.of Tryz.func142 rfl rfl rfl fun w0 I ρ0 => ?_
 show B4 _ ⟨w0, I, ρ0, 0, 0, 6⟩ _ _ _
 refine Bk 0 16 A8 fun B => ?_
 refine Ak <| Ec (σ' := mk [(1, .elt (([.int .i64 c0.Source, .str c0.Host, .int .i64 c0.Machine, .int .i64 c0.Day, .int .i64 c0.Confidence, .int .i64 c0.Kind, .str c0.Subject, .int .i64 c0.Use.Alg, .int .i64 c0.Use.Bits, .int .i64 c0.Number, .str c0.Text] : List C).drop 0)), (2, .elt (([.int .i64 c1.Source, .str c1.Host, .int .i64 c1.Machine, .int .i64 c1.Day, .int .i64 c1.Confidence, .int .i64 c1.Kind, .str c1.Subject, .int .i64 c1.Use.Alg, .int .i64 c1.Use.Bits, .int .i64 c1.Number, .str c1.Text] : List C).drop 0)), (3, .elt (([.raw (.func (.func 152) #[] #[])] : List C).drop 0))] [] 0) ((by exact Ns.lists [] rfl rfl ⟨⟨_, rfl, .elt _⟩, ⟨_, rfl, .elt _⟩, ⟨_, rfl, .frzb (ks := [none]) rfl (.cons .func .nil) (Ei rfl)⟩, trivial⟩ trivial)) ?_
 refine An (Cj _ _ []) 0 16 A8 rfl rfl ?_
 exact C6
theorem O7 (c0 : Aa) (c1 : Aa) (r : (Aa × Aa)) (G : Gj c0 c1 = some r) : Fn Tryz.prog 142 0 [.val (.func (.func 153) #[] #[]), .elt (([.int .i64 c0.Source, .str c0.Host, .int .i64 c0.Machine, .int .i64 c0.Day, .int .i64 c0.Confidence, .int .i64 c0.Kind, .str c0.Subject, .int .i64 c0.Use.Alg, .int .i64 c0.Use.Bits, .int .i64 c0.Number, .str c0.Text] : List C).drop 0), .elt (([.int .i64 c1.Source, .str c1.Host, .int .i64 c1.Machine, .int .i64 c1.Day, .int .i64 c1.Confidence, .int .i64 c1.Kind, .str c1.Subject, .int .i64 c1.Use.Alg, .int .i64 c1.Use.Bits, .int .i64 c1.Number, .str c1.Text] : List C).drop 0)] [] (fun d' b' => d' = .clo 143 0 [.elt (([.raw (.func (.func 153) #[] #[])] : List C).drop 0), .elt (([.int .i64 r.1.Source, .str r.1.Host, .int .i64 r.1.Machine, .int .i64 r.1.Day, .int .i64 r.1.Confidence, .int .i64 r.1.Kind, .str r.1.Subject, .int .i64 r.1.Use.Alg, .int .i64 r.1.Use.Bits, .int .i64 r.1.Number, .str r.1.Text] : List C).drop 0), .elt (([.int .i64 r.2.Source, .str r.2.Host, .int .i64 r.2.Machine, .int .i64 r.2.Day, .int .i64 r.2.Confidence, .int .i64 r.2.Kind, .str r.2.Subject, .int .i64 r.2.Use.Alg, .int .i64 r.2.Use.Bits, .int .i64 r.2.Number, .str r.2.Text] : List C).drop 0)] /\ b' = []) := by
 unfold Gj at G
 refine Fn.of Tryz.func142 rfl rfl rfl fun w0 I ρ0 => ?_
 show B4 _ ⟨w0, I, ρ0, 0, 0, 6⟩ _ _ _
 refine Bk 0 16 A8 fun B => ?_
 refine Ak <| Ec (σ' := mk [(1, .elt (([.int .i64 c0.Source, .str c0.Host, .int .i64 c0.Machine, .int .i64 c0.Day, .int .i64 c0.Confidence, .int .i64 c0.Kind, .str c0.Subject, .int .i64 c0.Use.Alg, .int .i64 c0.Use.Bits, .int .i64 c0.Number, .str c0.Text] : List C).drop 0)), (2, .elt (([.int .i64 c1.Source, .str c1.Host, .int .i64 c1.Machine, .int .i64 c1.Day, .int .i64 c1.Confidence, .int .i64 c1.Kind, .str c1.Subject, .int .i64 c1.Use.Alg, .int .i64 c1.Use.Bits, .int .i64 c1.Number, .str c1.Text] : List C).drop 0)), (3, .elt (([.raw (.func (.func 153) #[] #[])] : List C).drop 0))] [] 0) ((by exact Ns.lists [] rfl rfl ⟨⟨_, rfl, .elt _⟩, ⟨_, rfl, .elt _⟩, ⟨_, rfl, .frzb (ks := [none]) rfl (.cons .func .nil) (Ei rfl)⟩, trivial⟩ trivial)) ?_
 refine An (Cj _ _ []) 0 16 A8 rfl rfl ?_
 exact C6
theorem Ob (c0 : Aa) (c1 : Aa) (r : (Aa × Aa)) (G : Gf c0 c1 = some r) : Fn Tryz.prog 142 0 [.val (.func (.func 154) #[] #[]), .elt (([.int .i64 c0.Source, .str c0.Host, .int .i64 c0.Machine, .int .i64 c0.Day, .int .i64 c0.Confidence, .int .i64 c0.Kind, .str c0.Subject, .int .i64 c0.Use.Alg, .int .i64 c0.Use.Bits, .int .i64 c0.Number, .str c0.Text] : List C).drop 0), .elt (([.int .i64 c1.Source, .str c1.Host, .int .i64 c1.Machine, .int .i64 c1.Day, .int .i64 c1.Confidence, .int .i64 c1.Kind, .str c1.Subject, .int .i64 c1.Use.Alg, .int .i64 c1.Use.Bits, .int .i64 c1.Number, .str c1.Text] : List C).drop 0)] [] (fun d' b' => d' = .clo 143 0 [.elt (([.raw (.func (.func 154) #[] #[])] : List C).drop 0), .elt (([.int .i64 r.1.Source, .str r.1.Host, .int .i64 r.1.Machine, .int .i64 r.1.Day, .int .i64 r.1.Confidence, .int .i64 r.1.Kind, .str r.1.Subject, .int .i64 r.1.Use.Alg, .int .i64 r.1.Use.Bits, .int .i64 r.1.Number, .str r.1.Text] : List C).drop 0), .elt (([.int .i64 r.2.Source, .str r.2.Host, .int .i64 r.2.Machine, .int .i64 r.2.Day, .int .i64 r.2.Confidence, .int .i64 r.2.Kind, .str r.2.Subject, .int .i64 r.2.Use.Alg, .int .i64 r.2.Use.Bits, .int .i64 r.2.Number, .str r.2.Text] : List C).drop 0)] /\ b' = []) := by
 unfold Gf at G
 refine Fn.of Tryz.func142 rfl rfl rfl fun w0 I ρ0 => ?_
 show B4 _ ⟨w0, I, ρ0, 0, 0, 6⟩ _ _ _
 refine Bk 0 16 A8 fun B => ?_
 refine Ak <| Ec (σ' := mk [(1, .elt (([.int .i64 c0.Source, .str c0.Host, .int .i64 c0.Machine, .int .i64 c0.Day, .int .i64 c0.Confidence, .int .i64 c0.Kind, .str c0.Subject, .int .i64 c0.Use.Alg, .int .i64 c0.Use.Bits, .int .i64 c0.Number, .str c0.Text] : List C).drop 0)), (2, .elt (([.int .i64 c1.Source, .str c1.Host, .int .i64 c1.Machine, .int .i64 c1.Day, .int .i64 c1.Confidence, .int .i64 c1.Kind, .str c1.Subject, .int .i64 c1.Use.Alg, .int .i64 c1.Use.Bits, .int .i64 c1.Number, .str c1.Text] : List C).drop 0)), (3, .elt (([.raw (.func (.func 154) #[] #[])] : List C).drop 0))] [] 0) ((by exact Ns.lists [] rfl rfl ⟨⟨_, rfl, .elt _⟩, ⟨_, rfl, .elt _⟩, ⟨_, rfl, .frzb (ks := [none]) rfl (.cons .func .nil) (Ei rfl)⟩, trivial⟩ trivial)) ?_
 refine An (Cj _ _ []) 0 16 A8 rfl rfl ?_
 exact C6
theorem Oz (c0 : Aa) (c1 : Aa) (r : (Aa × Aa)) (G : Gb c0 c1 = some r) : Fn Tryz.prog 142 0 [.val (.func (.func 155) #[] #[]), .elt (([.int .i64 c0.Source, .str c0.Host, .int .i64 c0.Machine, .int .i64 c0.Day, .int .i64 c0.Confidence, .int .i64 c0.Kind, .str c0.Subject, .int .i64 c0.Use.Alg, .int .i64 c0.Use.Bits, .int .i64 c0.Number, .str c0.Text] : List C).drop 0), .elt (([.int .i64 c1.Source, .str c1.Host, .int .i64 c1.Machine, .int .i64 c1.Day, .int .i64 c1.Confidence, .int .i64 c1.Kind, .str c1.Subject, .int .i64 c1.Use.Alg, .int .i64 c1.Use.Bits, .int .i64 c1.Number, .str c1.Text] : List C).drop 0)] [] (fun d' b' => d' = .clo 143 0 [.elt (([.raw (.func (.func 155) #[] #[])] : List C).drop 0), .elt (([.int .i64 r.1.Source, .str r.1.Host, .int .i64 r.1.Machine, .int .i64 r.1.Day, .int .i64 r.1.Confidence, .int .i64 r.1.Kind, .str r.1.Subject, .int .i64 r.1.Use.Alg, .int .i64 r.1.Use.Bits, .int .i64 r.1.Number, .str r.1.Text] : List C).drop 0), .elt (([.int .i64 r.2.Source, .str r.2.Host, .int .i64 r.2.Machine, .int .i64 r.2.Day, .int .i64 r.2.Confidence, .int .i64 r.2.Kind, .str r.2.Subject, .int .i64 r.2.Use.Alg, .int .i64 r.2.Use.Bits, .int .i64 r.2.Number, .str r.2.Text] : List C).drop 0)] /\ b' = []) := by
 unfold Gb at G
 refine Fn.of Tryz.func142 rfl rfl rfl fun w0 I ρ0 => ?_
 show B4 _ ⟨w0, I, ρ0, 0, 0, 6⟩ _ _ _
 refine Bk 0 16 A8 fun B => ?_
 refine Ak <| Ec (σ' := mk [(1, .elt (([.int .i64 c0.Source, .str c0.Host, .int .i64 c0.Machine, .int .i64 c0.Day, .int .i64 c0.Confidence, .int .i64 c0.Kind, .str c0.Subject, .int .i64 c0.Use.Alg, .int .i64 c0.Use.Bits, .int .i64 c0.Number, .str c0.Text] : List C).drop 0)), (2, .elt (([.int .i64 c1.Source, .str c1.Host, .int .i64 c1.Machine, .int .i64 c1.Day, .int .i64 c1.Confidence, .int .i64 c1.Kind, .str c1.Subject, .int .i64 c1.Use.Alg, .int .i64 c1.Use.Bits, .int .i64 c1.Number, .str c1.Text] : List C).drop 0)), (3, .elt (([.raw (.func (.func 155) #[] #[])] : List C).drop 0))] [] 0) ((by exact Ns.lists [] rfl rfl ⟨⟨_, rfl, .elt _⟩, ⟨_, rfl, .elt _⟩, ⟨_, rfl, .frzb (ks := [none]) rfl (.cons .func .nil) (Ei rfl)⟩, trivial⟩ trivial)) ?_
 refine An (Cj _ _ []) 0 16 A8 rfl rfl ?_
 exact C6
theorem Of (c0 : Aa) (c1 : Aa) (r : (Aa × Aa)) (G : Gg c0 c1 = some r) : Fn Tryz.prog 145 0 [.val (.func (.func 156) #[] #[]), .elt (([.int .i64 c0.Source, .str c0.Host, .int .i64 c0.Machine, .int .i64 c0.Day, .int .i64 c0.Confidence, .int .i64 c0.Kind, .str c0.Subject, .int .i64 c0.Use.Alg, .int .i64 c0.Use.Bits, .int .i64 c0.Number, .str c0.Text] : List C).drop 0), .elt (([.int .i64 c1.Source, .str c1.Host, .int .i64 c1.Machine, .int .i64 c1.Day, .int .i64 c1.Confidence, .int .i64 c1.Kind, .str c1.Subject, .int .i64 c1.Use.Alg, .int .i64 c1.Use.Bits, .int .i64 c1.Number, .str c1.Text] : List C).drop 0)] [] (fun d' b' => d' = .clo 146 0 [.elt (([.raw (.func (.func 156) #[] #[])] : List C).drop 0), .elt (([.int .i64 r.1.Source, .str r.1.Host, .int .i64 r.1.Machine, .int .i64 r.1.Day, .int .i64 r.1.Confidence, .int .i64 r.1.Kind, .str r.1.Subject, .int .i64 r.1.Use.Alg, .int .i64 r.1.Use.Bits, .int .i64 r.1.Number, .str r.1.Text] : List C).drop 0), .elt (([.int .i64 r.2.Source, .str r.2.Host, .int .i64 r.2.Machine, .int .i64 r.2.Day, .int .i64 r.2.Confidence, .int .i64 r.2.Kind, .str r.2.Subject, .int .i64 r.2.Use.Alg, .int .i64 r.2.Use.Bits, .int .i64 r.2.Number, .str r.2.Text] : List C).drop 0)] /\ b' = []) := by
 unfold Gg at G
 refine Fn.of Tryz.func145 rfl rfl rfl fun w0 I ρ0 => ?_
 show B4 _ ⟨w0, I, ρ0, 0, 0, 6⟩ _ _ _
 refine Bk 0 16 A8 fun B => ?_
 refine Ak <| Ec (σ' := mk [(1, .elt (([.int .i64 c0.Source, .str c0.Host, .int .i64 c0.Machine, .int .i64 c0.Day, .int .i64 c0.Confidence, .int .i64 c0.Kind, .str c0.Subject, .int .i64 c0.Use.Alg, .int .i64 c0.Use.Bits, .int .i64 c0.Number, .str c0.Text] : List C).drop 0)), (2, .elt (([.int .i64 c1.Source, .str c1.Host, .int .i64 c1.Machine, .int .i64 c1.Day, .int .i64 c1.Confidence, .int .i64 c1.Kind, .str c1.Subject, .int .i64 c1.Use.Alg, .int .i64 c1.Use.Bits, .int .i64 c1.Number, .str c1.Text] : List C).drop 0)), (3, .elt (([.raw (.func (.func 156) #[] #[])] : List C).drop 0))] [] 0) ((by exact Ns.lists [] rfl rfl ⟨⟨_, rfl, .elt _⟩, ⟨_, rfl, .elt _⟩, ⟨_, rfl, .frzb (ks := [none]) rfl (.cons .func .nil) (Ei rfl)⟩, trivial⟩ trivial)) ?_
 refine An (Cj _ _ []) 0 16 A8 rfl rfl ?_
 exact C6
theorem O4 (c0 : Aa) (c1 : Aa) (r : (Aa × Aa)) (G : F8 c0 c1 = some r) : Fn Tryz.prog 142 0 [.val (.func (.func 157) #[] #[]), .elt (([.int .i64 c0.Source, .str c0.Host, .int .i64 c0.Machine, .int .i64 c0.Day, .int .i64 c0.Confidence, .int .i64 c0.Kind, .str c0.Subject, .int .i64 c0.Use.Alg, .int .i64 c0.Use.Bits, .int .i64 c0.Number, .str c0.Text] : List C).drop 0), .elt (([.int .i64 c1.Source, .str c1.Host, .int .i64 c1.Machine, .int .i64 c1.Day, .int .i64 c1.Confidence, .int .i64 c1.Kind, .str c1.Subject, .int .i64 c1.Use.Alg, .int .i64 c1.Use.Bits, .int .i64 c1.Number, .str c1.Text] : List C).drop 0)] [] (fun d' b' => d' = .clo 143 0 [.elt (([.raw (.func (.func 157) #[] #[])] : List C).drop 0), .elt (([.int .i64 r.1.Source, .str r.1.Host, .int .i64 r.1.Machine, .int .i64 r.1.Day, .int .i64 r.1.Confidence, .int .i64 r.1.Kind, .str r.1.Subject, .int .i64 r.1.Use.Alg, .int .i64 r.1.Use.Bits, .int .i64 r.1.Number, .str r.1.Text] : List C).drop 0), .elt (([.int .i64 r.2.Source, .str r.2.Host, .int .i64 r.2.Machine, .int .i64 r.2.Day, .int .i64 r.2.Confidence, .int .i64 r.2.Kind, .str r.2.Subject, .int .i64 r.2.Use.Alg, .int .i64 r.2.Use.Bits, .int .i64 r.2.Number, .str r.2.Text] : List C).drop 0)] /\ b' = []) := by
 unfold F8 at G
 refine Fn.of Tryz.func142 rfl rfl rfl fun w0 I ρ0 => ?_
 show B4 _ ⟨w0, I, ρ0, 0, 0, 6⟩ _ _ _
 refine Bk 0 16 A8 fun B => ?_
 refine Ak <| Ec (σ' := mk [(1, .elt (([.int .i64 c0.Source, .str c0.Host, .int .i64 c0.Machine, .int .i64 c0.Day, .int .i64 c0.Confidence, .int .i64 c0.Kind, .str c0.Subject, .int .i64 c0.Use.Alg, .int .i64 c0.Use.Bits, .int .i64 c0.Number, .str c0.Text] : List C).drop 0)), (2, .elt (([.int .i64 c1.Source, .str c1.Host, .int .i64 c1.Machine, .int .i64 c1.Day, .int .i64 c1.Confidence, .int .i64 c1.Kind, .str c1.Subject, .int .i64 c1.Use.Alg, .int .i64 c1.Use.Bits, .int .i64 c1.Number, .str c1.Text] : List C).drop 0)), (3, .elt (([.raw (.func (.func 157) #[] #[])] : List C).drop 0))] [] 0) ((by exact Ns.lists [] rfl rfl ⟨⟨_, rfl, .elt _⟩, ⟨_, rfl, .elt _⟩, ⟨_, rfl, .frzb (ks := [none]) rfl (.cons .func .nil) (Ei rfl)⟩, trivial⟩ trivial)) ?_
 refine An (Cj _ _ []) 0 16 A8 rfl rfl ?_
 exact C6
theorem O6 (c0 : Aa) (c1 : Aa) (r : (Aa × Aa)) (G : Gh c0 c1 = some r) : Fn Tryz.prog 142 0 [.val (.func (.func 158) #[] #[]), .elt (([.int .i64 c0.Source, .str c0.Host, .int .i64 c0.Machine, .int .i64 c0.Day, .int .i64 c0.Confidence, .int .i64 c0.Kind, .str c0.Subject, .int .i64 c0.Use.Alg, .int .i64 c0.Use.Bits, .int .i64 c0.Number, .str c0.Text] : List C).drop 0), .elt (([.int .i64 c1.Source, .str c1.Host, .int .i64 c1.Machine, .int .i64 c1.Day, .int .i64 c1.Confidence, .int .i64 c1.Kind, .str c1.Subject, .int .i64 c1.Use.Alg, .int .i64 c1.Use.Bits, .int .i64 c1.Number, .str c1.Text] : List C).drop 0)] [] (fun d' b' => d' = .clo 143 0 [.elt (([.raw (.func (.func 158) #[] #[])] : List C).drop 0), .elt (([.int .i64 r.1.Source, .str r.1.Host, .int .i64 r.1.Machine, .int .i64 r.1.Day, .int .i64 r.1.Confidence, .int .i64 r.1.Kind, .str r.1.Subject, .int .i64 r.1.Use.Alg, .int .i64 r.1.Use.Bits, .int .i64 r.1.Number, .str r.1.Text] : List C).drop 0), .elt (([.int .i64 r.2.Source, .str r.2.Host, .int .i64 r.2.Machine, .int .i64 r.2.Day, .int .i64 r.2.Confidence, .int .i64 r.2.Kind, .str r.2.Subject, .int .i64 r.2.Use.Alg, .int .i64 r.2.Use.Bits, .int .i64 r.2.Number, .str r.2.Text] : List C).drop 0)] /\ b' = []) := by
 unfold Gh at G
 refine Fn.of Tryz.func142 rfl rfl rfl fun w0 I ρ0 => ?_
 show B4 _ ⟨w0, I, ρ0, 0, 0, 6⟩ _ _ _
 refine Bk 0 16 A8 fun B => ?_
 refine Ak <| Ec (σ' := mk [(1, .elt (([.int .i64 c0.Source, .str c0.Host, .int .i64 c0.Machine, .int .i64 c0.Day, .int .i64 c0.Confidence, .int .i64 c0.Kind, .str c0.Subject, .int .i64 c0.Use.Alg, .int .i64 c0.Use.Bits, .int .i64 c0.Number, .str c0.Text] : List C).drop 0)), (2, .elt (([.int .i64 c1.Source, .str c1.Host, .int .i64 c1.Machine, .int .i64 c1.Day, .int .i64 c1.Confidence, .int .i64 c1.Kind, .str c1.Subject, .int .i64 c1.Use.Alg, .int .i64 c1.Use.Bits, .int .i64 c1.Number, .str c1.Text] : List C).drop 0)), (3, .elt (([.raw (.func (.func 158) #[] #[])] : List C).drop 0))] [] 0) ((by exact Ns.lists [] rfl rfl ⟨⟨_, rfl, .elt _⟩, ⟨_, rfl, .elt _⟩, ⟨_, rfl, .frzb (ks := [none]) rfl (.cons .func .nil) (Ei rfl)⟩, trivial⟩ trivial)) ?_
 refine An (Cj _ _ []) 0 16 A8 rfl rfl ?_
 exact C6
theorem Mj (f : Aa) (r : ByteArray) (G : Hk f = some r) : Fn Tryz.prog 148 0 [.agg (Aa.dv f)] [] (fun d' b' => d' = ws r /\ b' = []) := by
 unfold Hk at G
 refine Fn.of Tryz.func148 rfl rfl rfl fun w0 I ρ0 => ?_
 show B4 _ ⟨w0, I, ρ0, 0, 0, 5⟩ _ _ _
 refine Bk 0 16 A8 fun B => ?_
 refine Bk 16 40 B fun B => ?_
 exact Lz
theorem Kf (a : ByteArray) (b : ByteArray) (r : Int) (G : Ea a b = some r) : Fn Tryz.prog 192 0 [ws a, ws b] [] (fun d' b' => d' = vk r /\ b' = []) := by
 unfold Ea at G
 refine Fn.of Tryz.func192 rfl rfl rfl fun w0 I ρ0 => ?_
 show B4 _ ⟨w0, I, ρ0, 0, 0, 8⟩ _ _ _
 refine Bk 0 8 A8 fun B => ?_
 refine B8 8 40 B ?_
 refine A6 ?_
 refine J0 (rd := []) rfl rfl (.extV rfl sA (aD4 a b)) rfl rfl (fun _ => ⟨_, rfl⟩) ?_
 rintro _ rfl
 exact C6
theorem Ki (a : ByteArray) (b : ByteArray) (r : Int) (G : E7 a b = some r) : Fn Tryz.prog 147 0 [ws a, ws b] [] (fun d' b' => d' = vk r /\ b' = []) := by
 unfold E7 at G
 refine Fn.of Tryz.func147 rfl rfl rfl fun w0 I ρ0 => ?_
 show B4 _ ⟨w0, I, ρ0, 0, 0, 8⟩ _ _ _
 refine Bk 0 8 A8 fun B => ?_
 refine B8 8 40 B ?_
 refine A6 ?_
 obtain ⟨y, hy, G⟩ := Ac G
 refine Dz (Kf _ _ _ hy) ?_
 exact C6
theorem M9 (c1 : Aa) (c2 : Aa) (r : Int) (G : Fc c1 c2 = some r) : Fn Tryz.prog 146 0 [.elt (([.raw (.func (.func 148) #[] #[])] : List C).drop 0), .elt (([.int .i64 c1.Source, .str c1.Host, .int .i64 c1.Machine, .int .i64 c1.Day, .int .i64 c1.Confidence, .int .i64 c1.Kind, .str c1.Subject, .int .i64 c1.Use.Alg, .int .i64 c1.Use.Bits, .int .i64 c1.Number, .str c1.Text] : List C).drop 0), .elt (([.int .i64 c2.Source, .str c2.Host, .int .i64 c2.Machine, .int .i64 c2.Day, .int .i64 c2.Confidence, .int .i64 c2.Kind, .str c2.Subject, .int .i64 c2.Use.Alg, .int .i64 c2.Use.Bits, .int .i64 c2.Number, .str c2.Text] : List C).drop 0)] [] (fun d' b' => d' = vk r /\ b' = []) := by
 unfold Fc at G
 refine Fn.of Tryz.func146 rfl rfl rfl fun w0 I ρ0 => ?_
 show B4 _ ⟨w0, I, ρ0, 0, 0, 11⟩ _ _ _
 refine Bk 0 8 A8 fun B => ?_
 refine Ak <| Bv (Cj _ _ []) (by kernel_rfl) [0, 0, 3, 0, 0, 31, 63, 127] 8 72 B rfl rfl (by kernel_rfl) ?_
 refine Cr rfl rfl (Dn Xl (c := .raw (.func (.func 148) #[] #[])) rfl) rfl rfl ?_
 refine Cr rfl rfl (Dm Le (cs2 := [.int .i64 c1.Source, .str c1.Host, .int .i64 c1.Machine, .int .i64 c1.Day, .int .i64 c1.Confidence, .int .i64 c1.Kind, .str c1.Subject, .int .i64 c1.Use.Alg, .int .i64 c1.Use.Bits, .int .i64 c1.Number, .str c1.Text]) rfl (Nat.le_of_ble_eq_true rfl)) rfl rfl ?_
 obtain ⟨y, hy, G⟩ := Ac G
 refine Dj (rd := []) (ps := []) (gs := []) false rfl rfl (Mj _ _ hy) rfl rfl (.cons (.agg (.cons .val (.cons .val (.cons .val (.cons .val (.cons .val (.cons .val (.cons .val (.cons .val (.cons .val (.cons .val (.cons .val .nil)))))))))))) .nil) rfl rfl (by intro h; cases h) rfl rfl rfl rfl ?_
 refine Cr rfl rfl (Dn Xl (c := .raw (.func (.func 148) #[] #[])) rfl) rfl rfl ?_
 refine Cr rfl rfl (Dm Le (cs2 := [.int .i64 c2.Source, .str c2.Host, .int .i64 c2.Machine, .int .i64 c2.Day, .int .i64 c2.Confidence, .int .i64 c2.Kind, .str c2.Subject, .int .i64 c2.Use.Alg, .int .i64 c2.Use.Bits, .int .i64 c2.Number, .str c2.Text]) rfl (Nat.le_of_ble_eq_true rfl)) rfl rfl ?_
 obtain ⟨y_2, hy_2, G⟩ := Ac G
 refine Dj (rd := []) (ps := []) (gs := []) false rfl rfl (Mj _ _ hy_2) rfl rfl (.cons (.agg (.cons .val (.cons .val (.cons .val (.cons .val (.cons .val (.cons .val (.cons .val (.cons .val (.cons .val (.cons .val (.cons .val .nil)))))))))))) .nil) rfl rfl (by intro h; cases h) rfl rfl rfl rfl ?_
 obtain ⟨y_3, hy_3, G⟩ := Ac G
 refine Dz (Ki _ _ _ hy_3) ?_
 exact C6
theorem M3 (f : Aa) (r : Int) (G : Hm f = some r) : Fn Tryz.prog 149 0 [.agg (Aa.dv f)] [] (fun d' b' => d' = vk r /\ b' = []) := by
 unfold Hm at G
 refine Fn.of Tryz.func149 rfl rfl rfl fun w0 I ρ0 => ?_
 show B4 _ ⟨w0, I, ρ0, 0, 0, 5⟩ _ _ _
 refine Bk 0 16 A8 fun B => ?_
 refine Bk 16 40 B fun B => ?_
 exact Lz
theorem P1 (x' : Int) (r : Bool) (G : Iw x' = some r) : Fn Tryz.prog 191 0 [vk x'] [] (fun d' b' => d' = .val (.bool r) /\ b' = []) := by
 unfold Iw at G
 refine Fn.of Tryz.func191 rfl rfl rfl fun w0 I ρ0 => ?_
 show B4 _ ⟨w0, I, ρ0, 0, 0, 6⟩ _ _ _
 refine Bk 0 8 A8 fun B => ?_
 refine Bk 8 40 B fun B => ?_
 exact Lz
theorem Er (x' : Int) (y : Int) (r : Int) (G : De x' y = some r) : Fn Tryz.prog 144 0 [vk x', vk y] [] (fun d' b' => d' = vk r /\ b' = []) := by
 unfold De at G
 refine Fn.of Tryz.func144 rfl rfl rfl fun w0 I ρ0 => ?_
 show B4 _ ⟨w0, I, ρ0, 0, 0, 20⟩ _ _ _
 refine Bk 0 8 A8 fun B => ?_
 refine B8 8 32 B ?_
 refine A6 ?_
 obtain ⟨y_2, hy_2, G⟩ := Ac G
 refine Dz (P1 _ _ hy_2) ?_
 refine Bq fun B => ?_
 refine B8 32 56 B ?_
 refine A6 ?_
 obtain ⟨y_3, hy_3, G⟩ := Ac G
 refine Dz (P1 _ _ hy_3) ?_
 refine Bq fun B => ?_
 refine Ak <| Bk 56 64 B fun B => ?_
 refine C5 rfl G (fun h5 G => ?_) fun h5 G => ?_
 refine Ak <| Bk 64 72 B fun B => ?_
 refine C5 rfl G (fun h7 G => ?_) fun h7 G => ?_
 refine B8 72 80 B ?_
 exact C6
 refine Dd ?_
 refine Bk 72 80 B fun B => ?_
 exact Lz
 refine Dd ?_
 refine Ak <| Bk 64 72 B fun B => ?_
 refine C5 rfl G (fun h11 G => ?_) fun h11 G => ?_
 refine B8 72 80 B ?_
 exact C6
 refine Dd ?_
 refine Ak <| Bk 72 96 B fun B => ?_
 refine C5 rfl G (fun h14 G => ?_) fun h14 G => ?_
 refine B8 96 104 B ?_
 exact C6
 refine Dd ?_
 refine Ak <| Bk 96 120 B fun B => ?_
 refine C5 rfl G (fun h17 G => ?_) fun h17 G => ?_
 refine B8 120 128 B ?_
 exact C6
 refine Dd ?_
 refine Bk 120 128 B fun B => ?_
 exact Lz
theorem M4 (c1 : Aa) (c2 : Aa) (r : Int) (G : Ff c1 c2 = some r) : Fn Tryz.prog 143 0 [.elt (([.raw (.func (.func 149) #[] #[])] : List C).drop 0), .elt (([.int .i64 c1.Source, .str c1.Host, .int .i64 c1.Machine, .int .i64 c1.Day, .int .i64 c1.Confidence, .int .i64 c1.Kind, .str c1.Subject, .int .i64 c1.Use.Alg, .int .i64 c1.Use.Bits, .int .i64 c1.Number, .str c1.Text] : List C).drop 0), .elt (([.int .i64 c2.Source, .str c2.Host, .int .i64 c2.Machine, .int .i64 c2.Day, .int .i64 c2.Confidence, .int .i64 c2.Kind, .str c2.Subject, .int .i64 c2.Use.Alg, .int .i64 c2.Use.Bits, .int .i64 c2.Number, .str c2.Text] : List C).drop 0)] [] (fun d' b' => d' = vk r /\ b' = []) := by
 unfold Ff at G
 refine Fn.of Tryz.func143 rfl rfl rfl fun w0 I ρ0 => ?_
 show B4 _ ⟨w0, I, ρ0, 0, 0, 11⟩ _ _ _
 refine Bk 0 8 A8 fun B => ?_
 refine Ak <| Bv (Cj _ _ []) (by kernel_rfl) [0, 0, 3, 0, 0, 31, 63, 127] 8 72 B rfl rfl (by kernel_rfl) ?_
 refine Cr rfl rfl (Dn Lf (c := .raw (.func (.func 149) #[] #[])) rfl) rfl rfl ?_
 refine Cr rfl rfl (Dm Le (cs2 := [.int .i64 c1.Source, .str c1.Host, .int .i64 c1.Machine, .int .i64 c1.Day, .int .i64 c1.Confidence, .int .i64 c1.Kind, .str c1.Subject, .int .i64 c1.Use.Alg, .int .i64 c1.Use.Bits, .int .i64 c1.Number, .str c1.Text]) rfl (Nat.le_of_ble_eq_true rfl)) rfl rfl ?_
 obtain ⟨y, hy, G⟩ := Ac G
 refine Dj (rd := []) (ps := []) (gs := []) false rfl rfl (M3 _ _ hy) rfl rfl (.cons (.agg (.cons .val (.cons .val (.cons .val (.cons .val (.cons .val (.cons .val (.cons .val (.cons .val (.cons .val (.cons .val (.cons .val .nil)))))))))))) .nil) rfl rfl (by intro h; cases h) rfl rfl rfl rfl ?_
 refine Cr rfl rfl (Dn Lf (c := .raw (.func (.func 149) #[] #[])) rfl) rfl rfl ?_
 refine Cr rfl rfl (Dm Le (cs2 := [.int .i64 c2.Source, .str c2.Host, .int .i64 c2.Machine, .int .i64 c2.Day, .int .i64 c2.Confidence, .int .i64 c2.Kind, .str c2.Subject, .int .i64 c2.Use.Alg, .int .i64 c2.Use.Bits, .int .i64 c2.Number, .str c2.Text]) rfl (Nat.le_of_ble_eq_true rfl)) rfl rfl ?_
 obtain ⟨y_2, hy_2, G⟩ := Ac G
 refine Dj (rd := []) (ps := []) (gs := []) false rfl rfl (M3 _ _ hy_2) rfl rfl (.cons (.agg (.cons .val (.cons .val (.cons .val (.cons .val (.cons .val (.cons .val (.cons .val (.cons .val (.cons .val (.cons .val (.cons .val .nil)))))))))))) .nil) rfl rfl (by intro h; cases h) rfl rfl rfl rfl ?_
 obtain ⟨y_3, hy_3, G⟩ := Ac G
 refine Dz (Er _ _ _ hy_3) ?_
 exact C6
theorem Nb (f : Aa) (r : Int) (G : Ha f = some r) : Fn Tryz.prog 150 0 [.agg (Aa.dv f)] [] (fun d' b' => d' = vk r /\ b' = []) := by
 unfold Ha at G
 refine Fn.of Tryz.func150 rfl rfl rfl fun w0 I ρ0 => ?_
 show B4 _ ⟨w0, I, ρ0, 0, 0, 5⟩ _ _ _
 refine Bk 0 16 A8 fun B => ?_
 refine Bk 16 40 B fun B => ?_
 exact Lz
theorem Nj (c1 : Aa) (c2 : Aa) (r : Int) (G : Fh c1 c2 = some r) : Fn Tryz.prog 143 0 [.elt (([.raw (.func (.func 150) #[] #[])] : List C).drop 0), .elt (([.int .i64 c1.Source, .str c1.Host, .int .i64 c1.Machine, .int .i64 c1.Day, .int .i64 c1.Confidence, .int .i64 c1.Kind, .str c1.Subject, .int .i64 c1.Use.Alg, .int .i64 c1.Use.Bits, .int .i64 c1.Number, .str c1.Text] : List C).drop 0), .elt (([.int .i64 c2.Source, .str c2.Host, .int .i64 c2.Machine, .int .i64 c2.Day, .int .i64 c2.Confidence, .int .i64 c2.Kind, .str c2.Subject, .int .i64 c2.Use.Alg, .int .i64 c2.Use.Bits, .int .i64 c2.Number, .str c2.Text] : List C).drop 0)] [] (fun d' b' => d' = vk r /\ b' = []) := by
 unfold Fh at G
 refine Fn.of Tryz.func143 rfl rfl rfl fun w0 I ρ0 => ?_
 show B4 _ ⟨w0, I, ρ0, 0, 0, 11⟩ _ _ _
 refine Bk 0 8 A8 fun B => ?_
 refine Ak <| Bv (Cj _ _ []) (by kernel_rfl) [0, 0, 3, 0, 0, 31, 63, 127] 8 72 B rfl rfl (by kernel_rfl) ?_
 refine Cr rfl rfl (Dn Lf (c := .raw (.func (.func 150) #[] #[])) rfl) rfl rfl ?_
 refine Cr rfl rfl (Dm Le (cs2 := [.int .i64 c1.Source, .str c1.Host, .int .i64 c1.Machine, .int .i64 c1.Day, .int .i64 c1.Confidence, .int .i64 c1.Kind, .str c1.Subject, .int .i64 c1.Use.Alg, .int .i64 c1.Use.Bits, .int .i64 c1.Number, .str c1.Text]) rfl (Nat.le_of_ble_eq_true rfl)) rfl rfl ?_
 obtain ⟨y, hy, G⟩ := Ac G
 refine Dj (rd := []) (ps := []) (gs := []) false rfl rfl (Nb _ _ hy) rfl rfl (.cons (.agg (.cons .val (.cons .val (.cons .val (.cons .val (.cons .val (.cons .val (.cons .val (.cons .val (.cons .val (.cons .val (.cons .val .nil)))))))))))) .nil) rfl rfl (by intro h; cases h) rfl rfl rfl rfl ?_
 refine Cr rfl rfl (Dn Lf (c := .raw (.func (.func 150) #[] #[])) rfl) rfl rfl ?_
 refine Cr rfl rfl (Dm Le (cs2 := [.int .i64 c2.Source, .str c2.Host, .int .i64 c2.Machine, .int .i64 c2.Day, .int .i64 c2.Confidence, .int .i64 c2.Kind, .str c2.Subject, .int .i64 c2.Use.Alg, .int .i64 c2.Use.Bits, .int .i64 c2.Number, .str c2.Text]) rfl (Nat.le_of_ble_eq_true rfl)) rfl rfl ?_
 obtain ⟨y_2, hy_2, G⟩ := Ac G
 refine Dj (rd := []) (ps := []) (gs := []) false rfl rfl (Nb _ _ hy_2) rfl rfl (.cons (.agg (.cons .val (.cons .val (.cons .val (.cons .val (.cons .val (.cons .val (.cons .val (.cons .val (.cons .val (.cons .val (.cons .val .nil)))))))))))) .nil) rfl rfl (by intro h; cases h) rfl rfl rfl rfl ?_
 obtain ⟨y_3, hy_3, G⟩ := Ac G
 refine Dz (Er _ _ _ hy_3) ?_
 exact C6
theorem Nn (f : Aa) (r : ByteArray) (G : Hb f = some r) : Fn Tryz.prog 151 0 [.agg (Aa.dv f)] [] (fun d' b' => d' = ws r /\ b' = []) := by
 unfold Hb at G
 refine Fn.of Tryz.func151 rfl rfl rfl fun w0 I ρ0 => ?_
 show B4 _ ⟨w0, I, ρ0, 0, 0, 5⟩ _ _ _
 refine Bk 0 16 A8 fun B => ?_
 refine Bk 16 40 B fun B => ?_
 exact Lz
theorem Mq (c1 : Aa) (c2 : Aa) (r : Int) (G : Fj c1 c2 = some r) : Fn Tryz.prog 146 0 [.elt (([.raw (.func (.func 151) #[] #[])] : List C).drop 0), .elt (([.int .i64 c1.Source, .str c1.Host, .int .i64 c1.Machine, .int .i64 c1.Day, .int .i64 c1.Confidence, .int .i64 c1.Kind, .str c1.Subject, .int .i64 c1.Use.Alg, .int .i64 c1.Use.Bits, .int .i64 c1.Number, .str c1.Text] : List C).drop 0), .elt (([.int .i64 c2.Source, .str c2.Host, .int .i64 c2.Machine, .int .i64 c2.Day, .int .i64 c2.Confidence, .int .i64 c2.Kind, .str c2.Subject, .int .i64 c2.Use.Alg, .int .i64 c2.Use.Bits, .int .i64 c2.Number, .str c2.Text] : List C).drop 0)] [] (fun d' b' => d' = vk r /\ b' = []) := by
 unfold Fj at G
 refine Fn.of Tryz.func146 rfl rfl rfl fun w0 I ρ0 => ?_
 show B4 _ ⟨w0, I, ρ0, 0, 0, 11⟩ _ _ _
 refine Bk 0 8 A8 fun B => ?_
 refine Ak <| Bv (Cj _ _ []) (by kernel_rfl) [0, 0, 3, 0, 0, 31, 63, 127] 8 72 B rfl rfl (by kernel_rfl) ?_
 refine Cr rfl rfl (Dn Xl (c := .raw (.func (.func 151) #[] #[])) rfl) rfl rfl ?_
 refine Cr rfl rfl (Dm Le (cs2 := [.int .i64 c1.Source, .str c1.Host, .int .i64 c1.Machine, .int .i64 c1.Day, .int .i64 c1.Confidence, .int .i64 c1.Kind, .str c1.Subject, .int .i64 c1.Use.Alg, .int .i64 c1.Use.Bits, .int .i64 c1.Number, .str c1.Text]) rfl (Nat.le_of_ble_eq_true rfl)) rfl rfl ?_
 obtain ⟨y, hy, G⟩ := Ac G
 refine Dj (rd := []) (ps := []) (gs := []) false rfl rfl (Nn _ _ hy) rfl rfl (.cons (.agg (.cons .val (.cons .val (.cons .val (.cons .val (.cons .val (.cons .val (.cons .val (.cons .val (.cons .val (.cons .val (.cons .val .nil)))))))))))) .nil) rfl rfl (by intro h; cases h) rfl rfl rfl rfl ?_
 refine Cr rfl rfl (Dn Xl (c := .raw (.func (.func 151) #[] #[])) rfl) rfl rfl ?_
 refine Cr rfl rfl (Dm Le (cs2 := [.int .i64 c2.Source, .str c2.Host, .int .i64 c2.Machine, .int .i64 c2.Day, .int .i64 c2.Confidence, .int .i64 c2.Kind, .str c2.Subject, .int .i64 c2.Use.Alg, .int .i64 c2.Use.Bits, .int .i64 c2.Number, .str c2.Text]) rfl (Nat.le_of_ble_eq_true rfl)) rfl rfl ?_
 obtain ⟨y_2, hy_2, G⟩ := Ac G
 refine Dj (rd := []) (ps := []) (gs := []) false rfl rfl (Nn _ _ hy_2) rfl rfl (.cons (.agg (.cons .val (.cons .val (.cons .val (.cons .val (.cons .val (.cons .val (.cons .val (.cons .val (.cons .val (.cons .val (.cons .val .nil)))))))))))) .nil) rfl rfl (by intro h; cases h) rfl rfl rfl rfl ?_
 obtain ⟨y_3, hy_3, G⟩ := Ac G
 refine Dz (Ki _ _ _ hy_3) ?_
 exact C6
theorem Mp (f : Aa) (r : Int) (G : He f = some r) : Fn Tryz.prog 152 0 [.agg (Aa.dv f)] [] (fun d' b' => d' = vk r /\ b' = []) := by
 unfold He at G
 refine Fn.of Tryz.func152 rfl rfl rfl fun w0 I ρ0 => ?_
 show B4 _ ⟨w0, I, ρ0, 0, 0, 5⟩ _ _ _
 refine Bk 0 16 A8 fun B => ?_
 refine Bk 16 40 B fun B => ?_
 exact Lz
theorem Nl (c1 : Aa) (c2 : Aa) (r : Int) (G : Fk c1 c2 = some r) : Fn Tryz.prog 143 0 [.elt (([.raw (.func (.func 152) #[] #[])] : List C).drop 0), .elt (([.int .i64 c1.Source, .str c1.Host, .int .i64 c1.Machine, .int .i64 c1.Day, .int .i64 c1.Confidence, .int .i64 c1.Kind, .str c1.Subject, .int .i64 c1.Use.Alg, .int .i64 c1.Use.Bits, .int .i64 c1.Number, .str c1.Text] : List C).drop 0), .elt (([.int .i64 c2.Source, .str c2.Host, .int .i64 c2.Machine, .int .i64 c2.Day, .int .i64 c2.Confidence, .int .i64 c2.Kind, .str c2.Subject, .int .i64 c2.Use.Alg, .int .i64 c2.Use.Bits, .int .i64 c2.Number, .str c2.Text] : List C).drop 0)] [] (fun d' b' => d' = vk r /\ b' = []) := by
 unfold Fk at G
 refine Fn.of Tryz.func143 rfl rfl rfl fun w0 I ρ0 => ?_
 show B4 _ ⟨w0, I, ρ0, 0, 0, 11⟩ _ _ _
 refine Bk 0 8 A8 fun B => ?_
 refine Ak <| Bv (Cj _ _ []) (by kernel_rfl) [0, 0, 3, 0, 0, 31, 63, 127] 8 72 B rfl rfl (by kernel_rfl) ?_
 refine Cr rfl rfl (Dn Lf (c := .raw (.func (.func 152) #[] #[])) rfl) rfl rfl ?_
 refine Cr rfl rfl (Dm Le (cs2 := [.int .i64 c1.Source, .str c1.Host, .int .i64 c1.Machine, .int .i64 c1.Day, .int .i64 c1.Confidence, .int .i64 c1.Kind, .str c1.Subject, .int .i64 c1.Use.Alg, .int .i64 c1.Use.Bits, .int .i64 c1.Number, .str c1.Text]) rfl (Nat.le_of_ble_eq_true rfl)) rfl rfl ?_
 obtain ⟨y, hy, G⟩ := Ac G
 refine Dj (rd := []) (ps := []) (gs := []) false rfl rfl (Mp _ _ hy) rfl rfl (.cons (.agg (.cons .val (.cons .val (.cons .val (.cons .val (.cons .val (.cons .val (.cons .val (.cons .val (.cons .val (.cons .val (.cons .val .nil)))))))))))) .nil) rfl rfl (by intro h; cases h) rfl rfl rfl rfl ?_
 refine Cr rfl rfl (Dn Lf (c := .raw (.func (.func 152) #[] #[])) rfl) rfl rfl ?_
 refine Cr rfl rfl (Dm Le (cs2 := [.int .i64 c2.Source, .str c2.Host, .int .i64 c2.Machine, .int .i64 c2.Day, .int .i64 c2.Confidence, .int .i64 c2.Kind, .str c2.Subject, .int .i64 c2.Use.Alg, .int .i64 c2.Use.Bits, .int .i64 c2.Number, .str c2.Text]) rfl (Nat.le_of_ble_eq_true rfl)) rfl rfl ?_
 obtain ⟨y_2, hy_2, G⟩ := Ac G
 refine Dj (rd := []) (ps := []) (gs := []) false rfl rfl (Mp _ _ hy_2) rfl rfl (.cons (.agg (.cons .val (.cons .val (.cons .val (.cons .val (.cons .val (.cons .val (.cons .val (.cons .val (.cons .val (.cons .val (.cons .val .nil)))))))))))) .nil) rfl rfl (by intro h; cases h) rfl rfl rfl rfl ?_
 obtain ⟨y_3, hy_3, G⟩ := Ac G
 refine Dz (Er _ _ _ hy_3) ?_
 exact C6
theorem Nm (f : Aa) (r : Int) (G : Hd f = some r) : Fn Tryz.prog 153 0 [.agg (Aa.dv f)] [] (fun d' b' => d' = vk r /\ b' = []) := by
 unfold Hd at G
 refine Fn.of Tryz.func153 rfl rfl rfl fun w0 I ρ0 => ?_
 show B4 _ ⟨w0, I, ρ0, 0, 0, 6⟩ _ _ _
 refine Bk 0 16 A8 fun B => ?_
 refine Bk 16 48 B fun B => ?_
 exact Lz
theorem Mv (c1 : Aa) (c2 : Aa) (r : Int) (G : E5 c1 c2 = some r) : Fn Tryz.prog 143 0 [.elt (([.raw (.func (.func 153) #[] #[])] : List C).drop 0), .elt (([.int .i64 c1.Source, .str c1.Host, .int .i64 c1.Machine, .int .i64 c1.Day, .int .i64 c1.Confidence, .int .i64 c1.Kind, .str c1.Subject, .int .i64 c1.Use.Alg, .int .i64 c1.Use.Bits, .int .i64 c1.Number, .str c1.Text] : List C).drop 0), .elt (([.int .i64 c2.Source, .str c2.Host, .int .i64 c2.Machine, .int .i64 c2.Day, .int .i64 c2.Confidence, .int .i64 c2.Kind, .str c2.Subject, .int .i64 c2.Use.Alg, .int .i64 c2.Use.Bits, .int .i64 c2.Number, .str c2.Text] : List C).drop 0)] [] (fun d' b' => d' = vk r /\ b' = []) := by
 unfold E5 at G
 refine Fn.of Tryz.func143 rfl rfl rfl fun w0 I ρ0 => ?_
 show B4 _ ⟨w0, I, ρ0, 0, 0, 11⟩ _ _ _
 refine Bk 0 8 A8 fun B => ?_
 refine Ak <| Bv (Cj _ _ []) (by kernel_rfl) [0, 0, 3, 0, 0, 31, 63, 127] 8 72 B rfl rfl (by kernel_rfl) ?_
 refine Cr rfl rfl (Dn Lf (c := .raw (.func (.func 153) #[] #[])) rfl) rfl rfl ?_
 refine Cr rfl rfl (Dm Le (cs2 := [.int .i64 c1.Source, .str c1.Host, .int .i64 c1.Machine, .int .i64 c1.Day, .int .i64 c1.Confidence, .int .i64 c1.Kind, .str c1.Subject, .int .i64 c1.Use.Alg, .int .i64 c1.Use.Bits, .int .i64 c1.Number, .str c1.Text]) rfl (Nat.le_of_ble_eq_true rfl)) rfl rfl ?_
 obtain ⟨y, hy, G⟩ := Ac G
 refine Dj (rd := []) (ps := []) (gs := []) false rfl rfl (Nm _ _ hy) rfl rfl (.cons (.agg (.cons .val (.cons .val (.cons .val (.cons .val (.cons .val (.cons .val (.cons .val (.cons .val (.cons .val (.cons .val (.cons .val .nil)))))))))))) .nil) rfl rfl (by intro h; cases h) rfl rfl rfl rfl ?_
 refine Cr rfl rfl (Dn Lf (c := .raw (.func (.func 153) #[] #[])) rfl) rfl rfl ?_
 refine Cr rfl rfl (Dm Le (cs2 := [.int .i64 c2.Source, .str c2.Host, .int .i64 c2.Machine, .int .i64 c2.Day, .int .i64 c2.Confidence, .int .i64 c2.Kind, .str c2.Subject, .int .i64 c2.Use.Alg, .int .i64 c2.Use.Bits, .int .i64 c2.Number, .str c2.Text]) rfl (Nat.le_of_ble_eq_true rfl)) rfl rfl ?_
 obtain ⟨y_2, hy_2, G⟩ := Ac G
 refine Dj (rd := []) (ps := []) (gs := []) false rfl rfl (Nm _ _ hy_2) rfl rfl (.cons (.agg (.cons .val (.cons .val (.cons .val (.cons .val (.cons .val (.cons .val (.cons .val (.cons .val (.cons .val (.cons .val (.cons .val .nil)))))))))))) .nil) rfl rfl (by intro h; cases h) rfl rfl rfl rfl ?_
 obtain ⟨y_3, hy_3, G⟩ := Ac G
 refine Dz (Er _ _ _ hy_3) ?_
 exact C6
theorem My (f : Aa) (r : Int) (G : Hl f = some r) : Fn Tryz.prog 154 0 [.agg (Aa.dv f)] [] (fun d' b' => d' = vk r /\ b' = []) := by
 unfold Hl at G
 refine Fn.of Tryz.func154 rfl rfl rfl fun w0 I ρ0 => ?_
 show B4 _ ⟨w0, I, ρ0, 0, 0, 6⟩ _ _ _
 refine Bk 0 16 A8 fun B => ?_
 refine Bk 16 48 B fun B => ?_
 exact Lz
theorem M2 (c1 : Aa) (c2 : Aa) (r : Int) (G : Fi c1 c2 = some r) : Fn Tryz.prog 143 0 [.elt (([.raw (.func (.func 154) #[] #[])] : List C).drop 0), .elt (([.int .i64 c1.Source, .str c1.Host, .int .i64 c1.Machine, .int .i64 c1.Day, .int .i64 c1.Confidence, .int .i64 c1.Kind, .str c1.Subject, .int .i64 c1.Use.Alg, .int .i64 c1.Use.Bits, .int .i64 c1.Number, .str c1.Text] : List C).drop 0), .elt (([.int .i64 c2.Source, .str c2.Host, .int .i64 c2.Machine, .int .i64 c2.Day, .int .i64 c2.Confidence, .int .i64 c2.Kind, .str c2.Subject, .int .i64 c2.Use.Alg, .int .i64 c2.Use.Bits, .int .i64 c2.Number, .str c2.Text] : List C).drop 0)] [] (fun d' b' => d' = vk r /\ b' = []) := by
 unfold Fi at G
 refine Fn.of Tryz.func143 rfl rfl rfl fun w0 I ρ0 => ?_
 show B4 _ ⟨w0, I, ρ0, 0, 0, 11⟩ _ _ _
 refine Bk 0 8 A8 fun B => ?_
 refine Ak <| Bv (Cj _ _ []) (by kernel_rfl) [0, 0, 3, 0, 0, 31, 63, 127] 8 72 B rfl rfl (by kernel_rfl) ?_
 refine Cr rfl rfl (Dn Lf (c := .raw (.func (.func 154) #[] #[])) rfl) rfl rfl ?_
 refine Cr rfl rfl (Dm Le (cs2 := [.int .i64 c1.Source, .str c1.Host, .int .i64 c1.Machine, .int .i64 c1.Day, .int .i64 c1.Confidence, .int .i64 c1.Kind, .str c1.Subject, .int .i64 c1.Use.Alg, .int .i64 c1.Use.Bits, .int .i64 c1.Number, .str c1.Text]) rfl (Nat.le_of_ble_eq_true rfl)) rfl rfl ?_
 obtain ⟨y, hy, G⟩ := Ac G
 refine Dj (rd := []) (ps := []) (gs := []) false rfl rfl (My _ _ hy) rfl rfl (.cons (.agg (.cons .val (.cons .val (.cons .val (.cons .val (.cons .val (.cons .val (.cons .val (.cons .val (.cons .val (.cons .val (.cons .val .nil)))))))))))) .nil) rfl rfl (by intro h; cases h) rfl rfl rfl rfl ?_
 refine Cr rfl rfl (Dn Lf (c := .raw (.func (.func 154) #[] #[])) rfl) rfl rfl ?_
 refine Cr rfl rfl (Dm Le (cs2 := [.int .i64 c2.Source, .str c2.Host, .int .i64 c2.Machine, .int .i64 c2.Day, .int .i64 c2.Confidence, .int .i64 c2.Kind, .str c2.Subject, .int .i64 c2.Use.Alg, .int .i64 c2.Use.Bits, .int .i64 c2.Number, .str c2.Text]) rfl (Nat.le_of_ble_eq_true rfl)) rfl rfl ?_
 obtain ⟨y_2, hy_2, G⟩ := Ac G
 refine Dj (rd := []) (ps := []) (gs := []) false rfl rfl (My _ _ hy_2) rfl rfl (.cons (.agg (.cons .val (.cons .val (.cons .val (.cons .val (.cons .val (.cons .val (.cons .val (.cons .val (.cons .val (.cons .val (.cons .val .nil)))))))))))) .nil) rfl rfl (by intro h; cases h) rfl rfl rfl rfl ?_
 obtain ⟨y_3, hy_3, G⟩ := Ac G
 refine Dz (Er _ _ _ hy_3) ?_
 exact C6
theorem Lw (f : Aa) (r : Int) (G : Gs f = some r) : Fn Tryz.prog 155 0 [.agg (Aa.dv f)] [] (fun d' b' => d' = vk r /\ b' = []) := by
 unfold Gs at G
 refine Fn.of Tryz.func155 rfl rfl rfl fun w0 I ρ0 => ?_
 show B4 _ ⟨w0, I, ρ0, 0, 0, 5⟩ _ _ _
 refine Bk 0 16 A8 fun B => ?_
 refine Bk 16 40 B fun B => ?_
 exact Lz
theorem Mt (c1 : Aa) (c2 : Aa) (r : Int) (G : E4 c1 c2 = some r) : Fn Tryz.prog 143 0 [.elt (([.raw (.func (.func 155) #[] #[])] : List C).drop 0), .elt (([.int .i64 c1.Source, .str c1.Host, .int .i64 c1.Machine, .int .i64 c1.Day, .int .i64 c1.Confidence, .int .i64 c1.Kind, .str c1.Subject, .int .i64 c1.Use.Alg, .int .i64 c1.Use.Bits, .int .i64 c1.Number, .str c1.Text] : List C).drop 0), .elt (([.int .i64 c2.Source, .str c2.Host, .int .i64 c2.Machine, .int .i64 c2.Day, .int .i64 c2.Confidence, .int .i64 c2.Kind, .str c2.Subject, .int .i64 c2.Use.Alg, .int .i64 c2.Use.Bits, .int .i64 c2.Number, .str c2.Text] : List C).drop 0)] [] (fun d' b' => d' = vk r /\ b' = []) := by
 unfold E4 at G
 refine Fn.of Tryz.func143 rfl rfl rfl fun w0 I ρ0 => ?_
 show B4 _ ⟨w0, I, ρ0, 0, 0, 11⟩ _ _ _
 refine Bk 0 8 A8 fun B => ?_
 refine Ak <| Bv (Cj _ _ []) (by kernel_rfl) [0, 0, 3, 0, 0, 31, 63, 127] 8 72 B rfl rfl (by kernel_rfl) ?_
 refine Cr rfl rfl (Dn Lf (c := .raw (.func (.func 155) #[] #[])) rfl) rfl rfl ?_
 refine Cr rfl rfl (Dm Le (cs2 := [.int .i64 c1.Source, .str c1.Host, .int .i64 c1.Machine, .int .i64 c1.Day, .int .i64 c1.Confidence, .int .i64 c1.Kind, .str c1.Subject, .int .i64 c1.Use.Alg, .int .i64 c1.Use.Bits, .int .i64 c1.Number, .str c1.Text]) rfl (Nat.le_of_ble_eq_true rfl)) rfl rfl ?_
 obtain ⟨y, hy, G⟩ := Ac G
 refine Dj (rd := []) (ps := []) (gs := []) false rfl rfl (Lw _ _ hy) rfl rfl (.cons (.agg (.cons .val (.cons .val (.cons .val (.cons .val (.cons .val (.cons .val (.cons .val (.cons .val (.cons .val (.cons .val (.cons .val .nil)))))))))))) .nil) rfl rfl (by intro h; cases h) rfl rfl rfl rfl ?_
 refine Cr rfl rfl (Dn Lf (c := .raw (.func (.func 155) #[] #[])) rfl) rfl rfl ?_
 refine Cr rfl rfl (Dm Le (cs2 := [.int .i64 c2.Source, .str c2.Host, .int .i64 c2.Machine, .int .i64 c2.Day, .int .i64 c2.Confidence, .int .i64 c2.Kind, .str c2.Subject, .int .i64 c2.Use.Alg, .int .i64 c2.Use.Bits, .int .i64 c2.Number, .str c2.Text]) rfl (Nat.le_of_ble_eq_true rfl)) rfl rfl ?_
 obtain ⟨y_2, hy_2, G⟩ := Ac G
 refine Dj (rd := []) (ps := []) (gs := []) false rfl rfl (Lw _ _ hy_2) rfl rfl (.cons (.agg (.cons .val (.cons .val (.cons .val (.cons .val (.cons .val (.cons .val (.cons .val (.cons .val (.cons .val (.cons .val (.cons .val .nil)))))))))))) .nil) rfl rfl (by intro h; cases h) rfl rfl rfl rfl ?_
 obtain ⟨y_3, hy_3, G⟩ := Ac G
 refine Dz (Er _ _ _ hy_3) ?_
 exact C6
theorem Lx (f : Aa) (r : ByteArray) (G : Gw f = some r) : Fn Tryz.prog 156 0 [.agg (Aa.dv f)] [] (fun d' b' => d' = ws r /\ b' = []) := by
 unfold Gw at G
 refine Fn.of Tryz.func156 rfl rfl rfl fun w0 I ρ0 => ?_
 show B4 _ ⟨w0, I, ρ0, 0, 0, 5⟩ _ _ _
 refine Bk 0 16 A8 fun B => ?_
 refine Bk 16 40 B fun B => ?_
 exact Lz
theorem Mu (c1 : Aa) (c2 : Aa) (r : Int) (G : Fa c1 c2 = some r) : Fn Tryz.prog 146 0 [.elt (([.raw (.func (.func 156) #[] #[])] : List C).drop 0), .elt (([.int .i64 c1.Source, .str c1.Host, .int .i64 c1.Machine, .int .i64 c1.Day, .int .i64 c1.Confidence, .int .i64 c1.Kind, .str c1.Subject, .int .i64 c1.Use.Alg, .int .i64 c1.Use.Bits, .int .i64 c1.Number, .str c1.Text] : List C).drop 0), .elt (([.int .i64 c2.Source, .str c2.Host, .int .i64 c2.Machine, .int .i64 c2.Day, .int .i64 c2.Confidence, .int .i64 c2.Kind, .str c2.Subject, .int .i64 c2.Use.Alg, .int .i64 c2.Use.Bits, .int .i64 c2.Number, .str c2.Text] : List C).drop 0)] [] (fun d' b' => d' = vk r /\ b' = []) := by
 unfold Fa at G
 refine Fn.of Tryz.func146 rfl rfl rfl fun w0 I ρ0 => ?_
 show B4 _ ⟨w0, I, ρ0, 0, 0, 11⟩ _ _ _
 refine Bk 0 8 A8 fun B => ?_
 refine Ak <| Bv (Cj _ _ []) (by kernel_rfl) [0, 0, 3, 0, 0, 31, 63, 127] 8 72 B rfl rfl (by kernel_rfl) ?_
 refine Cr rfl rfl (Dn Xl (c := .raw (.func (.func 156) #[] #[])) rfl) rfl rfl ?_
 refine Cr rfl rfl (Dm Le (cs2 := [.int .i64 c1.Source, .str c1.Host, .int .i64 c1.Machine, .int .i64 c1.Day, .int .i64 c1.Confidence, .int .i64 c1.Kind, .str c1.Subject, .int .i64 c1.Use.Alg, .int .i64 c1.Use.Bits, .int .i64 c1.Number, .str c1.Text]) rfl (Nat.le_of_ble_eq_true rfl)) rfl rfl ?_
 obtain ⟨y, hy, G⟩ := Ac G
 refine Dj (rd := []) (ps := []) (gs := []) false rfl rfl (Lx _ _ hy) rfl rfl (.cons (.agg (.cons .val (.cons .val (.cons .val (.cons .val (.cons .val (.cons .val (.cons .val (.cons .val (.cons .val (.cons .val (.cons .val .nil)))))))))))) .nil) rfl rfl (by intro h; cases h) rfl rfl rfl rfl ?_
 refine Cr rfl rfl (Dn Xl (c := .raw (.func (.func 156) #[] #[])) rfl) rfl rfl ?_
 refine Cr rfl rfl (Dm Le (cs2 := [.int .i64 c2.Source, .str c2.Host, .int .i64 c2.Machine, .int .i64 c2.Day, .int .i64 c2.Confidence, .int .i64 c2.Kind, .str c2.Subject, .int .i64 c2.Use.Alg, .int .i64 c2.Use.Bits, .int .i64 c2.Number, .str c2.Text]) rfl (Nat.le_of_ble_eq_true rfl)) rfl rfl ?_
 obtain ⟨y_2, hy_2, G⟩ := Ac G
 refine Dj (rd := []) (ps := []) (gs := []) false rfl rfl (Lx _ _ hy_2) rfl rfl (.cons (.agg (.cons .val (.cons .val (.cons .val (.cons .val (.cons .val (.cons .val (.cons .val (.cons .val (.cons .val (.cons .val (.cons .val .nil)))))))))))) .nil) rfl rfl (by intro h; cases h) rfl rfl rfl rfl ?_
 obtain ⟨y_3, hy_3, G⟩ := Ac G
 refine Dz (Ki _ _ _ hy_3) ?_
 exact C6
theorem L2 (f : Aa) (r : Int) (G : Gu f = some r) : Fn Tryz.prog 157 0 [.agg (Aa.dv f)] [] (fun d' b' => d' = vk r /\ b' = []) := by
 unfold Gu at G
 refine Fn.of Tryz.func157 rfl rfl rfl fun w0 I ρ0 => ?_
 show B4 _ ⟨w0, I, ρ0, 0, 0, 5⟩ _ _ _
 refine Bk 0 16 A8 fun B => ?_
 refine Bk 16 40 B fun B => ?_
 exact Lz
theorem Nr (c1 : Aa) (c2 : Aa) (r : Int) (G : E6 c1 c2 = some r) : Fn Tryz.prog 143 0 [.elt (([.raw (.func (.func 157) #[] #[])] : List C).drop 0), .elt (([.int .i64 c1.Source, .str c1.Host, .int .i64 c1.Machine, .int .i64 c1.Day, .int .i64 c1.Confidence, .int .i64 c1.Kind, .str c1.Subject, .int .i64 c1.Use.Alg, .int .i64 c1.Use.Bits, .int .i64 c1.Number, .str c1.Text] : List C).drop 0), .elt (([.int .i64 c2.Source, .str c2.Host, .int .i64 c2.Machine, .int .i64 c2.Day, .int .i64 c2.Confidence, .int .i64 c2.Kind, .str c2.Subject, .int .i64 c2.Use.Alg, .int .i64 c2.Use.Bits, .int .i64 c2.Number, .str c2.Text] : List C).drop 0)] [] (fun d' b' => d' = vk r /\ b' = []) := by
 unfold E6 at G
 refine Fn.of Tryz.func143 rfl rfl rfl fun w0 I ρ0 => ?_
 show B4 _ ⟨w0, I, ρ0, 0, 0, 11⟩ _ _ _
 refine Bk 0 8 A8 fun B => ?_
 refine Ak <| Bv (Cj _ _ []) (by kernel_rfl) [0, 0, 3, 0, 0, 31, 63, 127] 8 72 B rfl rfl (by kernel_rfl) ?_
 refine Cr rfl rfl (Dn Lf (c := .raw (.func (.func 157) #[] #[])) rfl) rfl rfl ?_
 refine Cr rfl rfl (Dm Le (cs2 := [.int .i64 c1.Source, .str c1.Host, .int .i64 c1.Machine, .int .i64 c1.Day, .int .i64 c1.Confidence, .int .i64 c1.Kind, .str c1.Subject, .int .i64 c1.Use.Alg, .int .i64 c1.Use.Bits, .int .i64 c1.Number, .str c1.Text]) rfl (Nat.le_of_ble_eq_true rfl)) rfl rfl ?_
 obtain ⟨y, hy, G⟩ := Ac G
 refine Dj (rd := []) (ps := []) (gs := []) false rfl rfl (L2 _ _ hy) rfl rfl (.cons (.agg (.cons .val (.cons .val (.cons .val (.cons .val (.cons .val (.cons .val (.cons .val (.cons .val (.cons .val (.cons .val (.cons .val .nil)))))))))))) .nil) rfl rfl (by intro h; cases h) rfl rfl rfl rfl ?_
 refine Cr rfl rfl (Dn Lf (c := .raw (.func (.func 157) #[] #[])) rfl) rfl rfl ?_
 refine Cr rfl rfl (Dm Le (cs2 := [.int .i64 c2.Source, .str c2.Host, .int .i64 c2.Machine, .int .i64 c2.Day, .int .i64 c2.Confidence, .int .i64 c2.Kind, .str c2.Subject, .int .i64 c2.Use.Alg, .int .i64 c2.Use.Bits, .int .i64 c2.Number, .str c2.Text]) rfl (Nat.le_of_ble_eq_true rfl)) rfl rfl ?_
 obtain ⟨y_2, hy_2, G⟩ := Ac G
 refine Dj (rd := []) (ps := []) (gs := []) false rfl rfl (L2 _ _ hy_2) rfl rfl (.cons (.agg (.cons .val (.cons .val (.cons .val (.cons .val (.cons .val (.cons .val (.cons .val (.cons .val (.cons .val (.cons .val (.cons .val .nil)))))))))))) .nil) rfl rfl (by intro h; cases h) rfl rfl rfl rfl ?_
 obtain ⟨y_3, hy_3, G⟩ := Ac G
 refine Dz (Er _ _ _ hy_3) ?_
 exact C6
theorem Ly (f : Aa) (r : Int) (G : Gy f = some r) : Fn Tryz.prog 158 0 [.agg (Aa.dv f)] [] (fun d' b' => d' = vk r /\ b' = []) := by
 unfold Gy at G
 refine Fn.of Tryz.func158 rfl rfl rfl fun w0 I ρ0 => ?_
 show B4 _ ⟨w0, I, ρ0, 0, 0, 5⟩ _ _ _
 refine Bk 0 16 A8 fun B => ?_
 refine Bk 16 40 B fun B => ?_
 exact Lz
theorem Mw (c1 : Aa) (c2 : Aa) (r : Int) (G : E8 c1 c2 = some r) : Fn Tryz.prog 143 0 [.elt (([.raw (.func (.func 158) #[] #[])] : List C).drop 0), .elt (([.int .i64 c1.Source, .str c1.Host, .int .i64 c1.Machine, .int .i64 c1.Day, .int .i64 c1.Confidence, .int .i64 c1.Kind, .str c1.Subject, .int .i64 c1.Use.Alg, .int .i64 c1.Use.Bits, .int .i64 c1.Number, .str c1.Text] : List C).drop 0), .elt (([.int .i64 c2.Source, .str c2.Host, .int .i64 c2.Machine, .int .i64 c2.Day, .int .i64 c2.Confidence, .int .i64 c2.Kind, .str c2.Subject, .int .i64 c2.Use.Alg, .int .i64 c2.Use.Bits, .int .i64 c2.Number, .str c2.Text] : List C).drop 0)] [] (fun d' b' => d' = vk r /\ b' = []) := by
 unfold E8 at G
 refine Fn.of Tryz.func143 rfl rfl rfl fun w0 I ρ0 => ?_
 show B4 _ ⟨w0, I, ρ0, 0, 0, 11⟩ _ _ _
 refine Bk 0 8 A8 fun B => ?_
 refine Ak <| Bv (Cj _ _ []) (by kernel_rfl) [0, 0, 3, 0, 0, 31, 63, 127] 8 72 B rfl rfl (by kernel_rfl) ?_
 refine Cr rfl rfl (Dn Lf (c := .raw (.func (.func 158) #[] #[])) rfl) rfl rfl ?_
 refine Cr rfl rfl (Dm Le (cs2 := [.int .i64 c1.Source, .str c1.Host, .int .i64 c1.Machine, .int .i64 c1.Day, .int .i64 c1.Confidence, .int .i64 c1.Kind, .str c1.Subject, .int .i64 c1.Use.Alg, .int .i64 c1.Use.Bits, .int .i64 c1.Number, .str c1.Text]) rfl (Nat.le_of_ble_eq_true rfl)) rfl rfl ?_
 obtain ⟨y, hy, G⟩ := Ac G
 refine Dj (rd := []) (ps := []) (gs := []) false rfl rfl (Ly _ _ hy) rfl rfl (.cons (.agg (.cons .val (.cons .val (.cons .val (.cons .val (.cons .val (.cons .val (.cons .val (.cons .val (.cons .val (.cons .val (.cons .val .nil)))))))))))) .nil) rfl rfl (by intro h; cases h) rfl rfl rfl rfl ?_
 refine Cr rfl rfl (Dn Lf (c := .raw (.func (.func 158) #[] #[])) rfl) rfl rfl ?_
 refine Cr rfl rfl (Dm Le (cs2 := [.int .i64 c2.Source, .str c2.Host, .int .i64 c2.Machine, .int .i64 c2.Day, .int .i64 c2.Confidence, .int .i64 c2.Kind, .str c2.Subject, .int .i64 c2.Use.Alg, .int .i64 c2.Use.Bits, .int .i64 c2.Number, .str c2.Text]) rfl (Nat.le_of_ble_eq_true rfl)) rfl rfl ?_
 obtain ⟨y_2, hy_2, G⟩ := Ac G
 refine Dj (rd := []) (ps := []) (gs := []) false rfl rfl (Ly _ _ hy_2) rfl rfl (.cons (.agg (.cons .val (.cons .val (.cons .val (.cons .val (.cons .val (.cons .val (.cons .val (.cons .val (.cons .val (.cons .val (.cons .val .nil)))))))))))) .nil) rfl rfl (by intro h; cases h) rfl rfl rfl rfl ?_
 obtain ⟨y_3, hy_3, G⟩ := Ac G
 refine Dz (Er _ _ _ hy_3) ?_
 exact C6
theorem Vv (a : Aa) (b : Aa) (r : Int) (G : Gp a b = some r) : Fn Tryz.prog 112 0 [.agg (Aa.dv a), .agg (Aa.dv b)] [] (fun d' b' => d' = vk r /\ b' = []) := by
 unfold Gp at G
 refine Fn.of Tryz.func112 rfl rfl rfl fun w0 I ρ0 => ?_
 show B4 _ ⟨w0, I, ρ0, 0, 0, 46⟩ _ _ _
 refine Bk 0 24 A8 fun B => ?_
 refine Ak <| Ec (σ' := mk [(2, .elt (([.int .i64 a.Source, .str a.Host, .int .i64 a.Machine, .int .i64 a.Day, .int .i64 a.Confidence, .int .i64 a.Kind, .str a.Subject, .int .i64 a.Use.Alg, .int .i64 a.Use.Bits, .int .i64 a.Number, .str a.Text] : List C).drop 0)), (3, .elt (([.int .i64 b.Source, .str b.Host, .int .i64 b.Machine, .int .i64 b.Day, .int .i64 b.Confidence, .int .i64 b.Kind, .str b.Subject, .int .i64 b.Use.Alg, .int .i64 b.Use.Bits, .int .i64 b.Number, .str b.Text] : List C).drop 0))] [] 0) ((by exact Ns.lists [] rfl rfl ⟨⟨_, rfl, .frzb (ks := [none, none, none, none, none, none, none, none, none, none, none]) rfl (.cons .int (.cons .str (.cons .int (.cons .int (.cons .int (.cons .int (.cons .str (.cons .int (.cons .int (.cons .int (.cons .str .nil))))))))))) (Ei rfl)⟩, ⟨_, rfl, .frzb (ks := [none, none, none, none, none, none, none, none, none, none, none]) rfl (.cons .int (.cons .str (.cons .int (.cons .int (.cons .int (.cons .int (.cons .str (.cons .int (.cons .int (.cons .int (.cons .str .nil))))))))))) (Ei rfl)⟩, trivial⟩ trivial)) ?_
 refine An (Cj _ _ []) 0 16 A8 rfl rfl ?_
 refine Bq fun B => ?_
 refine Bk 16 32 B fun B => ?_
 refine Ak <| B8 32 232 B ?_
 refine A6 ?_
 obtain ⟨y, hy, G⟩ := Ac G
 refine B9 (rd := []) (ps := []) (gs := []) false rfl rfl (O5 _ _ _ hy) rfl rfl (.cons .val (.cons .elt (.cons .elt .nil))) rfl rfl (by intro h; cases h) rfl rfl rfl rfl ?_
 refine A6 ?_
 obtain ⟨y_2, hy_2, G⟩ := Ac G
 refine B9 (rd := []) (ps := []) (gs := []) false rfl rfl (N9 _ _ _ hy_2) rfl rfl (.cons .val (.cons .elt (.cons .elt .nil))) rfl rfl (by intro h; cases h) rfl rfl rfl rfl ?_
 refine A6 ?_
 obtain ⟨y_3, hy_3, G⟩ := Ac G
 refine B9 (rd := []) (ps := []) (gs := []) false rfl rfl (O1 _ _ _ hy_3) rfl rfl (.cons .val (.cons .elt (.cons .elt .nil))) rfl rfl (by intro h; cases h) rfl rfl rfl rfl ?_
 refine A6 ?_
 obtain ⟨y_4, hy_4, G⟩ := Ac G
 refine B9 (rd := []) (ps := []) (gs := []) false rfl rfl (Od _ _ _ hy_4) rfl rfl (.cons .val (.cons .elt (.cons .elt .nil))) rfl rfl (by intro h; cases h) rfl rfl rfl rfl ?_
 refine A6 ?_
 obtain ⟨y_5, hy_5, G⟩ := Ac G
 refine B9 (rd := []) (ps := []) (gs := []) false rfl rfl (Ol _ _ _ hy_5) rfl rfl (.cons .val (.cons .elt (.cons .elt .nil))) rfl rfl (by intro h; cases h) rfl rfl rfl rfl ?_
 refine A6 ?_
 obtain ⟨y_6, hy_6, G⟩ := Ac G
 refine B9 (rd := []) (ps := []) (gs := []) false rfl rfl (O7 _ _ _ hy_6) rfl rfl (.cons .val (.cons .elt (.cons .elt .nil))) rfl rfl (by intro h; cases h) rfl rfl rfl rfl ?_
 refine A6 ?_
 obtain ⟨y_7, hy_7, G⟩ := Ac G
 refine B9 (rd := []) (ps := []) (gs := []) false rfl rfl (Ob _ _ _ hy_7) rfl rfl (.cons .val (.cons .elt (.cons .elt .nil))) rfl rfl (by intro h; cases h) rfl rfl rfl rfl ?_
 refine A6 ?_
 obtain ⟨y_8, hy_8, G⟩ := Ac G
 refine B9 (rd := []) (ps := []) (gs := []) false rfl rfl (Oz _ _ _ hy_8) rfl rfl (.cons .val (.cons .elt (.cons .elt .nil))) rfl rfl (by intro h; cases h) rfl rfl rfl rfl ?_
 refine A6 ?_
 obtain ⟨y_9, hy_9, G⟩ := Ac G
 refine B9 (rd := []) (ps := []) (gs := []) false rfl rfl (Of _ _ _ hy_9) rfl rfl (.cons .val (.cons .elt (.cons .elt .nil))) rfl rfl (by intro h; cases h) rfl rfl rfl rfl ?_
 refine A6 ?_
 obtain ⟨y_10, hy_10, G⟩ := Ac G
 refine B9 (rd := []) (ps := []) (gs := []) false rfl rfl (O4 _ _ _ hy_10) rfl rfl (.cons .val (.cons .elt (.cons .elt .nil))) rfl rfl (by intro h; cases h) rfl rfl rfl rfl ?_
 refine A6 ?_
 obtain ⟨y_11, hy_11, G⟩ := Ac G
 refine B9 (rd := []) (ps := []) (gs := []) false rfl rfl (O6 _ _ _ hy_11) rfl rfl (.cons .val (.cons .elt (.cons .elt .nil))) rfl rfl (by intro h; cases h) rfl rfl rfl rfl ?_
 refine J0 (rd := []) rfl rfl (.buildV (r := [.clo 146 0 [.elt (([.raw (.func (.func 148) #[] #[])] : List C).drop 0), .elt (([.int .i64 y.1.Source, .str y.1.Host, .int .i64 y.1.Machine, .int .i64 y.1.Day, .int .i64 y.1.Confidence, .int .i64 y.1.Kind, .str y.1.Subject, .int .i64 y.1.Use.Alg, .int .i64 y.1.Use.Bits, .int .i64 y.1.Number, .str y.1.Text] : List C).drop 0), .elt (([.int .i64 y.2.Source, .str y.2.Host, .int .i64 y.2.Machine, .int .i64 y.2.Day, .int .i64 y.2.Confidence, .int .i64 y.2.Kind, .str y.2.Subject, .int .i64 y.2.Use.Alg, .int .i64 y.2.Use.Bits, .int .i64 y.2.Number, .str y.2.Text] : List C).drop 0)], .clo 143 0 [.elt (([.raw (.func (.func 149) #[] #[])] : List C).drop 0), .elt (([.int .i64 y_2.1.Source, .str y_2.1.Host, .int .i64 y_2.1.Machine, .int .i64 y_2.1.Day, .int .i64 y_2.1.Confidence, .int .i64 y_2.1.Kind, .str y_2.1.Subject, .int .i64 y_2.1.Use.Alg, .int .i64 y_2.1.Use.Bits, .int .i64 y_2.1.Number, .str y_2.1.Text] : List C).drop 0), .elt (([.int .i64 y_2.2.Source, .str y_2.2.Host, .int .i64 y_2.2.Machine, .int .i64 y_2.2.Day, .int .i64 y_2.2.Confidence, .int .i64 y_2.2.Kind, .str y_2.2.Subject, .int .i64 y_2.2.Use.Alg, .int .i64 y_2.2.Use.Bits, .int .i64 y_2.2.Number, .str y_2.2.Text] : List C).drop 0)], .clo 143 0 [.elt (([.raw (.func (.func 150) #[] #[])] : List C).drop 0), .elt (([.int .i64 y_3.1.Source, .str y_3.1.Host, .int .i64 y_3.1.Machine, .int .i64 y_3.1.Day, .int .i64 y_3.1.Confidence, .int .i64 y_3.1.Kind, .str y_3.1.Subject, .int .i64 y_3.1.Use.Alg, .int .i64 y_3.1.Use.Bits, .int .i64 y_3.1.Number, .str y_3.1.Text] : List C).drop 0), .elt (([.int .i64 y_3.2.Source, .str y_3.2.Host, .int .i64 y_3.2.Machine, .int .i64 y_3.2.Day, .int .i64 y_3.2.Confidence, .int .i64 y_3.2.Kind, .str y_3.2.Subject, .int .i64 y_3.2.Use.Alg, .int .i64 y_3.2.Use.Bits, .int .i64 y_3.2.Number, .str y_3.2.Text] : List C).drop 0)], .clo 146 0 [.elt (([.raw (.func (.func 151) #[] #[])] : List C).drop 0), .elt (([.int .i64 y_4.1.Source, .str y_4.1.Host, .int .i64 y_4.1.Machine, .int .i64 y_4.1.Day, .int .i64 y_4.1.Confidence, .int .i64 y_4.1.Kind, .str y_4.1.Subject, .int .i64 y_4.1.Use.Alg, .int .i64 y_4.1.Use.Bits, .int .i64 y_4.1.Number, .str y_4.1.Text] : List C).drop 0), .elt (([.int .i64 y_4.2.Source, .str y_4.2.Host, .int .i64 y_4.2.Machine, .int .i64 y_4.2.Day, .int .i64 y_4.2.Confidence, .int .i64 y_4.2.Kind, .str y_4.2.Subject, .int .i64 y_4.2.Use.Alg, .int .i64 y_4.2.Use.Bits, .int .i64 y_4.2.Number, .str y_4.2.Text] : List C).drop 0)], .clo 143 0 [.elt (([.raw (.func (.func 152) #[] #[])] : List C).drop 0), .elt (([.int .i64 y_5.1.Source, .str y_5.1.Host, .int .i64 y_5.1.Machine, .int .i64 y_5.1.Day, .int .i64 y_5.1.Confidence, .int .i64 y_5.1.Kind, .str y_5.1.Subject, .int .i64 y_5.1.Use.Alg, .int .i64 y_5.1.Use.Bits, .int .i64 y_5.1.Number, .str y_5.1.Text] : List C).drop 0), .elt (([.int .i64 y_5.2.Source, .str y_5.2.Host, .int .i64 y_5.2.Machine, .int .i64 y_5.2.Day, .int .i64 y_5.2.Confidence, .int .i64 y_5.2.Kind, .str y_5.2.Subject, .int .i64 y_5.2.Use.Alg, .int .i64 y_5.2.Use.Bits, .int .i64 y_5.2.Number, .str y_5.2.Text] : List C).drop 0)], .clo 143 0 [.elt (([.raw (.func (.func 153) #[] #[])] : List C).drop 0), .elt (([.int .i64 y_6.1.Source, .str y_6.1.Host, .int .i64 y_6.1.Machine, .int .i64 y_6.1.Day, .int .i64 y_6.1.Confidence, .int .i64 y_6.1.Kind, .str y_6.1.Subject, .int .i64 y_6.1.Use.Alg, .int .i64 y_6.1.Use.Bits, .int .i64 y_6.1.Number, .str y_6.1.Text] : List C).drop 0), .elt (([.int .i64 y_6.2.Source, .str y_6.2.Host, .int .i64 y_6.2.Machine, .int .i64 y_6.2.Day, .int .i64 y_6.2.Confidence, .int .i64 y_6.2.Kind, .str y_6.2.Subject, .int .i64 y_6.2.Use.Alg, .int .i64 y_6.2.Use.Bits, .int .i64 y_6.2.Number, .str y_6.2.Text] : List C).drop 0)], .clo 143 0 [.elt (([.raw (.func (.func 154) #[] #[])] : List C).drop 0), .elt (([.int .i64 y_7.1.Source, .str y_7.1.Host, .int .i64 y_7.1.Machine, .int .i64 y_7.1.Day, .int .i64 y_7.1.Confidence, .int .i64 y_7.1.Kind, .str y_7.1.Subject, .int .i64 y_7.1.Use.Alg, .int .i64 y_7.1.Use.Bits, .int .i64 y_7.1.Number, .str y_7.1.Text] : List C).drop 0), .elt (([.int .i64 y_7.2.Source, .str y_7.2.Host, .int .i64 y_7.2.Machine, .int .i64 y_7.2.Day, .int .i64 y_7.2.Confidence, .int .i64 y_7.2.Kind, .str y_7.2.Subject, .int .i64 y_7.2.Use.Alg, .int .i64 y_7.2.Use.Bits, .int .i64 y_7.2.Number, .str y_7.2.Text] : List C).drop 0)], .clo 143 0 [.elt (([.raw (.func (.func 155) #[] #[])] : List C).drop 0), .elt (([.int .i64 y_8.1.Source, .str y_8.1.Host, .int .i64 y_8.1.Machine, .int .i64 y_8.1.Day, .int .i64 y_8.1.Confidence, .int .i64 y_8.1.Kind, .str y_8.1.Subject, .int .i64 y_8.1.Use.Alg, .int .i64 y_8.1.Use.Bits, .int .i64 y_8.1.Number, .str y_8.1.Text] : List C).drop 0), .elt (([.int .i64 y_8.2.Source, .str y_8.2.Host, .int .i64 y_8.2.Machine, .int .i64 y_8.2.Day, .int .i64 y_8.2.Confidence, .int .i64 y_8.2.Kind, .str y_8.2.Subject, .int .i64 y_8.2.Use.Alg, .int .i64 y_8.2.Use.Bits, .int .i64 y_8.2.Number, .str y_8.2.Text] : List C).drop 0)], .clo 146 0 [.elt (([.raw (.func (.func 156) #[] #[])] : List C).drop 0), .elt (([.int .i64 y_9.1.Source, .str y_9.1.Host, .int .i64 y_9.1.Machine, .int .i64 y_9.1.Day, .int .i64 y_9.1.Confidence, .int .i64 y_9.1.Kind, .str y_9.1.Subject, .int .i64 y_9.1.Use.Alg, .int .i64 y_9.1.Use.Bits, .int .i64 y_9.1.Number, .str y_9.1.Text] : List C).drop 0), .elt (([.int .i64 y_9.2.Source, .str y_9.2.Host, .int .i64 y_9.2.Machine, .int .i64 y_9.2.Day, .int .i64 y_9.2.Confidence, .int .i64 y_9.2.Kind, .str y_9.2.Subject, .int .i64 y_9.2.Use.Alg, .int .i64 y_9.2.Use.Bits, .int .i64 y_9.2.Number, .str y_9.2.Text] : List C).drop 0)], .clo 143 0 [.elt (([.raw (.func (.func 157) #[] #[])] : List C).drop 0), .elt (([.int .i64 y_10.1.Source, .str y_10.1.Host, .int .i64 y_10.1.Machine, .int .i64 y_10.1.Day, .int .i64 y_10.1.Confidence, .int .i64 y_10.1.Kind, .str y_10.1.Subject, .int .i64 y_10.1.Use.Alg, .int .i64 y_10.1.Use.Bits, .int .i64 y_10.1.Number, .str y_10.1.Text] : List C).drop 0), .elt (([.int .i64 y_10.2.Source, .str y_10.2.Host, .int .i64 y_10.2.Machine, .int .i64 y_10.2.Day, .int .i64 y_10.2.Confidence, .int .i64 y_10.2.Kind, .str y_10.2.Subject, .int .i64 y_10.2.Use.Alg, .int .i64 y_10.2.Use.Bits, .int .i64 y_10.2.Number, .str y_10.2.Text] : List C).drop 0)], .clo 143 0 [.elt (([.raw (.func (.func 158) #[] #[])] : List C).drop 0), .elt (([.int .i64 y_11.1.Source, .str y_11.1.Host, .int .i64 y_11.1.Machine, .int .i64 y_11.1.Day, .int .i64 y_11.1.Confidence, .int .i64 y_11.1.Kind, .str y_11.1.Subject, .int .i64 y_11.1.Use.Alg, .int .i64 y_11.1.Use.Bits, .int .i64 y_11.1.Number, .str y_11.1.Text] : List C).drop 0), .elt (([.int .i64 y_11.2.Source, .str y_11.2.Host, .int .i64 y_11.2.Machine, .int .i64 y_11.2.Day, .int .i64 y_11.2.Confidence, .int .i64 y_11.2.Kind, .str y_11.2.Subject, .int .i64 y_11.2.Use.Alg, .int .i64 y_11.2.Use.Bits, .int .i64 y_11.2.Number, .str y_11.2.Text] : List C).drop 0)]]) (pl := [(0, .clo 146 0 [.elt (([.raw (.func (.func 148) #[] #[])] : List C).drop 0), .elt (([.int .i64 y.1.Source, .str y.1.Host, .int .i64 y.1.Machine, .int .i64 y.1.Day, .int .i64 y.1.Confidence, .int .i64 y.1.Kind, .str y.1.Subject, .int .i64 y.1.Use.Alg, .int .i64 y.1.Use.Bits, .int .i64 y.1.Number, .str y.1.Text] : List C).drop 0), .elt (([.int .i64 y.2.Source, .str y.2.Host, .int .i64 y.2.Machine, .int .i64 y.2.Day, .int .i64 y.2.Confidence, .int .i64 y.2.Kind, .str y.2.Subject, .int .i64 y.2.Use.Alg, .int .i64 y.2.Use.Bits, .int .i64 y.2.Number, .str y.2.Text] : List C).drop 0)]), (1, .clo 143 0 [.elt (([.raw (.func (.func 149) #[] #[])] : List C).drop 0), .elt (([.int .i64 y_2.1.Source, .str y_2.1.Host, .int .i64 y_2.1.Machine, .int .i64 y_2.1.Day, .int .i64 y_2.1.Confidence, .int .i64 y_2.1.Kind, .str y_2.1.Subject, .int .i64 y_2.1.Use.Alg, .int .i64 y_2.1.Use.Bits, .int .i64 y_2.1.Number, .str y_2.1.Text] : List C).drop 0), .elt (([.int .i64 y_2.2.Source, .str y_2.2.Host, .int .i64 y_2.2.Machine, .int .i64 y_2.2.Day, .int .i64 y_2.2.Confidence, .int .i64 y_2.2.Kind, .str y_2.2.Subject, .int .i64 y_2.2.Use.Alg, .int .i64 y_2.2.Use.Bits, .int .i64 y_2.2.Number, .str y_2.2.Text] : List C).drop 0)]), (2, .clo 143 0 [.elt (([.raw (.func (.func 150) #[] #[])] : List C).drop 0), .elt (([.int .i64 y_3.1.Source, .str y_3.1.Host, .int .i64 y_3.1.Machine, .int .i64 y_3.1.Day, .int .i64 y_3.1.Confidence, .int .i64 y_3.1.Kind, .str y_3.1.Subject, .int .i64 y_3.1.Use.Alg, .int .i64 y_3.1.Use.Bits, .int .i64 y_3.1.Number, .str y_3.1.Text] : List C).drop 0), .elt (([.int .i64 y_3.2.Source, .str y_3.2.Host, .int .i64 y_3.2.Machine, .int .i64 y_3.2.Day, .int .i64 y_3.2.Confidence, .int .i64 y_3.2.Kind, .str y_3.2.Subject, .int .i64 y_3.2.Use.Alg, .int .i64 y_3.2.Use.Bits, .int .i64 y_3.2.Number, .str y_3.2.Text] : List C).drop 0)]), (3, .clo 146 0 [.elt (([.raw (.func (.func 151) #[] #[])] : List C).drop 0), .elt (([.int .i64 y_4.1.Source, .str y_4.1.Host, .int .i64 y_4.1.Machine, .int .i64 y_4.1.Day, .int .i64 y_4.1.Confidence, .int .i64 y_4.1.Kind, .str y_4.1.Subject, .int .i64 y_4.1.Use.Alg, .int .i64 y_4.1.Use.Bits, .int .i64 y_4.1.Number, .str y_4.1.Text] : List C).drop 0), .elt (([.int .i64 y_4.2.Source, .str y_4.2.Host, .int .i64 y_4.2.Machine, .int .i64 y_4.2.Day, .int .i64 y_4.2.Confidence, .int .i64 y_4.2.Kind, .str y_4.2.Subject, .int .i64 y_4.2.Use.Alg, .int .i64 y_4.2.Use.Bits, .int .i64 y_4.2.Number, .str y_4.2.Text] : List C).drop 0)]), (4, .clo 143 0 [.elt (([.raw (.func (.func 152) #[] #[])] : List C).drop 0), .elt (([.int .i64 y_5.1.Source, .str y_5.1.Host, .int .i64 y_5.1.Machine, .int .i64 y_5.1.Day, .int .i64 y_5.1.Confidence, .int .i64 y_5.1.Kind, .str y_5.1.Subject, .int .i64 y_5.1.Use.Alg, .int .i64 y_5.1.Use.Bits, .int .i64 y_5.1.Number, .str y_5.1.Text] : List C).drop 0), .elt (([.int .i64 y_5.2.Source, .str y_5.2.Host, .int .i64 y_5.2.Machine, .int .i64 y_5.2.Day, .int .i64 y_5.2.Confidence, .int .i64 y_5.2.Kind, .str y_5.2.Subject, .int .i64 y_5.2.Use.Alg, .int .i64 y_5.2.Use.Bits, .int .i64 y_5.2.Number, .str y_5.2.Text] : List C).drop 0)]), (5, .clo 143 0 [.elt (([.raw (.func (.func 153) #[] #[])] : List C).drop 0), .elt (([.int .i64 y_6.1.Source, .str y_6.1.Host, .int .i64 y_6.1.Machine, .int .i64 y_6.1.Day, .int .i64 y_6.1.Confidence, .int .i64 y_6.1.Kind, .str y_6.1.Subject, .int .i64 y_6.1.Use.Alg, .int .i64 y_6.1.Use.Bits, .int .i64 y_6.1.Number, .str y_6.1.Text] : List C).drop 0), .elt (([.int .i64 y_6.2.Source, .str y_6.2.Host, .int .i64 y_6.2.Machine, .int .i64 y_6.2.Day, .int .i64 y_6.2.Confidence, .int .i64 y_6.2.Kind, .str y_6.2.Subject, .int .i64 y_6.2.Use.Alg, .int .i64 y_6.2.Use.Bits, .int .i64 y_6.2.Number, .str y_6.2.Text] : List C).drop 0)]), (6, .clo 143 0 [.elt (([.raw (.func (.func 154) #[] #[])] : List C).drop 0), .elt (([.int .i64 y_7.1.Source, .str y_7.1.Host, .int .i64 y_7.1.Machine, .int .i64 y_7.1.Day, .int .i64 y_7.1.Confidence, .int .i64 y_7.1.Kind, .str y_7.1.Subject, .int .i64 y_7.1.Use.Alg, .int .i64 y_7.1.Use.Bits, .int .i64 y_7.1.Number, .str y_7.1.Text] : List C).drop 0), .elt (([.int .i64 y_7.2.Source, .str y_7.2.Host, .int .i64 y_7.2.Machine, .int .i64 y_7.2.Day, .int .i64 y_7.2.Confidence, .int .i64 y_7.2.Kind, .str y_7.2.Subject, .int .i64 y_7.2.Use.Alg, .int .i64 y_7.2.Use.Bits, .int .i64 y_7.2.Number, .str y_7.2.Text] : List C).drop 0)]), (7, .clo 143 0 [.elt (([.raw (.func (.func 155) #[] #[])] : List C).drop 0), .elt (([.int .i64 y_8.1.Source, .str y_8.1.Host, .int .i64 y_8.1.Machine, .int .i64 y_8.1.Day, .int .i64 y_8.1.Confidence, .int .i64 y_8.1.Kind, .str y_8.1.Subject, .int .i64 y_8.1.Use.Alg, .int .i64 y_8.1.Use.Bits, .int .i64 y_8.1.Number, .str y_8.1.Text] : List C).drop 0), .elt (([.int .i64 y_8.2.Source, .str y_8.2.Host, .int .i64 y_8.2.Machine, .int .i64 y_8.2.Day, .int .i64 y_8.2.Confidence, .int .i64 y_8.2.Kind, .str y_8.2.Subject, .int .i64 y_8.2.Use.Alg, .int .i64 y_8.2.Use.Bits, .int .i64 y_8.2.Number, .str y_8.2.Text] : List C).drop 0)]), (8, .clo 146 0 [.elt (([.raw (.func (.func 156) #[] #[])] : List C).drop 0), .elt (([.int .i64 y_9.1.Source, .str y_9.1.Host, .int .i64 y_9.1.Machine, .int .i64 y_9.1.Day, .int .i64 y_9.1.Confidence, .int .i64 y_9.1.Kind, .str y_9.1.Subject, .int .i64 y_9.1.Use.Alg, .int .i64 y_9.1.Use.Bits, .int .i64 y_9.1.Number, .str y_9.1.Text] : List C).drop 0), .elt (([.int .i64 y_9.2.Source, .str y_9.2.Host, .int .i64 y_9.2.Machine, .int .i64 y_9.2.Day, .int .i64 y_9.2.Confidence, .int .i64 y_9.2.Kind, .str y_9.2.Subject, .int .i64 y_9.2.Use.Alg, .int .i64 y_9.2.Use.Bits, .int .i64 y_9.2.Number, .str y_9.2.Text] : List C).drop 0)]), (9, .clo 143 0 [.elt (([.raw (.func (.func 157) #[] #[])] : List C).drop 0), .elt (([.int .i64 y_10.1.Source, .str y_10.1.Host, .int .i64 y_10.1.Machine, .int .i64 y_10.1.Day, .int .i64 y_10.1.Confidence, .int .i64 y_10.1.Kind, .str y_10.1.Subject, .int .i64 y_10.1.Use.Alg, .int .i64 y_10.1.Use.Bits, .int .i64 y_10.1.Number, .str y_10.1.Text] : List C).drop 0), .elt (([.int .i64 y_10.2.Source, .str y_10.2.Host, .int .i64 y_10.2.Machine, .int .i64 y_10.2.Day, .int .i64 y_10.2.Confidence, .int .i64 y_10.2.Kind, .str y_10.2.Subject, .int .i64 y_10.2.Use.Alg, .int .i64 y_10.2.Use.Bits, .int .i64 y_10.2.Number, .str y_10.2.Text] : List C).drop 0)])]) (pi := 10) N1 aCr (by decide) (by kernel_rfl) rfl (by decide) rfl) rfl rfl (fun _ => ⟨_, rfl⟩) ?_
 rintro _ rfl
 refine J0 (rd := [208]) rfl rfl (.lenV N1) rfl rfl (fun _ => ⟨_, rfl⟩) ?_
 rintro _ rfl
 refine Bq fun B => ?_
 refine Ar <| gH 13 ?_
 refine V4 ?_
 refine Bk 232 240 B fun B => ?_
 refine Ak <| Ii rfl (fun h => ?_) (fun h => ?_)
 refine Dd ?_
 refine Ak <| Ar <| B8 240 264 B ?_
 refine J0 (rd := [208]) rfl rfl (.idxV (j := 0) N1 rfl (Nat.le_of_ble_eq_true rfl)) rfl rfl (fun _ => ⟨_, rfl⟩) ?_
 rintro _ rfl
 refine J0 (rd := [208]) rfl rfl (.loadV Qa rfl) rfl rfl (fun _ => ⟨_, rfl⟩) ?_
 rintro _ rfl
 refine Bq fun B => ?_
 refine B8 264 288 B ?_
 refine A6 ?_
 obtain ⟨y_12, hy_12, G⟩ := Ac G
 refine B9 (rd := []) (ps := []) (gs := []) false rfl rfl (M9 _ _ _ hy_12) rfl rfl (.cons .elt (.cons .elt (.cons .elt .nil))) rfl rfl (by intro h; cases h) rfl rfl rfl rfl ?_
 refine Bq fun B => ?_
 refine Bk 288 304 B fun B => ?_
 refine C5 rfl G (fun h9 G => ?_) fun h9 G => ?_
 refine B8 304 320 B ?_
 exact C6
 refine Dd ?_
 refine An (Cj _ _ []) 304 320 B rfl rfl ?_
 refine Cr rfl rfl (Mr (z := 1) (by decide)) rfl rfl ?_
 refine Bq fun B => ?_
 refine V4 ?_
 refine Bk 320 328 B fun B => ?_
 refine Ak <| Ii rfl (fun h => ?_) (fun h => ?_)
 refine Dd ?_
 refine Ak <| Ar <| B8 328 352 B ?_
 refine J0 (rd := [208]) rfl rfl (.idxV (j := 1) N1 rfl (Nat.le_of_ble_eq_true rfl)) rfl rfl (fun _ => ⟨_, rfl⟩) ?_
 rintro _ rfl
 refine J0 (rd := [208]) rfl rfl (.loadV Qa rfl) rfl rfl (fun _ => ⟨_, rfl⟩) ?_
 rintro _ rfl
 refine Bq fun B => ?_
 refine B8 352 376 B ?_
 refine A6 ?_
 obtain ⟨y_13, hy_13, G⟩ := Ac G
 refine B9 (rd := []) (ps := []) (gs := []) false rfl rfl (M4 _ _ _ hy_13) rfl rfl (.cons .elt (.cons .elt (.cons .elt .nil))) rfl rfl (by intro h; cases h) rfl rfl rfl rfl ?_
 refine Bq fun B => ?_
 refine Bk 376 392 B fun B => ?_
 refine C5 rfl G (fun h16 G => ?_) fun h16 G => ?_
 refine B8 392 408 B ?_
 exact C6
 refine Dd ?_
 refine An (Cj _ _ []) 392 408 B rfl rfl ?_
 refine Cr rfl rfl (Mr (z := 2) (by decide)) rfl rfl ?_
 refine Bq fun B => ?_
 refine V4 ?_
 refine Bk 408 416 B fun B => ?_
 refine Ak <| Ii rfl (fun h => ?_) (fun h => ?_)
 refine Dd ?_
 refine Ak <| Ar <| B8 416 440 B ?_
 refine J0 (rd := [208]) rfl rfl (.idxV (j := 2) N1 rfl (Nat.le_of_ble_eq_true rfl)) rfl rfl (fun _ => ⟨_, rfl⟩) ?_
 rintro _ rfl
 refine J0 (rd := [208]) rfl rfl (.loadV Qa rfl) rfl rfl (fun _ => ⟨_, rfl⟩) ?_
 rintro _ rfl
 refine Bq fun B => ?_
 refine B8 440 464 B ?_
 refine A6 ?_
 obtain ⟨y_14, hy_14, G⟩ := Ac G
 refine B9 (rd := []) (ps := []) (gs := []) false rfl rfl (Nj _ _ _ hy_14) rfl rfl (.cons .elt (.cons .elt (.cons .elt .nil))) rfl rfl (by intro h; cases h) rfl rfl rfl rfl ?_
 refine Bq fun B => ?_
 refine Bk 464 480 B fun B => ?_
 refine C5 rfl G (fun h23 G => ?_) fun h23 G => ?_
 refine B8 480 496 B ?_
 exact C6
 refine Dd ?_
 refine An (Cj _ _ []) 480 496 B rfl rfl ?_
 refine Cr rfl rfl (Mr (z := 3) (by decide)) rfl rfl ?_
 refine Bq fun B => ?_
 refine V4 ?_
 refine Bk 496 504 B fun B => ?_
 refine Ak <| Ii rfl (fun h => ?_) (fun h => ?_)
 refine Dd ?_
 refine Ak <| Ar <| B8 504 528 B ?_
 refine J0 (rd := [208]) rfl rfl (.idxV (j := 3) N1 rfl (Nat.le_of_ble_eq_true rfl)) rfl rfl (fun _ => ⟨_, rfl⟩) ?_
 rintro _ rfl
 refine J0 (rd := [208]) rfl rfl (.loadV Qa rfl) rfl rfl (fun _ => ⟨_, rfl⟩) ?_
 rintro _ rfl
 refine Bq fun B => ?_
 refine B8 528 552 B ?_
 refine A6 ?_
 obtain ⟨y_15, hy_15, G⟩ := Ac G
 refine B9 (rd := []) (ps := []) (gs := []) false rfl rfl (Mq _ _ _ hy_15) rfl rfl (.cons .elt (.cons .elt (.cons .elt .nil))) rfl rfl (by intro h; cases h) rfl rfl rfl rfl ?_
 refine Bq fun B => ?_
 refine Bk 552 568 B fun B => ?_
 refine C5 rfl G (fun h30 G => ?_) fun h30 G => ?_
 refine B8 568 584 B ?_
 exact C6
 refine Dd ?_
 refine An (Cj _ _ []) 568 584 B rfl rfl ?_
 refine Cr rfl rfl (Mr (z := 4) (by decide)) rfl rfl ?_
 refine Bq fun B => ?_
 refine V4 ?_
 refine Bk 584 592 B fun B => ?_
 refine Ak <| Ii rfl (fun h => ?_) (fun h => ?_)
 refine Dd ?_
 refine Ak <| Ar <| B8 592 616 B ?_
 refine J0 (rd := [208]) rfl rfl (.idxV (j := 4) N1 rfl (Nat.le_of_ble_eq_true rfl)) rfl rfl (fun _ => ⟨_, rfl⟩) ?_
 rintro _ rfl
 refine J0 (rd := [208]) rfl rfl (.loadV Qa rfl) rfl rfl (fun _ => ⟨_, rfl⟩) ?_
 rintro _ rfl
 refine Bq fun B => ?_
 refine B8 616 640 B ?_
 refine A6 ?_
 obtain ⟨y_16, hy_16, G⟩ := Ac G
 refine B9 (rd := []) (ps := []) (gs := []) false rfl rfl (Nl _ _ _ hy_16) rfl rfl (.cons .elt (.cons .elt (.cons .elt .nil))) rfl rfl (by intro h; cases h) rfl rfl rfl rfl ?_
 refine Bq fun B => ?_
 refine Bk 640 656 B fun B => ?_
 refine C5 rfl G (fun h37 G => ?_) fun h37 G => ?_
 refine B8 656 672 B ?_
 exact C6
 refine Dd ?_
 refine An (Cj _ _ []) 656 672 B rfl rfl ?_
 refine Cr rfl rfl (Mr (z := 5) (by decide)) rfl rfl ?_
 refine Bq fun B => ?_
 refine V4 ?_
 refine Bk 672 680 B fun B => ?_
 refine Ak <| Ii rfl (fun h => ?_) (fun h => ?_)
 refine Dd ?_
 refine Ak <| Ar <| B8 680 704 B ?_
 refine J0 (rd := [208]) rfl rfl (.idxV (j := 5) N1 rfl (Nat.le_of_ble_eq_true rfl)) rfl rfl (fun _ => ⟨_, rfl⟩) ?_
 rintro _ rfl
 refine J0 (rd := [208]) rfl rfl (.loadV Qa rfl) rfl rfl (fun _ => ⟨_, rfl⟩) ?_
 rintro _ rfl
 refine Bq fun B => ?_
 refine B8 704 728 B ?_
 refine A6 ?_
 obtain ⟨y_17, hy_17, G⟩ := Ac G
 refine B9 (rd := []) (ps := []) (gs := []) false rfl rfl (Mv _ _ _ hy_17) rfl rfl (.cons .elt (.cons .elt (.cons .elt .nil))) rfl rfl (by intro h; cases h) rfl rfl rfl rfl ?_
 refine Bq fun B => ?_
 refine Bk 728 744 B fun B => ?_
 refine C5 rfl G (fun h44 G => ?_) fun h44 G => ?_
 refine B8 744 760 B ?_
 exact C6
 refine Dd ?_
 refine An (Cj _ _ []) 744 760 B rfl rfl ?_
 refine Cr rfl rfl (Mr (z := 6) (by decide)) rfl rfl ?_
 refine Bq fun B => ?_
 refine V4 ?_
 refine Bk 760 768 B fun B => ?_
 refine Ak <| Ii rfl (fun h => ?_) (fun h => ?_)
 refine Dd ?_
 refine Ak <| Ar <| B8 768 792 B ?_
 refine J0 (rd := [208]) rfl rfl (.idxV (j := 6) N1 rfl (Nat.le_of_ble_eq_true rfl)) rfl rfl (fun _ => ⟨_, rfl⟩) ?_
 rintro _ rfl
 refine J0 (rd := [208]) rfl rfl (.loadV Qa rfl) rfl rfl (fun _ => ⟨_, rfl⟩) ?_
 rintro _ rfl
 refine Bq fun B => ?_
 refine B8 792 816 B ?_
 refine A6 ?_
 obtain ⟨y_18, hy_18, G⟩ := Ac G
 refine B9 (rd := []) (ps := []) (gs := []) false rfl rfl (M2 _ _ _ hy_18) rfl rfl (.cons .elt (.cons .elt (.cons .elt .nil))) rfl rfl (by intro h; cases h) rfl rfl rfl rfl ?_
 refine Bq fun B => ?_
 refine Bk 816 832 B fun B => ?_
 refine C5 rfl G (fun h51 G => ?_) fun h51 G => ?_
 refine B8 832 848 B ?_
 exact C6
 refine Dd ?_
 refine An (Cj _ _ []) 832 848 B rfl rfl ?_
 refine Cr rfl rfl (Mr (z := 7) (by decide)) rfl rfl ?_
 refine Bq fun B => ?_
 refine V4 ?_
 refine Bk 848 856 B fun B => ?_
 refine Ak <| Ii rfl (fun h => ?_) (fun h => ?_)
 refine Dd ?_
 refine Ak <| Ar <| B8 856 880 B ?_
 refine J0 (rd := [208]) rfl rfl (.idxV (j := 7) N1 rfl (Nat.le_of_ble_eq_true rfl)) rfl rfl (fun _ => ⟨_, rfl⟩) ?_
 rintro _ rfl
 refine J0 (rd := [208]) rfl rfl (.loadV Qa rfl) rfl rfl (fun _ => ⟨_, rfl⟩) ?_
 rintro _ rfl
 refine Bq fun B => ?_
 refine B8 880 904 B ?_
 refine A6 ?_
 obtain ⟨y_19, hy_19, G⟩ := Ac G
 refine B9 (rd := []) (ps := []) (gs := []) false rfl rfl (Mt _ _ _ hy_19) rfl rfl (.cons .elt (.cons .elt (.cons .elt .nil))) rfl rfl (by intro h; cases h) rfl rfl rfl rfl ?_
 refine Bq fun B => ?_
 refine Bk 904 920 B fun B => ?_
 refine C5 rfl G (fun h58 G => ?_) fun h58 G => ?_
 refine B8 920 936 B ?_
 exact C6
 refine Dd ?_
 refine An (Cj _ _ []) 920 936 B rfl rfl ?_
 refine Cr rfl rfl (Mr (z := 8) (by decide)) rfl rfl ?_
 refine Bq fun B => ?_
 refine V4 ?_
 refine Bk 936 944 B fun B => ?_
 refine Ak <| Ii rfl (fun h => ?_) (fun h => ?_)
 refine Dd ?_
 refine Ak <| Ar <| B8 944 968 B ?_
 refine J0 (rd := [208]) rfl rfl (.idxV (j := 8) N1 rfl (Nat.le_of_ble_eq_true rfl)) rfl rfl (fun _ => ⟨_, rfl⟩) ?_
 rintro _ rfl
 refine J0 (rd := [208]) rfl rfl (.loadV Qa rfl) rfl rfl (fun _ => ⟨_, rfl⟩) ?_
 rintro _ rfl
 refine Bq fun B => ?_
 refine B8 968 992 B ?_
 refine A6 ?_
 obtain ⟨y_20, hy_20, G⟩ := Ac G
 refine B9 (rd := []) (ps := []) (gs := []) false rfl rfl (Mu _ _ _ hy_20) rfl rfl (.cons .elt (.cons .elt (.cons .elt .nil))) rfl rfl (by intro h; cases h) rfl rfl rfl rfl ?_
 refine Bq fun B => ?_
 refine Bk 992 1008 B fun B => ?_
 refine C5 rfl G (fun h65 G => ?_) fun h65 G => ?_
 refine B8 1008 1024 B ?_
 exact C6
 refine Dd ?_
 refine An (Cj _ _ []) 1008 1024 B rfl rfl ?_
 refine Cr rfl rfl (Mr (z := 9) (by decide)) rfl rfl ?_
 refine Bq fun B => ?_
 refine V4 ?_
 refine Bk 1024 1032 B fun B => ?_
 refine Ak <| Ii rfl (fun h => ?_) (fun h => ?_)
 refine Dd ?_
 refine Ak <| Ar <| B8 1032 1056 B ?_
 refine J0 (rd := [208]) rfl rfl (.idxV (j := 9) N1 rfl (Nat.le_of_ble_eq_true rfl)) rfl rfl (fun _ => ⟨_, rfl⟩) ?_
 rintro _ rfl
 refine J0 (rd := [208]) rfl rfl (.loadV Qa rfl) rfl rfl (fun _ => ⟨_, rfl⟩) ?_
 rintro _ rfl
 refine Bq fun B => ?_
 refine B8 1056 1080 B ?_
 refine A6 ?_
 obtain ⟨y_21, hy_21, G⟩ := Ac G
 refine B9 (rd := []) (ps := []) (gs := []) false rfl rfl (Nr _ _ _ hy_21) rfl rfl (.cons .elt (.cons .elt (.cons .elt .nil))) rfl rfl (by intro h; cases h) rfl rfl rfl rfl ?_
 refine Bq fun B => ?_
 refine Bk 1080 1096 B fun B => ?_
 refine C5 rfl G (fun h72 G => ?_) fun h72 G => ?_
 refine B8 1096 1112 B ?_
 exact C6
 refine Dd ?_
 refine An (Cj _ _ []) 1096 1112 B rfl rfl ?_
 refine Cr rfl rfl (Mr (z := 10) (by decide)) rfl rfl ?_
 refine Bq fun B => ?_
 refine V4 ?_
 refine Bk 1112 1120 B fun B => ?_
 refine Ak <| Ii rfl (fun h => ?_) (fun h => ?_)
 refine Dd ?_
 refine Ak <| Ar <| B8 1120 1144 B ?_
 refine J0 (rd := [208]) rfl rfl (.idxV (j := 10) N1 rfl (Nat.le_of_ble_eq_true rfl)) rfl rfl (fun _ => ⟨_, rfl⟩) ?_
 rintro _ rfl
 refine J0 (rd := [208]) rfl rfl (.loadV Qa rfl) rfl rfl (fun _ => ⟨_, rfl⟩) ?_
 rintro _ rfl
 refine Bq fun B => ?_
 refine B8 1144 1168 B ?_
 refine A6 ?_
 obtain ⟨y_22, hy_22, G⟩ := Ac G
 refine B9 (rd := []) (ps := []) (gs := []) false rfl rfl (Mw _ _ _ hy_22) rfl rfl (.cons .elt (.cons .elt (.cons .elt .nil))) rfl rfl (by intro h; cases h) rfl rfl rfl rfl ?_
 refine Bq fun B => ?_
 refine Bk 1168 1184 B fun B => ?_
 refine C5 rfl G (fun h79 G => ?_) fun h79 G => ?_
 refine B8 1184 1200 B ?_
 exact C6
 refine Dd ?_
 refine An (Cj _ _ []) 1184 1200 B rfl rfl ?_
 refine Cr rfl rfl (Mr (z := 11) (by decide)) rfl rfl ?_
 refine Bq fun B => ?_
 refine V4 ?_
 refine Bk 1200 1208 B fun B => ?_
 refine Ak <| Ii rfl (fun h => ?_) (fun h => ?_)
 exact absurd h (by first | decide | exact fun h => nomatch (show false = true from h) | exact fun h => nomatch (show true = false from h))
 refine Ju ?_
 refine Bk 1208 1216 B fun B => ?_
 exact Lz
 exact absurd h (by first | decide | exact fun h => nomatch (show false = true from h) | exact fun h => nomatch (show true = false from h))
 exact absurd h (by first | decide | exact fun h => nomatch (show false = true from h) | exact fun h => nomatch (show true = false from h))
 exact absurd h (by first | decide | exact fun h => nomatch (show false = true from h) | exact fun h => nomatch (show true = false from h))
 exact absurd h (by first | decide | exact fun h => nomatch (show false = true from h) | exact fun h => nomatch (show true = false from h))
 exact absurd h (by first | decide | exact fun h => nomatch (show false = true from h) | exact fun h => nomatch (show true = false from h))
 exact absurd h (by first | decide | exact fun h => nomatch (show false = true from h) | exact fun h => nomatch (show true = false from h))
 exact absurd h (by first | decide | exact fun h => nomatch (show false = true from h) | exact fun h => nomatch (show true = false from h))
 exact absurd h (by first | decide | exact fun h => nomatch (show false = true from h) | exact fun h => nomatch (show true = false from h))
 exact absurd h (by first | decide | exact fun h => nomatch (show false = true from h) | exact fun h => nomatch (show true = false from h))
 exact absurd h (by first | decide | exact fun h => nomatch (show false = true from h) | exact fun h => nomatch (show true = false from h))
 exact absurd h (by first | decide | exact fun h => nomatch (show false = true from h) | exact fun h => nomatch (show true = false from h))
end Go.Proofs.YtkoflhimdenjaaaGreat
