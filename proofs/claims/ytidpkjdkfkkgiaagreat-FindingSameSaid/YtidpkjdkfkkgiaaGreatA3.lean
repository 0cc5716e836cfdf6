import Derived.Test.YtidpkjdkfkkgiaaGreatT1
import Derived.Test.YtidpkjdkfkkgiaaGreatA2
set_option linter.unusedVariables false
set_option linter.unusedSimpArgs false
set_option maxRecDepth 100000
set_option maxHeartbeats 40000000
namespace Go.Proofs.YtidpkjdkfkkgiaaGreat
open Go.RowKit
theorem Pw (c0 : Aa) (c1 : Aa) (r : (Aa × Aa)) (G : G3 c0 c1 = some r) : Fn Tryz.prog 96 0 [.val (.func (.func 112) #[] #[]), .elt (([.int .i64 c0.Source, .str c0.Host, .int .i64 c0.Machine, .int .i64 c0.Day, .int .i64 c0.Confidence, .int .i64 c0.Kind, .str c0.Subject, .int .i64 c0.Use.Alg, .int .i64 c0.Use.Bits, .int .i64 c0.Number, .str c0.Text] : List C).drop 0), .elt (([.int .i64 c1.Source, .str c1.Host, .int .i64 c1.Machine, .int .i64 c1.Day, .int .i64 c1.Confidence, .int .i64 c1.Kind, .str c1.Subject, .int .i64 c1.Use.Alg, .int .i64 c1.Use.Bits, .int .i64 c1.Number, .str c1.Text] : List C).drop 0)] [] (fun d' b' => d' = .clo 97 0 [.elt (([.raw (.func (.func 112) #[] #[])] : List C).drop 0), .elt (([.int .i64 r.1.Source, .str r.1.Host, .int .i64 r.1.Machine, .int .i64 r.1.Day, .int .i64 r.1.Confidence, .int .i64 r.1.Kind, .str r.1.Subject, .int .i64 r.1.Use.Alg, .int .i64 r.1.Use.Bits, .int .i64 r.1.Number, .str r.1.Text] : List C).drop 0), .elt (([.int .i64 r.2.Source, .str r.2.Host, .int .i64 r.2.Machine, .int .i64 r.2.Day, .int .i64 r.2.Confidence, .int .i64 r.2.Kind, .str r.2.Subject, .int .i64 r.2.Use.Alg, .int .i64 r.2.Use.Bits, .int .i64 r.2.Number, .str r.2.Text] : List C).drop 0)] /\ b' = []) := by
 unfold G3 at G
 refine Fn.of Tryz.func96 rfl rfl rfl fun w0 I ρ0 => ?_
 show B2 _ ⟨w0, I, ρ0, 0, 0, 6⟩ _ _ _
 refine Bh 0 16 A5 fun B => ?_
 refine Aj <| E3 (σ' := mk [(1, .elt (([.int .i64 c0.Source, .str c0.Host, .int .i64 c0.Machine, .int .i64 c0.Day, .int .i64 c0.Confidence, .int .i64 c0.Kind, .str c0.Subject, .int .i64 c0.Use.Alg, .int .i64 c0.Use.Bits, .int .i64 c0.Number, .str c0.Text] : List C).drop 0)), (2, .elt (([.int .i64 c1.Source, .str c1.Host, .int .i64 c1.Machine, .int .i64 c1.Day, .int .i64 c1.Confidence, .int .i64 c1.Kind, .str c1.Subject, .int .i64 c1.Use.Alg, .int .i64 c1.Use.Bits, .int .i64 c1.Number, .str c1.Text] : List C).drop 0)), (3, .elt (([.raw (.func (.func 112) #[] #[])] : List C).drop 0))] [] 0) ((by exact P3.lists [] rfl rfl ⟨⟨_, rfl, .elt _⟩, ⟨_, rfl, .elt _⟩, ⟨_, rfl, .frzb (ks := [none]) rfl (.cons .func .nil) (Fq rfl)⟩, trivial⟩ trivial)) ?_
 refine Ak (B8 _ _ []) 0 16 A5 rfl rfl ?_
 exact De
theorem Nd (f : Aa) (r : ByteArray) (G : Hu f = some r) : Fn Tryz.prog 102 0 [.agg (Aa.dv f)] [] (fun d' b' => d' = ws r /\ b' = []) := by
 unfold Hu at G
 refine Fn.of Tryz.func102 rfl rfl rfl fun w0 I ρ0 => ?_
 show B2 _ ⟨w0, I, ρ0, 0, 0, 5⟩ _ _ _
 refine Bh 0 16 A5 fun B => ?_
 refine Bh 16 40 B fun B => ?_
 exact La
theorem Kx (a : ByteArray) (b : ByteArray) (r : Int) (G : E0 a b = some r) : Fn Tryz.prog 142 0 [ws a, ws b] [] (fun d' b' => d' = vk r /\ b' = []) := by
 unfold E0 at G
 refine Fn.of Tryz.func142 rfl rfl rfl fun w0 I ρ0 => ?_
 show B2 _ ⟨w0, I, ρ0, 0, 0, 8⟩ _ _ _
 refine Bh 0 8 A5 fun B => ?_
 refine B9 8 40 B ?_
 refine Aw ?_
 refine Lf (rd := []) rfl rfl (.extV rfl uP (aE4 a b)) rfl rfl (fun _ => ⟨_, rfl⟩) ?_
 rintro _ rfl
 exact De
theorem Kv (a : ByteArray) (b : ByteArray) (r : Int) (G : Fs a b = some r) : Fn Tryz.prog 101 0 [ws a, ws b] [] (fun d' b' => d' = vk r /\ b' = []) := by
 unfold Fs at G
 refine Fn.of Tryz.func101 rfl rfl rfl fun w0 I ρ0 => ?_
 show B2 _ ⟨w0, I, ρ0, 0, 0, 8⟩ _ _ _
 refine Bh 0 8 A5 fun B => ?_
 refine B9 8 40 B ?_
 refine Aw ?_
 obtain ⟨y, hy, G⟩ := Ab G
 refine Do (Kx _ _ _ hy) ?_
 exact De
theorem Oa (c1 : Aa) (c2 : Aa) (r : Int) (G : Ft c1 c2 = some r) : Fn Tryz.prog 100 0 [.elt (([.raw (.func (.func 102) #[] #[])] : List C).drop 0), .elt (([.int .i64 c1.Source, .str c1.Host, .int .i64 c1.Machine, .int .i64 c1.Day, .int .i64 c1.Confidence, .int .i64 c1.Kind, .str c1.Subject, .int .i64 c1.Use.Alg, .int .i64 c1.Use.Bits, .int .i64 c1.Number, .str c1.Text] : List C).drop 0), .elt (([.int .i64 c2.Source, .str c2.Host, .int .i64 c2.Machine, .int .i64 c2.Day, .int .i64 c2.Confidence, .int .i64 c2.Kind, .str c2.Subject, .int .i64 c2.Use.Alg, .int .i64 c2.Use.Bits, .int .i64 c2.Number, .str c2.Text] : List C).drop 0)] [] (fun d' b' => d' = vk r /\ b' = []) := by
 unfold Ft at G
 refine Fn.of Tryz.func100 rfl rfl rfl fun w0 I ρ0 => ?_
 show B2 _ ⟨w0, I, ρ0, 0, 0, 11⟩ _ _ _
 refine Bh 0 8 A5 fun B => ?_
 refine Aj <| Bq (B8 _ _ []) (by kernel_rfl) [0, 0, 3, 0, 0, 31, 63, 127] 8 72 B rfl rfl (by kernel_rfl) ?_
 refine C0 rfl rfl (Dy X2 (c := .raw (.func (.func 102) #[] #[])) rfl) rfl rfl ?_
 refine C0 rfl rfl (Eb L4 (cs2 := [.int .i64 c1.Source, .str c1.Host, .int .i64 c1.Machine, .int .i64 c1.Day, .int .i64 c1.Confidence, .int .i64 c1.Kind, .str c1.Subject, .int .i64 c1.Use.Alg, .int .i64 c1.Use.Bits, .int .i64 c1.Number, .str c1.Text]) rfl (Nat.le_of_ble_eq_true rfl)) rfl rfl ?_
 obtain ⟨y, hy, G⟩ := Ab G
 refine D2 (rd := []) (ps := []) (gs := []) false rfl rfl (Nd _ _ hy) rfl rfl (.cons (.agg (.cons .val (.cons .val (.cons .val (.cons .val (.cons .val (.cons .val (.cons .val (.cons .val (.cons .val (.cons .val (.cons .val .nil)))))))))))) .nil) rfl rfl (by intro h; cases h) rfl rfl rfl rfl ?_
 refine C0 rfl rfl (Dy X2 (c := .raw (.func (.func 102) #[] #[])) rfl) rfl rfl ?_
 refine C0 rfl rfl (Eb L4 (cs2 := [.int .i64 c2.Source, .str c2.Host, .int .i64 c2.Machine, .int .i64 c2.Day, .int .i64 c2.Confidence, .int .i64 c2.Kind, .str c2.Subject, .int .i64 c2.Use.Alg, .int .i64 c2.Use.Bits, .int .i64 c2.Number, .str c2.Text]) rfl (Nat.le_of_ble_eq_true rfl)) rfl rfl ?_
 obtain ⟨y_2, hy_2, G⟩ := Ab G
 refine D2 (rd := []) (ps := []) (gs := []) false rfl rfl (Nd _ _ hy_2) rfl rfl (.cons (.agg (.cons .val (.cons .val (.cons .val (.cons .val (.cons .val (.cons .val (.cons .val (.cons .val (.cons .val (.cons .val (.cons .val .nil)))))))))))) .nil) rfl rfl (by intro h; cases h) rfl rfl rfl rfl ?_
 obtain ⟨y_3, hy_3, G⟩ := Ab G
 refine Do (Kv _ _ _ hy_3) ?_
 exact De
theorem Nk (f : Aa) (r : Int) (G : H1 f = some r) : Fn Tryz.prog 103 0 [.agg (Aa.dv f)] [] (fun d' b' => d' = vk r /\ b' = []) := by
 unfold H1 at G
 refine Fn.of Tryz.func103 rfl rfl rfl fun w0 I ρ0 => ?_
 show B2 _ ⟨w0, I, ρ0, 0, 0, 5⟩ _ _ _
 refine Bh 0 16 A5 fun B => ?_
 refine Bh 16 40 B fun B => ?_
 exact La
theorem Qw (x' : Int) (r : Bool) (G : I3 x' = some r) : Fn Tryz.prog 141 0 [vk x'] [] (fun d' b' => d' = .val (.bool r) /\ b' = []) := by
 unfold I3 at G
 refine Fn.of Tryz.func141 rfl rfl rfl fun w0 I ρ0 => ?_
 show B2 _ ⟨w0, I, ρ0, 0, 0, 6⟩ _ _ _
 refine Bh 0 8 A5 fun B => ?_
 refine Bh 8 40 B fun B => ?_
 exact La
theorem E7 (x' : Int) (y : Int) (r : Int) (G : Dv x' y = some r) : Fn Tryz.prog 98 0 [vk x', vk y] [] (fun d' b' => d' = vk r /\ b' = []) := by
 unfold Dv at G
 refine Fn.of Tryz.func98 rfl rfl rfl fun w0 I ρ0 => ?_
 show B2 _ ⟨w0, I, ρ0, 0, 0, 20⟩ _ _ _
 refine Bh 0 8 A5 fun B => ?_
 refine B9 8 32 B ?_
 refine Aw ?_
 obtain ⟨y_2, hy_2, G⟩ := Ab G
 refine Do (Qw _ _ hy_2) ?_
 refine Bj fun B => ?_
 refine B9 32 56 B ?_
 refine Aw ?_
 obtain ⟨y_3, hy_3, G⟩ := Ab G
 refine Do (Qw _ _ hy_3) ?_
 refine Bj fun B => ?_
 refine Aj <| Bh 56 64 B fun B => ?_
 refine C4 rfl G (fun h5 G => ?_) fun h5 G => ?_
 refine Aj <| Bh 64 72 B fun B => ?_
 refine C4 rfl G (fun h7 G => ?_) fun h7 G => ?_
 refine B9 72 80 B ?_
 exact De
 refine Dg ?_
 refine Bh 72 80 B fun B => ?_
 exact La
 refine Dg ?_
 refine Aj <| Bh 64 72 B fun B => ?_
 refine C4 rfl G (fun h11 G => ?_) fun h11 G => ?_
 refine B9 72 80 B ?_
 exact De
 refine Dg ?_
 refine Aj <| Bh 72 96 B fun B => ?_
 refine C4 rfl G (fun h14 G => ?_) fun h14 G => ?_
 refine B9 96 104 B ?_
 exact De
 refine Dg ?_
 refine Aj <| Bh 96 120 B fun B => ?_
 refine C4 rfl G (fun h17 G => ?_) fun h17 G => ?_
 refine B9 120 128 B ?_
 exact De
 refine Dg ?_
 refine Bh 120 128 B fun B => ?_
 exact La
theorem Ns (c1 : Aa) (c2 : Aa) (r : Int) (G : Fw c1 c2 = some r) : Fn Tryz.prog 97 0 [.elt (([.raw (.func (.func 103) #[] #[])] : List C).drop 0), .elt (([.int .i64 c1.Source, .str c1.Host, .int .i64 c1.Machine, .int .i64 c1.Day, .int .i64 c1.Confidence, .int .i64 c1.Kind, .str c1.Subject, .int .i64 c1.Use.Alg, .int .i64 c1.Use.Bits, .int .i64 c1.Number, .str c1.Text] : List C).drop 0), .elt (([.int .i64 c2.Source, .str c2.Host, .int .i64 c2.Machine, .int .i64 c2.Day, .int .i64 c2.Confidence, .int .i64 c2.Kind, .str c2.Subject, .int .i64 c2.Use.Alg, .int .i64 c2.Use.Bits, .int .i64 c2.Number, .str c2.Text] : List C).drop 0)] [] (fun d' b' => d' = vk r /\ b' = []) := by
 unfold Fw at G
 refine Fn.of Tryz.func97 rfl rfl rfl fun w0 I ρ0 => ?_
 show B2 _ ⟨w0, I, ρ0, 0, 0, 11⟩ _ _ _
 refine Bh 0 8 A5 fun B => ?_
 refine Aj <| Bq (B8 _ _ []) (by kernel_rfl) [0, 0, 3, 0, 0, 31, 63, 127] 8 72 B rfl rfl (by kernel_rfl) ?_
 refine C0 rfl rfl (Dy Lz (c := .raw (.func (.func 103) #[] #[])) rfl) rfl rfl ?_
 refine C0 rfl rfl (Eb L4 (cs2 := [.int .i64 c1.Source, .str c1.Host, .int .i64 c1.Machine, .int .i64 c1.Day, .int .i64 c1.Confidence, .int .i64 c1.Kind, .str c1.Subject, .int .i64 c1.Use.Alg, .int .i64 c1.Use.Bits, .int .i64 c1.Number, .str c1.Text]) rfl (Nat.le_of_ble_eq_true rfl)) rfl rfl ?_
 obtain ⟨y, hy, G⟩ := Ab G
 refine D2 (rd := []) (ps := []) (gs := []) false rfl rfl (Nk _ _ hy) rfl rfl (.cons (.agg (.cons .val (.cons .val (.cons .val (.cons .val (.cons .val (.cons .val (.cons .val (.cons .val (.cons .val (.cons .val (.cons .val .nil)))))))))))) .nil) rfl rfl (by intro h; cases h) rfl rfl rfl rfl ?_
 refine C0 rfl rfl (Dy Lz (c := .raw (.func (.func 103) #[] #[])) rfl) rfl rfl ?_
 refine C0 rfl rfl (Eb L4 (cs2 := [.int .i64 c2.Source, .str c2.Host, .int .i64 c2.Machine, .int .i64 c2.Day, .int .i64 c2.Confidence, .int .i64 c2.Kind, .str c2.Subject, .int .i64 c2.Use.Alg, .int .i64 c2.Use.Bits, .int .i64 c2.Number, .str c2.Text]) rfl (Nat.le_of_ble_eq_true rfl)) rfl rfl ?_
 obtain ⟨y_2, hy_2, G⟩ := Ab G
 refine D2 (rd := []) (ps := []) (gs := []) false rfl rfl (Nk _ _ hy_2) rfl rfl (.cons (.agg (.cons .val (.cons .val (.cons .val (.cons .val (.cons .val (.cons .val (.cons .val (.cons .val (.cons .val (.cons .val (.cons .val .nil)))))))))))) .nil) rfl rfl (by intro h; cases h) rfl rfl rfl rfl ?_
 obtain ⟨y_3, hy_3, G⟩ := Ab G
 refine Do (E7 _ _ _ hy_3) ?_
 exact De
theorem Nj (f : Aa) (r : Int) (G : Hz f = some r) : Fn Tryz.prog 104 0 [.agg (Aa.dv f)] [] (fun d' b' => d' = vk r /\ b' = []) := by
 unfold Hz at G
 refine Fn.of Tryz.func104 rfl rfl rfl fun w0 I ρ0 => ?_
 show B2 _ ⟨w0, I, ρ0, 0, 0, 5⟩ _ _ _
 refine Bh 0 16 A5 fun B => ?_
 refine Bh 16 40 B fun B => ?_
 exact La
theorem Nf (c1 : Aa) (c2 : Aa) (r : Int) (G : Fv c1 c2 = some r) : Fn Tryz.prog 97 0 [.elt (([.raw (.func (.func 104) #[] #[])] : List C).drop 0), .elt (([.int .i64 c1.Source, .str c1.Host, .int .i64 c1.Machine, .int .i64 c1.Day, .int .i64 c1.Confidence, .int .i64 c1.Kind, .str c1.Subject, .int .i64 c1.Use.Alg, .int .i64 c1.Use.Bits, .int .i64 c1.Number, .str c1.Text] : List C).drop 0), .elt (([.int .i64 c2.Source, .str c2.Host, .int .i64 c2.Machine, .int .i64 c2.Day, .int .i64 c2.Confidence, .int .i64 c2.Kind, .str c2.Subject, .int .i64 c2.Use.Alg, .int .i64 c2.Use.Bits, .int .i64 c2.Number, .str c2.Text] : List C).drop 0)] [] (fun d' b' => d' = vk r /\ b' = []) := by
 unfold Fv at G
 refine Fn.of Tryz.func97 rfl rfl rfl fun w0 I ρ0 => ?_
 show B2 _ ⟨w0, I, ρ0, 0, 0, 11⟩ _ _ _
 refine Bh 0 8 A5 fun B => ?_
 refine Aj <| Bq (B8 _ _ []) (by kernel_rfl) [0, 0, 3, 0, 0, 31, 63, 127] 8 72 B rfl rfl (by kernel_rfl) ?_
 refine C0 rfl rfl (Dy Lz (c := .raw (.func (.func 104) #[] #[])) rfl) rfl rfl ?_
 refine C0 rfl rfl (Eb L4 (cs2 := [.int .i64 c1.Source, .str c1.Host, .int .i64 c1.Machine, .int .i64 c1.Day, .int .i64 c1.Confidence, .int .i64 c1.Kind, .str c1.Subject, .int .i64 c1.Use.Alg, .int .i64 c1.Use.Bits, .int .i64 c1.Number, .str c1.Text]) rfl (Nat.le_of_ble_eq_true rfl)) rfl rfl ?_
 obtain ⟨y, hy, G⟩ := Ab G
 refine D2 (rd := []) (ps := []) (gs := []) false rfl rfl (Nj _ _ hy) rfl rfl (.cons (.agg (.cons .val (.cons .val (.cons .val (.cons .val (.cons .val (.cons .val (.cons .val (.cons .val (.cons .val (.cons .val (.cons .val .nil)))))))))))) .nil) rfl rfl (by intro h; cases h) rfl rfl rfl rfl ?_
 refine C0 rfl rfl (Dy Lz (c := .raw (.func (.func 104) #[] #[])) rfl) rfl rfl ?_
 refine C0 rfl rfl (Eb L4 (cs2 := [.int .i64 c2.Source, .str c2.Host, .int .i64 c2.Machine, .int .i64 c2.Day, .int .i64 c2.Confidence, .int .i64 c2.Kind, .str c2.Subject, .int .i64 c2.Use.Alg, .int .i64 c2.Use.Bits, .int .i64 c2.Number, .str c2.Text]) rfl (Nat.le_of_ble_eq_true rfl)) rfl rfl ?_
 obtain ⟨y_2, hy_2, G⟩ := Ab G
 refine D2 (rd := []) (ps := []) (gs := []) false rfl rfl (Nj _ _ hy_2) rfl rfl (.cons (.agg (.cons .val (.cons .val (.cons .val (.cons .val (.cons .val (.cons .val (.cons .val (.cons .val (.cons .val (.cons .val (.cons .val .nil)))))))))))) .nil) rfl rfl (by intro h; cases h) rfl rfl rfl rfl ?_
 obtain ⟨y_3, hy_3, G⟩ := Ab G
 refine Do (E7 _ _ _ hy_3) ?_
 exact De
theorem Nc (f : Aa) (r : ByteArray) (G : H3 f = some r) : Fn Tryz.prog 105 0 [.agg (Aa.dv f)] [] (fun d' b' => d' = ws r /\ b' = []) := by
 unfold H3 at G
 refine Fn.of Tryz.func105 rfl rfl rfl fun w0 I ρ0 => ?_
 show B2 _ ⟨w0, I, ρ0, 0, 0, 5⟩ _ _ _
 refine Bh 0 16 A5 fun B => ?_
 refine Bh 16 40 B fun B => ?_
 exact La
theorem Ng (c1 : Aa) (c2 : Aa) (r : Int) (G : F9 c1 c2 = some r) : Fn Tryz.prog 100 0 [.elt (([.raw (.func (.func 105) #[] #[])] : List C).drop 0), .elt (([.int .i64 c1.Source, .str c1.Host, .int .i64 c1.Machine, .int .i64 c1.Day, .int .i64 c1.Confidence, .int .i64 c1.Kind, .str c1.Subject, .int .i64 c1.Use.Alg, .int .i64 c1.Use.Bits, .int .i64 c1.Number, .str c1.Text] : List C).drop 0), .elt (([.int .i64 c2.Source, .str c2.Host, .int .i64 c2.Machine, .int .i64 c2.Day, .int .i64 c2.Confidence, .int .i64 c2.Kind, .str c2.Subject, .int .i64 c2.Use.Alg, .int .i64 c2.Use.Bits, .int .i64 c2.Number, .str c2.Text] : List C).drop 0)] [] (fun d' b' => d' = vk r /\ b' = []) := by
 unfold F9 at G
 refine Fn.of Tryz.func100 rfl rfl rfl fun w0 I ρ0 => ?_
 show B2 _ ⟨w0, I, ρ0, 0, 0, 11⟩ _ _ _
 refine Bh 0 8 A5 fun B => ?_
 refine Aj <| Bq (B8 _ _ []) (by kernel_rfl) [0, 0, 3, 0, 0, 31, 63, 127] 8 72 B rfl rfl (by kernel_rfl) ?_
 refine C0 rfl rfl (Dy X2 (c := .raw (.func (.func 105) #[] #[])) rfl) rfl rfl ?_
 refine C0 rfl rfl (Eb L4 (cs2 := [.int .i64 c1.Source, .str c1.Host, .int .i64 c1.Machine, .int .i64 c1.Day, .int .i64 c1.Confidence, .int .i64 c1.Kind, .str c1.Subject, .int .i64 c1.Use.Alg, .int .i64 c1.Use.Bits, .int .i64 c1.Number, .str c1.Text]) rfl (Nat.le_of_ble_eq_true rfl)) rfl rfl ?_
 obtain ⟨y, hy, G⟩ := Ab G
 refine D2 (rd := []) (ps := []) (gs := []) false rfl rfl (Nc _ _ hy) rfl rfl (.cons (.agg (.cons .val (.cons .val (.cons .val (.cons .val (.cons .val (.cons .val (.cons .val (.cons .val (.cons .val (.cons .val (.cons .val .nil)))))))))))) .nil) rfl rfl (by intro h; cases h) rfl rfl rfl rfl ?_
 refine C0 rfl rfl (Dy X2 (c := .raw (.func (.func 105) #[] #[])) rfl) rfl rfl ?_
 refine C0 rfl rfl (Eb L4 (cs2 := [.int .i64 c2.Source, .str c2.Host, .int .i64 c2.Machine, .int .i64 c2.Day, .int .i64 c2.Confidence, .int .i64 c2.Kind, .str c2.Subject, .int .i64 c2.Use.Alg, .int .i64 c2.Use.Bits, .int .i64 c2.Number, .str c2.Text]) rfl (Nat.le_of_ble_eq_true rfl)) rfl rfl ?_
 obtain ⟨y_2, hy_2, G⟩ := Ab G
 refine D2 (rd := []) (ps := []) (gs := []) false rfl rfl (Nc _ _ hy_2) rfl rfl (.cons (.agg (.cons .val (.cons .val (.cons .val (.cons .val (.cons .val (.cons .val (.cons .val (.cons .val (.cons .val (.cons .val (.cons .val .nil)))))))))))) .nil) rfl rfl (by intro h; cases h) rfl rfl rfl rfl ?_
 obtain ⟨y_3, hy_3, G⟩ := Ab G
 refine Do (Kv _ _ _ hy_3) ?_
 exact De
theorem Nl (f : Aa) (r : Int) (G : Hw f = some r) : Fn Tryz.prog 106 0 [.agg (Aa.dv f)] [] (fun d' b' => d' = vk r /\ b' = []) := by
 unfold Hw at G
 refine Fn.of Tryz.func106 rfl rfl rfl fun w0 I ρ0 => ?_
 show B2 _ ⟨w0, I, ρ0, 0, 0, 5⟩ _ _ _
 refine Bh 0 16 A5 fun B => ?_
 refine Bh 16 40 B fun B => ?_
 exact La
theorem N1 (c1 : Aa) (c2 : Aa) (r : Int) (G : Fr c1 c2 = some r) : Fn Tryz.prog 97 0 [.elt (([.raw (.func (.func 106) #[] #[])] : List C).drop 0), .elt (([.int .i64 c1.Source, .str c1.Host, .int .i64 c1.Machine, .int .i64 c1.Day, .int .i64 c1.Confidence, .int .i64 c1.Kind, .str c1.Subject, .int .i64 c1.Use.Alg, .int .i64 c1.Use.Bits, .int .i64 c1.Number, .str c1.Text] : List C).drop 0), .elt (([.int .i64 c2.Source, .str c2.Host, .int .i64 c2.Machine, .int .i64 c2.Day, .int .i64 c2.Confidence, .int .i64 c2.Kind, .str c2.Subject, .int .i64 c2.Use.Alg, .int .i64 c2.Use.Bits, .int .i64 c2.Number, .str c2.Text] : List C).drop 0)] [] (fun d' b' => d' = vk r /\ b' = []) := by
 unfold Fr at G
 refine Fn.of Tryz.func97 rfl rfl rfl fun w0 I ρ0 => ?_
 show B2 _ ⟨w0, I, ρ0, 0, 0, 11⟩ _ _ _
 refine Bh 0 8 A5 fun B => ?_
 refine Aj <| Bq (B8 _ _ []) (by kernel_rfl) [0, 0, 3, 0, 0, 31, 63, 127] 8 72 B rfl rfl (by kernel_rfl) ?_
 refine C0 rfl rfl (Dy Lz (c := .raw (.func (.func 106) #[] #[])) rfl) rfl rfl ?_
 refine C0 rfl rfl (Eb L4 (cs2 := [.int .i64 c1.Source, .str c1.Host, .int .i64 c1.Machine, .int .i64 c1.Day, .int .i64 c1.Confidence, .int .i64 c1.Kind, .str c1.Subject, .int .i64 c1.Use.Alg, .int .i64 c1.Use.Bits, .int .i64 c1.Number, .str c1.Text]) rfl (Nat.le_of_ble_eq_true rfl)) rfl rfl ?_
 obtain ⟨y, hy, G⟩ := Ab G
 refine D2 (rd := []) (ps := []) (gs := []) false rfl rfl (Nl _ _ hy) rfl rfl (.cons (.agg (.cons .val (.cons .val (.cons .val (.cons .val (.cons .val (.cons .val (.cons .val (.cons .val (.cons .val (.cons .val (.cons .val .nil)))))))))))) .nil) rfl rfl (by intro h; cases h) rfl rfl rfl rfl ?_
 refine C0 rfl rfl (Dy Lz (c := .raw (.func (.func 106) #[] #[])) rfl) rfl rfl ?_
 refine C0 rfl rfl (Eb L4 (cs2 := [.int .i64 c2.Source, .str c2.Host, .int .i64 c2.Machine, .int .i64 c2.Day, .int .i64 c2.Confidence, .int .i64 c2.Kind, .str c2.Subject, .int .i64 c2.Use.Alg, .int .i64 c2.Use.Bits, .int .i64 c2.Number, .str c2.Text]) rfl (Nat.le_of_ble_eq_true rfl)) rfl rfl ?_
 obtain ⟨y_2, hy_2, G⟩ := Ab G
 refine D2 (rd := []) (ps := []) (gs := []) false rfl rfl (Nl _ _ hy_2) rfl rfl (.cons (.agg (.cons .val (.cons .val (.cons .val (.cons .val (.cons .val (.cons .val (.cons .val (.cons .val (.cons .val (.cons .val (.cons .val .nil)))))))))))) .nil) rfl rfl (by intro h; cases h) rfl rfl rfl rfl ?_
 obtain ⟨y_3, hy_3, G⟩ := Ab G
 refine Do (E7 _ _ _ hy_3) ?_
 exact De
theorem Oe (f : Aa) (r : Int) (G : Hv f = some r) : Fn Tryz.prog 107 0 [.agg (Aa.dv f)] [] (fun d' b' => d' = vk r /\ b' = []) := by
 unfold Hv at G
 refine Fn.of Tryz.func107 rfl rfl rfl fun w0 I ρ0 => ?_
 show B2 _ ⟨w0, I, ρ0, 0, 0, 6⟩ _ _ _
 refine Bh 0 16 A5 fun B => ?_
 refine Bh 16 48 B fun B => ?_
 exact La
theorem Nn (c1 : Aa) (c2 : Aa) (r : Int) (G : Fz c1 c2 = some r) : Fn Tryz.prog 97 0 [.elt (([.raw (.func (.func 107) #[] #[])] : List C).drop 0), .elt (([.int .i64 c1.Source, .str c1.Host, .int .i64 c1.Machine, .int .i64 c1.Day, .int .i64 c1.Confidence, .int .i64 c1.Kind, .str c1.Subject, .int .i64 c1.Use.Alg, .int .i64 c1.Use.Bits, .int .i64 c1.Number, .str c1.Text] : List C).drop 0), .elt (([.int .i64 c2.Source, .str c2.Host, .int .i64 c2.Machine, .int .i64 c2.Day, .int .i64 c2.Confidence, .int .i64 c2.Kind, .str c2.Subject, .int .i64 c2.Use.Alg, .int .i64 c2.Use.Bits, .int .i64 c2.Number, .str c2.Text] : List C).drop 0)] [] (fun d' b' => d' = vk r /\ b' = []) := by
 unfold Fz at G
 refine Fn.of Tryz.func97 rfl rfl rfl fun w0 I ρ0 => ?_
 show B2 _ ⟨w0, I, ρ0, 0, 0, 11⟩ _ _ _
 refine Bh 0 8 A5 fun B => ?_
 refine Aj <| Bq (B8 _ _ []) (by kernel_rfl) [0, 0, 3, 0, 0, 31, 63, 127] 8 72 B rfl rfl (by kernel_rfl) ?_
 refine C0 rfl rfl (Dy Lz (c := .raw (.func (.func 107) #[] #[])) rfl) rfl rfl ?_
 refine C0 rfl rfl (Eb L4 (cs2 := [.int .i64 c1.Source, .str c1.Host, .int .i64 c1.Machine, .int .i64 c1.Day, .int .i64 c1.Confidence, .int .i64 c1.Kind, .str c1.Subject, .int .i64 c1.Use.Alg, .int .i64 c1.Use.Bits, .int .i64 c1.Number, .str c1.Text]) rfl (Nat.le_of_ble_eq_true rfl)) rfl rfl ?_
 obtain ⟨y, hy, G⟩ := Ab G
 refine D2 (rd := []) (ps := []) (gs := []) false rfl rfl (Oe _ _ hy) rfl rfl (.cons (.agg (.cons .val (.cons .val (.cons .val (.cons .val (.cons .val (.cons .val (.cons .val (.cons .val (.cons .val (.cons .val (.cons .val .nil)))))))))))) .nil) rfl rfl (by intro h; cases h) rfl rfl rfl rfl ?_
 refine C0 rfl rfl (Dy Lz (c := .raw (.func (.func 107) #[] #[])) rfl) rfl rfl ?_
 refine C0 rfl rfl (Eb L4 (cs2 := [.int .i64 c2.Source, .str c2.Host, .int .i64 c2.Machine, .int .i64 c2.Day, .int .i64 c2.Confidence, .int .i64 c2.Kind, .str c2.Subject, .int .i64 c2.Use.Alg, .int .i64 c2.Use.Bits, .int .i64 c2.Number, .str c2.Text]) rfl (Nat.le_of_ble_eq_true rfl)) rfl rfl ?_
 obtain ⟨y_2, hy_2, G⟩ := Ab G
 refine D2 (rd := []) (ps := []) (gs := []) false rfl rfl (Oe _ _ hy_2) rfl rfl (.cons (.agg (.cons .val (.cons .val (.cons .val (.cons .val (.cons .val (.cons .val (.cons .val (.cons .val (.cons .val (.cons .val (.cons .val .nil)))))))))))) .nil) rfl rfl (by intro h; cases h) rfl rfl rfl rfl ?_
 obtain ⟨y_3, hy_3, G⟩ := Ab G
 refine Do (E7 _ _ _ hy_3) ?_
 exact De
theorem M2 (f : Aa) (r : Int) (G : Hx f = some r) : Fn Tryz.prog 108 0 [.agg (Aa.dv f)] [] (fun d' b' => d' = vk r /\ b' = []) := by
 unfold Hx at G
 refine Fn.of Tryz.func108 rfl rfl rfl fun w0 I ρ0 => ?_
 show B2 _ ⟨w0, I, ρ0, 0, 0, 6⟩ _ _ _
 refine Bh 0 16 A5 fun B => ?_
 refine Bh 16 48 B fun B => ?_
 exact La
theorem Nh (c1 : Aa) (c2 : Aa) (r : Int) (G : Fy c1 c2 = some r) : Fn Tryz.prog 97 0 [.elt (([.raw (.func (.func 108) #[] #[])] : List C).drop 0), .elt (([.int .i64 c1.Source, .str c1.Host, .int .i64 c1.Machine, .int .i64 c1.Day, .int .i64 c1.Confidence, .int .i64 c1.Kind, .str c1.Subject, .int .i64 c1.Use.Alg, .int .i64 c1.Use.Bits, .int .i64 c1.Number, .str c1.Text] : List C).drop 0), .elt (([.int .i64 c2.Source, .str c2.Host, .int .i64 c2.Machine, .int .i64 c2.Day, .int .i64 c2.Confidence, .int .i64 c2.Kind, .str c2.Subject, .int .i64 c2.Use.Alg, .int .i64 c2.Use.Bits, .int .i64 c2.Number, .str c2.Text] : List C).drop 0)] [] (fun d' b' => d' = vk r /\ b' = []) := by
 unfold Fy at G
 refine Fn.of Tryz.func97 rfl rfl rfl fun w0 I ρ0 => ?_
 show B2 _ ⟨w0, I, ρ0, 0, 0, 11⟩ _ _ _
 refine Bh 0 8 A5 fun B => ?_
 refine Aj <| Bq (B8 _ _ []) (by kernel_rfl) [0, 0, 3, 0, 0, 31, 63, 127] 8 72 B rfl rfl (by kernel_rfl) ?_
 refine C0 rfl rfl (Dy Lz (c := .raw (.func (.func 108) #[] #[])) rfl) rfl rfl ?_
 refine C0 rfl rfl (Eb L4 (cs2 := [.int .i64 c1.Source, .str c1.Host, .int .i64 c1.Machine, .int .i64 c1.Day, .int .i64 c1.Confidence, .int .i64 c1.Kind, .str c1.Subject, .int .i64 c1.Use.Alg, .int .i64 c1.Use.Bits, .int .i64 c1.Number, .str c1.Text]) rfl (Nat.le_of_ble_eq_true rfl)) rfl rfl ?_
 obtain ⟨y, hy, G⟩ := Ab G
 refine D2 (rd := []) (ps := []) (gs := []) false rfl rfl (M2 _ _ hy) rfl rfl (.cons (.agg (.cons .val (.cons .val (.cons .val (.cons .val (.cons .val (.cons .val (.cons .val (.cons .val (.cons .val (.cons .val (.cons .val .nil)))))))))))) .nil) rfl rfl (by intro h; cases h) rfl rfl rfl rfl ?_
 refine C0 rfl rfl (Dy Lz (c := .raw (.func (.func 108) #[] #[])) rfl) rfl rfl ?_
 refine C0 rfl rfl (Eb L4 (cs2 := [.int .i64 c2.Source, .str c2.Host, .int .i64 c2.Machine, .int .i64 c2.Day, .int .i64 c2.Confidence, .int .i64 c2.Kind, .str c2.Subject, .int .i64 c2.Use.Alg, .int .i64 c2.Use.Bits, .int .i64 c2.Number, .str c2.Text]) rfl (Nat.le_of_ble_eq_true rfl)) rfl rfl ?_
 obtain ⟨y_2, hy_2, G⟩ := Ab G
 refine D2 (rd := []) (ps := []) (gs := []) false rfl rfl (M2 _ _ hy_2) rfl rfl (.cons (.agg (.cons .val (.cons .val (.cons .val (.cons .val (.cons .val (.cons .val (.cons .val (.cons .val (.cons .val (.cons .val (.cons .val .nil)))))))))))) .nil) rfl rfl (by intro h; cases h) rfl rfl rfl rfl ?_
 obtain ⟨y_3, hy_3, G⟩ := Ab G
 refine Do (E7 _ _ _ hy_3) ?_
 exact De
theorem Me (f : Aa) (r : Int) (G : Hg f = some r) : Fn Tryz.prog 109 0 [.agg (Aa.dv f)] [] (fun d' b' => d' = vk r /\ b' = []) := by
 unfold Hg at G
 refine Fn.of Tryz.func109 rfl rfl rfl fun w0 I ρ0 => ?_
 show B2 _ ⟨w0, I, ρ0, 0, 0, 5⟩ _ _ _
 refine Bh 0 16 A5 fun B => ?_
 refine Bh 16 40 B fun B => ?_
 exact La
theorem N2 (c1 : Aa) (c2 : Aa) (r : Int) (G : F2 c1 c2 = some r) : Fn Tryz.prog 97 0 [.elt (([.raw (.func (.func 109) #[] #[])] : List C).drop 0), .elt (([.int .i64 c1.Source, .str c1.Host, .int .i64 c1.Machine, .int .i64 c1.Day, .int .i64 c1.Confidence, .int .i64 c1.Kind, .str c1.Subject, .int .i64 c1.Use.Alg, .int .i64 c1.Use.Bits, .int .i64 c1.Number, .str c1.Text] : List C).drop 0), .elt (([.int .i64 c2.Source, .str c2.Host, .int .i64 c2.Machine, .int .i64 c2.Day, .int .i64 c2.Confidence, .int .i64 c2.Kind, .str c2.Subject, .int .i64 c2.Use.Alg, .int .i64 c2.Use.Bits, .int .i64 c2.Number, .str c2.Text] : List C).drop 0)] [] (fun d' b' => d' = vk r /\ b' = []) := by
 unfold F2 at G
 refine Fn.of Tryz.func97 rfl rfl rfl fun w0 I ρ0 => ?_
 show B2 _ ⟨w0, I, ρ0, 0, 0, 11⟩ _ _ _
 refine Bh 0 8 A5 fun B => ?_
 refine Aj <| Bq (B8 _ _ []) (by kernel_rfl) [0, 0, 3, 0, 0, 31, 63, 127] 8 72 B rfl rfl (by kernel_rfl) ?_
 refine C0 rfl rfl (Dy Lz (c := .raw (.func (.func 109) #[] #[])) rfl) rfl rfl ?_
 refine C0 rfl rfl (Eb L4 (cs2 := [.int .i64 c1.Source, .str c1.Host, .int .i64 c1.Machine, .int .i64 c1.Day, .int .i64 c1.Confidence, .int .i64 c1.Kind, .str c1.Subject, .int .i64 c1.Use.Alg, .int .i64 c1.Use.Bits, .int .i64 c1.Number, .str c1.Text]) rfl (Nat.le_of_ble_eq_true rfl)) rfl rfl ?_
 obtain ⟨y, hy, G⟩ := Ab G
 refine D2 (rd := []) (ps := []) (gs := []) false rfl rfl (Me _ _ hy) rfl rfl (.cons (.agg (.cons .val (.cons .val (.cons .val (.cons .val (.cons .val (.cons .val (.cons .val (.cons .val (.cons .val (.cons .val (.cons .val .nil)))))))))))) .nil) rfl rfl (by intro h; cases h) rfl rfl rfl rfl ?_
 refine C0 rfl rfl (Dy Lz (c := .raw (.func (.func 109) #[] #[])) rfl) rfl rfl ?_
 refine C0 rfl rfl (Eb L4 (cs2 := [.int .i64 c2.Source, .str c2.Host, .int .i64 c2.Machine, .int .i64 c2.Day, .int .i64 c2.Confidence, .int .i64 c2.Kind, .str c2.Subject, .int .i64 c2.Use.Alg, .int .i64 c2.Use.Bits, .int .i64 c2.Number, .str c2.Text]) rfl (Nat.le_of_ble_eq_true rfl)) rfl rfl ?_
 obtain ⟨y_2, hy_2, G⟩ := Ab G
 refine D2 (rd := []) (ps := []) (gs := []) false rfl rfl (Me _ _ hy_2) rfl rfl (.cons (.agg (.cons .val (.cons .val (.cons .val (.cons .val (.cons .val (.cons .val (.cons .val (.cons .val (.cons .val (.cons .val (.cons .val .nil)))))))))))) .nil) rfl rfl (by intro h; cases h) rfl rfl rfl rfl ?_
 obtain ⟨y_3, hy_3, G⟩ := Ab G
 refine Do (E7 _ _ _ hy_3) ?_
 exact De
theorem Mi (f : Aa) (r : ByteArray) (G : Hi f = some r) : Fn Tryz.prog 110 0 [.agg (Aa.dv f)] [] (fun d' b' => d' = ws r /\ b' = []) := by
 unfold Hi at G
 refine Fn.of Tryz.func110 rfl rfl rfl fun w0 I ρ0 => ?_
 show B2 _ ⟨w0, I, ρ0, 0, 0, 5⟩ _ _ _
 refine Bh 0 16 A5 fun B => ?_
 refine Bh 16 40 B fun B => ?_
 exact La
theorem M6 (c1 : Aa) (c2 : Aa) (r : Int) (G : F3 c1 c2 = some r) : Fn Tryz.prog 100 0 [.elt (([.raw (.func (.func 110) #[] #[])] : List C).drop 0), .elt (([.int .i64 c1.Source, .str c1.Host, .int .i64 c1.Machine, .int .i64 c1.Day, .int .i64 c1.Confidence, .int .i64 c1.Kind, .str c1.Subject, .int .i64 c1.Use.Alg, .int .i64 c1.Use.Bits, .int .i64 c1.Number, .str c1.Text] : List C).drop 0), .elt (([.int .i64 c2.Source, .str c2.Host, .int .i64 c2.Machine, .int .i64 c2.Day, .int .i64 c2.Confidence, .int .i64 c2.Kind, .str c2.Subject, .int .i64 c2.Use.Alg, .int .i64 c2.Use.Bits, .int .i64 c2.Number, .str c2.Text] : List C).drop 0)] [] (fun d' b' => d' = vk r /\ b' = []) := by
 unfold F3 at G
 refine Fn.of Tryz.func100 rfl rfl rfl fun w0 I ρ0 => ?_
 show B2 _ ⟨w0, I, ρ0, 0, 0, 11⟩ _ _ _
 refine Bh 0 8 A5 fun B => ?_
 refine Aj <| Bq (B8 _ _ []) (by kernel_rfl) [0, 0, 3, 0, 0, 31, 63, 127] 8 72 B rfl rfl (by kernel_rfl) ?_
 refine C0 rfl rfl (Dy X2 (c := .raw (.func (.func 110) #[] #[])) rfl) rfl rfl ?_
 refine C0 rfl rfl (Eb L4 (cs2 := [.int .i64 c1.Source, .str c1.Host, .int .i64 c1.Machine, .int .i64 c1.Day, .int .i64 c1.Confidence, .int .i64 c1.Kind, .str c1.Subject, .int .i64 c1.Use.Alg, .int .i64 c1.Use.Bits, .int .i64 c1.Number, .str c1.Text]) rfl (Nat.le_of_ble_eq_true rfl)) rfl rfl ?_
 obtain ⟨y, hy, G⟩ := Ab G
 refine D2 (rd := []) (ps := []) (gs := []) false rfl rfl (Mi _ _ hy) rfl rfl (.cons (.agg (.cons .val (.cons .val (.cons .val (.cons .val (.cons .val (.cons .val (.cons .val (.cons .val (.cons .val (.cons .val (.cons .val .nil)))))))))))) .nil) rfl rfl (by intro h; cases h) rfl rfl rfl rfl ?_
 refine C0 rfl rfl (Dy X2 (c := .raw (.func (.func 110) #[] #[])) rfl) rfl rfl ?_
 refine C0 rfl rfl (Eb L4 (cs2 := [.int .i64 c2.Source, .str c2.Host, .int .i64 c2.Machine, .int .i64 c2.Day, .int .i64 c2.Confidence, .int .i64 c2.Kind, .str c2.Subject, .int .i64 c2.Use.Alg, .int .i64 c2.Use.Bits, .int .i64 c2.Number, .str c2.Text]) rfl (Nat.le_of_ble_eq_true rfl)) rfl rfl ?_
 obtain ⟨y_2, hy_2, G⟩ := Ab G
 refine D2 (rd := []) (ps := []) (gs := []) false rfl rfl (Mi _ _ hy_2) rfl rfl (.cons (.agg (.cons .val (.cons .val (.cons .val (.cons .val (.cons .val (.cons .val (.cons .val (.cons .val (.cons .val (.cons .val (.cons .val .nil)))))))))))) .nil) rfl rfl (by intro h; cases h) rfl rfl rfl rfl ?_
 obtain ⟨y_3, hy_3, G⟩ := Ab G
 refine Do (Kv _ _ _ hy_3) ?_
 exact De
theorem Mj (f : Aa) (r : Int) (G : Hj f = some r) : Fn Tryz.prog 111 0 [.agg (Aa.dv f)] [] (fun d' b' => d' = vk r /\ b' = []) := by
 unfold Hj at G
 refine Fn.of Tryz.func111 rfl rfl rfl fun w0 I ρ0 => ?_
 show B2 _ ⟨w0, I, ρ0, 0, 0, 5⟩ _ _ _
 refine Bh 0 16 A5 fun B => ?_
 refine Bh 16 40 B fun B => ?_
 exact La
theorem Oc (c1 : Aa) (c2 : Aa) (r : Int) (G : Ga c1 c2 = some r) : Fn Tryz.prog 97 0 [.elt (([.raw (.func (.func 111) #[] #[])] : List C).drop 0), .elt (([.int .i64 c1.Source, .str c1.Host, .int .i64 c1.Machine, .int .i64 c1.Day, .int .i64 c1.Confidence, .int .i64 c1.Kind, .str c1.Subject, .int .i64 c1.Use.Alg, .int .i64 c1.Use.Bits, .int .i64 c1.Number, .str c1.Text] : List C).drop 0), .elt (([.int .i64 c2.Source, .str c2.Host, .int .i64 c2.Machine, .int .i64 c2.Day, .int .i64 c2.Confidence, .int .i64 c2.Kind, .str c2.Subject, .int .i64 c2.Use.Alg, .int .i64 c2.Use.Bits, .int .i64 c2.Number, .str c2.Text] : List C).drop 0)] [] (fun d' b' => d' = vk r /\ b' = []) := by
 unfold Ga at G
 refine Fn.of Tryz.func97 rfl rfl rfl fun w0 I ρ0 => ?_
 show B2 _ ⟨w0, I, ρ0, 0, 0, 11⟩ _ _ _
 refine Bh 0 8 A5 fun B => ?_
 refine Aj <| Bq (B8 _ _ []) (by kernel_rfl) [0, 0, 3, 0, 0, 31, 63, 127] 8 72 B rfl rfl (by kernel_rfl) ?_
 refine C0 rfl rfl (Dy Lz (c := .raw (.func (.func 111) #[] #[])) rfl) rfl rfl ?_
 refine C0 rfl rfl (Eb L4 (cs2 := [.int .i64 c1.Source, .str c1.Host, .int .i64 c1.Machine, .int .i64 c1.Day, .int .i64 c1.Confidence, .int .i64 c1.Kind, .str c1.Subject, .int .i64 c1.Use.Alg, .int .i64 c1.Use.Bits, .int .i64 c1.Number, .str c1.Text]) rfl (Nat.le_of_ble_eq_true rfl)) rfl rfl ?_
 obtain ⟨y, hy, G⟩ := Ab G
 refine D2 (rd := []) (ps := []) (gs := []) false rfl rfl (Mj _ _ hy) rfl rfl (.cons (.agg (.cons .val (.cons .val (.cons .val (.cons .val (.cons .val (.cons .val (.cons .val (.cons .val (.cons .val (.cons .val (.cons .val .nil)))))))))))) .nil) rfl rfl (by intro h; cases h) rfl rfl rfl rfl ?_
 refine C0 rfl rfl (Dy Lz (c := .raw (.func (.func 111) #[] #[])) rfl) rfl rfl ?_
 refine C0 rfl rfl (Eb L4 (cs2 := [.int .i64 c2.Source, .str c2.Host, .int .i64 c2.Machine, .int .i64 c2.Day, .int .i64 c2.Confidence, .int .i64 c2.Kind, .str c2.Subject, .int .i64 c2.Use.Alg, .int .i64 c2.Use.Bits, .int .i64 c2.Number, .str c2.Text]) rfl (Nat.le_of_ble_eq_true rfl)) rfl rfl ?_
 obtain ⟨y_2, hy_2, G⟩ := Ab G
 refine D2 (rd := []) (ps := []) (gs := []) false rfl rfl (Mj _ _ hy_2) rfl rfl (.cons (.agg (.cons .val (.cons .val (.cons .val (.cons .val (.cons .val (.cons .val (.cons .val (.cons .val (.cons .val (.cons .val (.cons .val .nil)))))))))))) .nil) rfl rfl (by intro h; cases h) rfl rfl rfl rfl ?_
 obtain ⟨y_3, hy_3, G⟩ := Ab G
 refine Do (E7 _ _ _ hy_3) ?_
 exact De
theorem Md (f : Aa) (r : Int) (G : Hf f = some r) : Fn Tryz.prog 112 0 [.agg (Aa.dv f)] [] (fun d' b' => d' = vk r /\ b' = []) := by
 unfold Hf at G
 refine Fn.of Tryz.func112 rfl rfl rfl fun w0 I ρ0 => ?_
 show B2 _ ⟨w0, I, ρ0, 0, 0, 5⟩ _ _ _
 refine Bh 0 16 A5 fun B => ?_
 refine Bh 16 40 B fun B => ?_
 exact La
theorem Ni (c1 : Aa) (c2 : Aa) (r : Int) (G : Fx c1 c2 = some r) : Fn Tryz.prog 97 0 [.elt (([.raw (.func (.func 112) #[] #[])] : List C).drop 0), .elt (([.int .i64 c1.Source, .str c1.Host, .int .i64 c1.Machine, .int .i64 c1.Day, .int .i64 c1.Confidence, .int .i64 c1.Kind, .str c1.Subject, .int .i64 c1.Use.Alg, .int .i64 c1.Use.Bits, .int .i64 c1.Number, .str c1.Text] : List C).drop 0), .elt (([.int .i64 c2.Source, .str c2.Host, .int .i64 c2.Machine, .int .i64 c2.Day, .int .i64 c2.Confidence, .int .i64 c2.Kind, .str c2.Subject, .int .i64 c2.Use.Alg, .int .i64 c2.Use.Bits, .int .i64 c2.Number, .str c2.Text] : List C).drop 0)] [] (fun d' b' => d' = vk r /\ b' = []) := by
 unfold Fx at G
 refine Fn.of Tryz.func97 rfl rfl rfl fun w0 I ρ0 => ?_
 show B2 _ ⟨w0, I, ρ0, 0, 0, 11⟩ _ _ _
 refine Bh 0 8 A5 fun B => ?_
 refine Aj <| Bq (B8 _ _ []) (by kernel_rfl) [0, 0, 3, 0, 0, 31, 63, 127] 8 72 B rfl rfl (by kernel_rfl) ?_
 refine C0 rfl rfl (Dy Lz (c := .raw (.func (.func 112) #[] #[])) rfl) rfl rfl ?_
 refine C0 rfl rfl (Eb L4 (cs2 := [.int .i64 c1.Source, .str c1.Host, .int .i64 c1.Machine, .int .i64 c1.Day, .int .i64 c1.Confidence, .int .i64 c1.Kind, .str c1.Subject, .int .i64 c1.Use.Alg, .int .i64 c1.Use.Bits, .int .i64 c1.Number, .str c1.Text]) rfl (Nat.le_of_ble_eq_true rfl)) rfl rfl ?_
 obtain ⟨y, hy, G⟩ := Ab G
 refine D2 (rd := []) (ps := []) (gs := []) false rfl rfl (Md _ _ hy) rfl rfl (.cons (.agg (.cons .val (.cons .val (.cons .val (.cons .val (.cons .val (.cons .val (.cons .val (.cons .val (.cons .val (.cons .val (.cons .val .nil)))))))))))) .nil) rfl rfl (by intro h; cases h) rfl rfl rfl rfl ?_
 refine C0 rfl rfl (Dy Lz (c := .raw (.func (.func 112) #[] #[])) rfl) rfl rfl ?_
 refine C0 rfl rfl (Eb L4 (cs2 := [.int .i64 c2.Source, .str c2.Host, .int .i64 c2.Machine, .int .i64 c2.Day, .int .i64 c2.Confidence, .int .i64 c2.Kind, .str c2.Subject, .int .i64 c2.Use.Alg, .int .i64 c2.Use.Bits, .int .i64 c2.Number, .str c2.Text]) rfl (Nat.le_of_ble_eq_true rfl)) rfl rfl ?_
 obtain ⟨y_2, hy_2, G⟩ := Ab G
 refine D2 (rd := []) (ps := []) (gs := []) false rfl rfl (Md _ _ hy_2) rfl rfl (.cons (.agg (.cons .val (.cons .val (.cons .val (.cons .val (.cons .val (.cons .val (.cons .val (.cons .val (.cons .val (.cons .val (.cons .val .nil)))))))))))) .nil) rfl rfl (by intro h; cases h) rfl rfl rfl rfl ?_
 obtain ⟨y_3, hy_3, G⟩ := Ab G
 refine Do (E7 _ _ _ hy_3) ?_
 exact De
theorem Ws (a : Aa) (b : Aa) (r : Int) (G : Ha a b = some r) : Fn Tryz.prog 73 0 [.agg (Aa.dv a), .agg (Aa.dv b)] [] (fun d' b' => d' = vk r /\ b' = []) := by
 unfold Ha at G
 refine Fn.of Tryz.func73 rfl rfl rfl fun w0 I ρ0 => ?_
 show B2 _ ⟨w0, I, ρ0, 0, 0, 46⟩ _ _ _
 refine Bh 0 24 A5 fun B => ?_
 refine Aj <| E3 (σ' := mk [(2, .elt (([.int .i64 a.Source, .str a.Host, .int .i64 a.Machine, .int .i64 a.Day, .int .i64 a.Confidence, .int .i64 a.Kind, .str a.Subject, .int .i64 a.Use.Alg, .int .i64 a.Use.Bits, .int .i64 a.Number, .str a.Text] : List C).drop 0)), (3, .elt (([.int .i64 b.Source, .str b.Host, .int .i64 b.Machine, .int .i64 b.Day, .int .i64 b.Confidence, .int .i64 b.Kind, .str b.Subject, .int .i64 b.Use.Alg, .int .i64 b.Use.Bits, .int .i64 b.Number, .str b.Text] : List C).drop 0))] [] 0) ((by exact P3.lists [] rfl rfl ⟨⟨_, rfl, .frzb (ks := [none, none, none, none, none, none, none, none, none, none, none]) rfl (.cons .int (.cons .str (.cons .int (.cons .int (.cons .int (.cons .int (.cons .str (.cons .int (.cons .int (.cons .int (.cons .str .nil))))))))))) (Fq rfl)⟩, ⟨_, rfl, .frzb (ks := [none, none, none, none, none, none, none, none, none, none, none]) rfl (.cons .int (.cons .str (.cons .int (.cons .int (.cons .int (.cons .int (.cons .str (.cons .int (.cons .int (.cons .int (.cons .str .nil))))))))))) (Fq rfl)⟩, trivial⟩ trivial)) ?_
 refine Ak (B8 _ _ []) 0 16 A5 rfl rfl ?_
 refine Bj fun B => ?_
 refine Bh 16 32 B fun B => ?_
 refine Aj <| B9 32 232 B ?_
 refine Aw ?_
 obtain ⟨y, hy, G⟩ := Ab G
 refine Cy (rd := []) (ps := []) (gs := []) false rfl rfl (Pg _ _ _ hy) rfl rfl (.cons .val (.cons .elt (.cons .elt .nil))) rfl rfl (by intro h; cases h) rfl rfl rfl rfl ?_
 refine Aw ?_
 obtain ⟨y_2, hy_2, G⟩ := Ab G
 refine Cy (rd := []) (ps := []) (gs := []) false rfl rfl (Pc _ _ _ hy_2) rfl rfl (.cons .val (.cons .elt (.cons .elt .nil))) rfl rfl (by intro h; cases h) rfl rfl rfl rfl ?_
 refine Aw ?_
 obtain ⟨y_3, hy_3, G⟩ := Ab G
 refine Cy (rd := []) (ps := []) (gs := []) false rfl rfl (Pl _ _ _ hy_3) rfl rfl (.cons .val (.cons .elt (.cons .elt .nil))) rfl rfl (by intro h; cases h) rfl rfl rfl rfl ?_
 refine Aw ?_
 obtain ⟨y_4, hy_4, G⟩ := Ab G
 refine Cy (rd := []) (ps := []) (gs := []) false rfl rfl (O4 _ _ _ hy_4) rfl rfl (.cons .val (.cons .elt (.cons .elt .nil))) rfl rfl (by intro h; cases h) rfl rfl rfl rfl ?_
 refine Aw ?_
 obtain ⟨y_5, hy_5, G⟩ := Ab G
 refine Cy (rd := []) (ps := []) (gs := []) false rfl rfl (Pi _ _ _ hy_5) rfl rfl (.cons .val (.cons .elt (.cons .elt .nil))) rfl rfl (by intro h; cases h) rfl rfl rfl rfl ?_
 refine Aw ?_
 obtain ⟨y_6, hy_6, G⟩ := Ab G
 refine Cy (rd := []) (ps := []) (gs := []) false rfl rfl (Pk _ _ _ hy_6) rfl rfl (.cons .val (.cons .elt (.cons .elt .nil))) rfl rfl (by intro h; cases h) rfl rfl rfl rfl ?_
 refine Aw ?_
 obtain ⟨y_7, hy_7, G⟩ := Ab G
 refine Cy (rd := []) (ps := []) (gs := []) false rfl rfl (Ps _ _ _ hy_7) rfl rfl (.cons .val (.cons .elt (.cons .elt .nil))) rfl rfl (by intro h; cases h) rfl rfl rfl rfl ?_
 refine Aw ?_
 obtain ⟨y_8, hy_8, G⟩ := Ab G
 refine Cy (rd := []) (ps := []) (gs := []) false rfl rfl (P2 _ _ _ hy_8) rfl rfl (.cons .val (.cons .elt (.cons .elt .nil))) rfl rfl (by intro h; cases h) rfl rfl rfl rfl ?_
 refine Aw ?_
 obtain ⟨y_9, hy_9, G⟩ := Ab G
 refine Cy (rd := []) (ps := []) (gs := []) false rfl rfl (P0 _ _ _ hy_9) rfl rfl (.cons .val (.cons .elt (.cons .elt .nil))) rfl rfl (by intro h; cases h) rfl rfl rfl rfl ?_
 refine Aw ?_
 obtain ⟨y_10, hy_10, G⟩ := Ab G
 refine Cy (rd := []) (ps := []) (gs := []) false rfl rfl (Pz _ _ _ hy_10) rfl rfl (.cons .val (.cons .elt (.cons .elt .nil))) rfl rfl (by intro h; cases h) rfl rfl rfl rfl ?_
 refine Aw ?_
 obtain ⟨y_11, hy_11, G⟩ := Ab G
 refine Cy (rd := []) (ps := []) (gs := []) false rfl rfl (Pw _ _ _ hy_11) rfl rfl (.cons .val (.cons .elt (.cons .elt .nil))) rfl rfl (by intro h; cases h) rfl rfl rfl rfl ?_
 refine Lf (rd := []) rfl rfl (.buildV (r := [.clo 100 0 [.elt (([.raw (.func (.func 102) #[] #[])] : List C).drop 0), .elt (([.int .i64 y.1.Source, .str y.1.Host, .int .i64 y.1.Machine, .int .i64 y.1.Day, .int .i64 y.1.Confidence, .int .i64 y.1.Kind, .str y.1.Subject, .int .i64 y.1.Use.Alg, .int .i64 y.1.Use.Bits, .int .i64 y.1.Number, .str y.1.Text] : List C).drop 0), .elt (([.int .i64 y.2.Source, .str y.2.Host, .int .i64 y.2.Machine, .int .i64 y.2.Day, .int .i64 y.2.Confidence, .int .i64 y.2.Kind, .str y.2.Subject, .int .i64 y.2.Use.Alg, .int .i64 y.2.Use.Bits, .int .i64 y.2.Number, .str y.2.Text] : List C).drop 0)], .clo 97 0 [.elt (([.raw (.func (.func 103) #[] #[])] : List C).drop 0), .elt (([.int .i64 y_2.1.Source, .str y_2.1.Host, .int .i64 y_2.1.Machine, .int .i64 y_2.1.Day, .int .i64 y_2.1.Confidence, .int .i64 y_2.1.Kind, .str y_2.1.Subject, .int .i64 y_2.1.Use.Alg, .int .i64 y_2.1.Use.Bits, .int .i64 y_2.1.Number, .str y_2.1.Text] : List C).drop 0), .elt (([.int .i64 y_2.2.Source, .str y_2.2.Host, .int .i64 y_2.2.Machine, .int .i64 y_2.2.Day, .int .i64 y_2.2.Confidence, .int .i64 y_2.2.Kind, .str y_2.2.Subject, .int .i64 y_2.2.Use.Alg, .int .i64 y_2.2.Use.Bits, .int .i64 y_2.2.Number, .str y_2.2.Text] : List C).drop 0)], .clo 97 0 [.elt (([.raw (.func (.func 104) #[] #[])] : List C).drop 0), .elt (([.int .i64 y_3.1.Source, .str y_3.1.Host, .int .i64 y_3.1.Machine, .int .i64 y_3.1.Day, .int .i64 y_3.1.Confidence, .int .i64 y_3.1.Kind, .str y_3.1.Subject, .int .i64 y_3.1.Use.Alg, .int .i64 y_3.1.Use.Bits, .int .i64 y_3.1.Number, .str y_3.1.Text] : List C).drop 0), .elt (([.int .i64 y_3.2.Source, .str y_3.2.Host, .int .i64 y_3.2.Machine, .int .i64 y_3.2.Day, .int .i64 y_3.2.Confidence, .int .i64 y_3.2.Kind, .str y_3.2.Subject, .int .i64 y_3.2.Use.Alg, .int .i64 y_3.2.Use.Bits, .int .i64 y_3.2.Number, .str y_3.2.Text] : List C).drop 0)], .clo 100 0 [.elt (([.raw (.func (.func 105) #[] #[])] : List C).drop 0), .elt (([.int .i64 y_4.1.Source, .str y_4.1.Host, .int .i64 y_4.1.Machine, .int .i64 y_4.1.Day, .int .i64 y_4.1.Confidence, .int .i64 y_4.1.Kind, .str y_4.1.Subject, .int .i64 y_4.1.Use.Alg, .int .i64 y_4.1.Use.Bits, .int .i64 y_4.1.Number, .str y_4.1.Text] : List C).drop 0), .elt (([.int .i64 y_4.2.Source, .str y_4.2.Host, .int .i64 y_4.2.Machine, .int .i64 y_4.2.Day, .int .i64 y_4.2.Confidence, .int .i64 y_4.2.Kind, .str y_4.2.Subject, .int .i64 y_4.2.Use.Alg, .int .i64 y_4.2.Use.Bits, .int .i64 y_4.2.Number, .str y_4.2.Text] : List C).drop 0)], .clo 97 0 [.elt (([.raw (.func (.func 106) #[] #[])] : List C).drop 0), .elt (([.int .i64 y_5.1.Source, .str y_5.1.Host, .int .i64 y_5.1.Machine, .int .i64 y_5.1.Day, .int .i64 y_5.1.Confidence, .int .i64 y_5.1.Kind, .str y_5.1.Subject, .int .i64 y_5.1.Use.Alg, .int .i64 y_5.1.Use.Bits, .int .i64 y_5.1.Number, .str y_5.1.Text] : List C).drop 0), .elt (([.int .i64 y_5.2.Source, .str y_5.2.Host, .int .i64 y_5.2.Machine, .int .i64 y_5.2.Day, .int .i64 y_5.2.Confidence, .int .i64 y_5.2.Kind, .str y_5.2.Subject, .int .i64 y_5.2.Use.Alg, .int .i64 y_5.2.Use.Bits, .int .i64 y_5.2.Number, .str y_5.2.Text] : List C).drop 0)], .clo 97 0 [.elt (([.raw (.func (.func 107) #[] #[])] : List C).drop 0), .elt (([.int .i64 y_6.1.Source, .str y_6.1.Host, .int .i64 y_6.1.Machine, .int .i64 y_6.1.Day, .int .i64 y_6.1.Confidence, .int .i64 y_6.1.Kind, .str y_6.1.Subject, .int .i64 y_6.1.Use.Alg, .int .i64 y_6.1.Use.Bits, .int .i64 y_6.1.Number, .str y_6.1.Text] : List C).drop 0), .elt (([.int .i64 y_6.2.Source, .str y_6.2.Host, .int .i64 y_6.2.Machine, .int .i64 y_6.2.Day, .int .i64 y_6.2.Confidence, .int .i64 y_6.2.Kind, .str y_6.2.Subject, .int .i64 y_6.2.Use.Alg, .int .i64 y_6.2.Use.Bits, .int .i64 y_6.2.Number, .str y_6.2.Text] : List C).drop 0)], .clo 97 0 [.elt (([.raw (.func (.func 108) #[] #[])] : List C).drop 0), .elt (([.int .i64 y_7.1.Source, .str y_7.1.Host, .int .i64 y_7.1.Machine, .int .i64 y_7.1.Day, .int .i64 y_7.1.Confidence, .int .i64 y_7.1.Kind, .str y_7.1.Subject, .int .i64 y_7.1.Use.Alg, .int .i64 y_7.1.Use.Bits, .int .i64 y_7.1.Number, .str y_7.1.Text] : List C).drop 0), .elt (([.int .i64 y_7.2.Source, .str y_7.2.Host, .int .i64 y_7.2.Machine, .int .i64 y_7.2.Day, .int .i64 y_7.2.Confidence, .int .i64 y_7.2.Kind, .str y_7.2.Subject, .int .i64 y_7.2.Use.Alg, .int .i64 y_7.2.Use.Bits, .int .i64 y_7.2.Number, .str y_7.2.Text] : List C).drop 0)], .clo 97 0 [.elt (([.raw (.func (.func 109) #[] #[])] : List C).drop 0), .elt (([.int .i64 y_8.1.Source, .str y_8.1.Host, .int .i64 y_8.1.Machine, .int .i64 y_8.1.Day, .int .i64 y_8.1.Confidence, .int .i64 y_8.1.Kind, .str y_8.1.Subject, .int .i64 y_8.1.Use.Alg, .int .i64 y_8.1.Use.Bits, .int .i64 y_8.1.Number, .str y_8.1.Text] : List C).drop 0), .elt (([.int .i64 y_8.2.Source, .str y_8.2.Host, .int .i64 y_8.2.Machine, .int .i64 y_8.2.Day, .int .i64 y_8.2.Confidence, .int .i64 y_8.2.Kind, .str y_8.2.Subject, .int .i64 y_8.2.Use.Alg, .int .i64 y_8.2.Use.Bits, .int .i64 y_8.2.Number, .str y_8.2.Text] : List C).drop 0)], .clo 100 0 [.elt (([.raw (.func (.func 110) #[] #[])] : List C).drop 0), .elt (([.int .i64 y_9.1.Source, .str y_9.1.Host, .int .i64 y_9.1.Machine, .int .i64 y_9.1.Day, .int .i64 y_9.1.Confidence, .int .i64 y_9.1.Kind, .str y_9.1.Subject, .int .i64 y_9.1.Use.Alg, .int .i64 y_9.1.Use.Bits, .int .i64 y_9.1.Number, .str y_9.1.Text] : List C).drop 0), .elt (([.int .i64 y_9.2.Source, .str y_9.2.Host, .int .i64 y_9.2.Machine, .int .i64 y_9.2.Day, .int .i64 y_9.2.Confidence, .int .i64 y_9.2.Kind, .str y_9.2.Subject, .int .i64 y_9.2.Use.Alg, .int .i64 y_9.2.Use.Bits, .int .i64 y_9.2.Number, .str y_9.2.Text] : List C).drop 0)], .clo 97 0 [.elt (([.raw (.func (.func 111) #[] #[])] : List C).drop 0), .elt (([.int .i64 y_10.1.Source, .str y_10.1.Host, .int .i64 y_10.1.Machine, .int .i64 y_10.1.Day, .int .i64 y_10.1.Confidence, .int .i64 y_10.1.Kind, .str y_10.1.Subject, .int .i64 y_10.1.Use.Alg, .int .i64 y_10.1.Use.Bits, .int .i64 y_10.1.Number, .str y_10.1.Text] : List C).drop 0), .elt (([.int .i64 y_10.2.Source, .str y_10.2.Host, .int .i64 y_10.2.Machine, .int .i64 y_10.2.Day, .int .i64 y_10.2.Confidence, .int .i64 y_10.2.Kind, .str y_10.2.Subject, .int .i64 y_10.2.Use.Alg, .int .i64 y_10.2.Use.Bits, .int .i64 y_10.2.Number, .str y_10.2.Text] : List C).drop 0)], .clo 97 0 [.elt (([.raw (.func (.func 112) #[] #[])] : List C).drop 0), .elt (([.int .i64 y_11.1.Source, .str y_11.1.Host, .int .i64 y_11.1.Machine, .int .i64 y_11.1.Day, .int .i64 y_11.1.Confidence, .int .i64 y_11.1.Kind, .str y_11.1.Subject, .int .i64 y_11.1.Use.Alg, .int .i64 y_11.1.Use.Bits, .int .i64 y_11.1.Number, .str y_11.1.Text] : List C).drop 0), .elt (([.int .i64 y_11.2.Source, .str y_11.2.Host, .int .i64 y_11.2.Machine, .int .i64 y_11.2.Day, .int .i64 y_11.2.Confidence, .int .i64 y_11.2.Kind, .str y_11.2.Subject, .int .i64 y_11.2.Use.Alg, .int .i64 y_11.2.Use.Bits, .int .i64 y_11.2.Number, .str y_11.2.Text] : List C).drop 0)]]) (pl := [(0, .clo 100 0 [.elt (([.raw (.func (.func 102) #[] #[])] : List C).drop 0), .elt (([.int .i64 y.1.Source, .str y.1.Host, .int .i64 y.1.Machine, .int .i64 y.1.Day, .int .i64 y.1.Confidence, .int .i64 y.1.Kind, .str y.1.Subject, .int .i64 y.1.Use.Alg, .int .i64 y.1.Use.Bits, .int .i64 y.1.Number, .str y.1.Text] : List C).drop 0), .elt (([.int .i64 y.2.Source, .str y.2.Host, .int .i64 y.2.Machine, .int .i64 y.2.Day, .int .i64 y.2.Confidence, .int .i64 y.2.Kind, .str y.2.Subject, .int .i64 y.2.Use.Alg, .int .i64 y.2.Use.Bits, .int .i64 y.2.Number, .str y.2.Text] : List C).drop 0)]), (1, .clo 97 0 [.elt (([.raw (.func (.func 103) #[] #[])] : List C).drop 0), .elt (([.int .i64 y_2.1.Source, .str y_2.1.Host, .int .i64 y_2.1.Machine, .int .i64 y_2.1.Day, .int .i64 y_2.1.Confidence, .int .i64 y_2.1.Kind, .str y_2.1.Subject, .int .i64 y_2.1.Use.Alg, .int .i64 y_2.1.Use.Bits, .int .i64 y_2.1.Number, .str y_2.1.Text] : List C).drop 0), .elt (([.int .i64 y_2.2.Source, .str y_2.2.Host, .int .i64 y_2.2.Machine, .int .i64 y_2.2.Day, .int .i64 y_2.2.Confidence, .int .i64 y_2.2.Kind, .str y_2.2.Subject, .int .i64 y_2.2.Use.Alg, .int .i64 y_2.2.Use.Bits, .int .i64 y_2.2.Number, .str y_2.2.Text] : List C).drop 0)]), (2, .clo 97 0 [.elt (([.raw (.func (.func 104) #[] #[])] : List C).drop 0), .elt (([.int .i64 y_3.1.Source, .str y_3.1.Host, .int .i64 y_3.1.Machine, .int .i64 y_3.1.Day, .int .i64 y_3.1.Confidence, .int .i64 y_3.1.Kind, .str y_3.1.Subject, .int .i64 y_3.1.Use.Alg, .int .i64 y_3.1.Use.Bits, .int .i64 y_3.1.Number, .str y_3.1.Text] : List C).drop 0), .elt (([.int .i64 y_3.2.Source, .str y_3.2.Host, .int .i64 y_3.2.Machine, .int .i64 y_3.2.Day, .int .i64 y_3.2.Confidence, .int .i64 y_3.2.Kind, .str y_3.2.Subject, .int .i64 y_3.2.Use.Alg, .int .i64 y_3.2.Use.Bits, .int .i64 y_3.2.Number, .str y_3.2.Text] : List C).drop 0)]), (3, .clo 100 0 [.elt (([.raw (.func (.func 105) #[] #[])] : List C).drop 0), .elt (([.int .i64 y_4.1.Source, .str y_4.1.Host, .int .i64 y_4.1.Machine, .int .i64 y_4.1.Day, .int .i64 y_4.1.Confidence, .int .i64 y_4.1.Kind, .str y_4.1.Subject, .int .i64 y_4.1.Use.Alg, .int .i64 y_4.1.Use.Bits, .int .i64 y_4.1.Number, .str y_4.1.Text] : List C).drop 0), .elt (([.int .i64 y_4.2.Source, .str y_4.2.Host, .int .i64 y_4.2.Machine, .int .i64 y_4.2.Day, .int .i64 y_4.2.Confidence, .int .i64 y_4.2.Kind, .str y_4.2.Subject, .int .i64 y_4.2.Use.Alg, .int .i64 y_4.2.Use.Bits, .int .i64 y_4.2.Number, .str y_4.2.Text] : List C).drop 0)]), (4, .clo 97 0 [.elt (([.raw (.func (.func 106) #[] #[])] : List C).drop 0), .elt (([.int .i64 y_5.1.Source, .str y_5.1.Host, .int .i64 y_5.1.Machine, .int .i64 y_5.1.Day, .int .i64 y_5.1.Confidence, .int .i64 y_5.1.Kind, .str y_5.1.Subject, .int .i64 y_5.1.Use.Alg, .int .i64 y_5.1.Use.Bits, .int .i64 y_5.1.Number, .str y_5.1.Text] : List C).drop 0), .elt (([.int .i64 y_5.2.Source, .str y_5.2.Host, .int .i64 y_5.2.Machine, .int .i64 y_5.2.Day, .int .i64 y_5.2.Confidence, .int .i64 y_5.2.Kind, .str y_5.2.Subject, .int .i64 y_5.2.Use.Alg, .int .i64 y_5.2.Use.Bits, .int .i64 y_5.2.Number, .str y_5.2.Text] : List C).drop 0)]), (5, .clo 97 0 [.elt (([.raw (.func (.func 107) #[] #[])] : List C).drop 0), .elt (([.int .i64 y_6.1.Source, .str y_6.1.Host, .int .i64 y_6.1.Machine, .int .i64 y_6.1.Day, .int .i64 y_6.1.Confidence, .int .i64 y_6.1.Kind, .str y_6.1.Subject, .int .i64 y_6.1.Use.Alg, .int .i64 y_6.1.Use.Bits, .int .i64 y_6.1.Number, .str y_6.1.Text] : List C).drop 0), .elt (([.int .i64 y_6.2.Source, .str y_6.2.Host, .int .i64 y_6.2.Machine, .int .i64 y_6.2.Day, .int .i64 y_6.2.Confidence, .int .i64 y_6.2.Kind, .str y_6.2.Subject, .int .i64 y_6.2.Use.Alg, .int .i64 y_6.2.Use.Bits, .int .i64 y_6.2.Number, .str y_6.2.Text] : List C).drop 0)]), (6, .clo 97 0 [.elt (([.raw (.func (.func 108) #[] #[])] : List C).drop 0), .elt (([.int .i64 y_7.1.Source, .str y_7.1.Host, .int .i64 y_7.1.Machine, .int .i64 y_7.1.Day, .int .i64 y_7.1.Confidence, .int .i64 y_7.1.Kind, .str y_7.1.Subject, .int .i64 y_7.1.Use.Alg, .int .i64 y_7.1.Use.Bits, .int .i64 y_7.1.Number, .str y_7.1.Text] : List C).drop 0), .elt (([.int .i64 y_7.2.Source, .str y_7.2.Host, .int .i64 y_7.2.Machine, .int .i64 y_7.2.Day, .int .i64 y_7.2.Confidence, .int .i64 y_7.2.Kind, .str y_7.2.Subject, .int .i64 y_7.2.Use.Alg, .int .i64 y_7.2.Use.Bits, .int .i64 y_7.2.Number, .str y_7.2.Text] : List C).drop 0)]), (7, .clo 97 0 [.elt (([.raw (.func (.func 109) #[] #[])] : List C).drop 0), .elt (([.int .i64 y_8.1.Source, .str y_8.1.Host, .int .i64 y_8.1.Machine, .int .i64 y_8.1.Day, .int .i64 y_8.1.Confidence, .int .i64 y_8.1.Kind, .str y_8.1.Subject, .int .i64 y_8.1.Use.Alg, .int .i64 y_8.1.Use.Bits, .int .i64 y_8.1.Number, .str y_8.1.Text] : List C).drop 0), .elt (([.int .i64 y_8.2.Source, .str y_8.2.Host, .int .i64 y_8.2.Machine, .int .i64 y_8.2.Day, .int .i64 y_8.2.Confidence, .int .i64 y_8.2.Kind, .str y_8.2.Subject, .int .i64 y_8.2.Use.Alg, .int .i64 y_8.2.Use.Bits, .int .i64 y_8.2.Number, .str y_8.2.Text] : List C).drop 0)]), (8, .clo 100 0 [.elt (([.raw (.func (.func 110) #[] #[])] : List C).drop 0), .elt (([.int .i64 y_9.1.Source, .str y_9.1.Host, .int .i64 y_9.1.Machine, .int .i64 y_9.1.Day, .int .i64 y_9.1.Confidence, .int .i64 y_9.1.Kind, .str y_9.1.Subject, .int .i64 y_9.1.Use.Alg, .int .i64 y_9.1.Use.Bits, .int .i64 y_9.1.Number, .str y_9.1.Text] : List C).drop 0), .elt (([.int .i64 y_9.2.Source, .str y_9.2.Host, .int .i64 y_9.2.Machine, .int .i64 y_9.2.Day, .int .i64 y_9.2.Confidence, .int .i64 y_9.2.Kind, .str y_9.2.Subject, .int .i64 y_9.2.Use.Alg, .int .i64 y_9.2.Use.Bits, .int .i64 y_9.2.Number, .str y_9.2.Text] : List C).drop 0)]), (9, .clo 97 0 [.elt (([.raw (.func (.func 111) #[] #[])] : List C).drop 0), .elt (([.int .i64 y_10.1.Source, .str y_10.1.Host, .int .i64 y_10.1.Machine, .int .i64 y_10.1.Day, .int .i64 y_10.1.Confidence, .int .i64 y_10.1.Kind, .str y_10.1.Subject, .int .i64 y_10.1.Use.Alg, .int .i64 y_10.1.Use.Bits, .int .i64 y_10.1.Number, .str y_10.1.Text] : List C).drop 0), .elt (([.int .i64 y_10.2.Source, .str y_10.2.Host, .int .i64 y_10.2.Machine, .int .i64 y_10.2.Day, .int .i64 y_10.2.Confidence, .int .i64 y_10.2.Kind, .str y_10.2.Subject, .int .i64 y_10.2.Use.Alg, .int .i64 y_10.2.Use.Bits, .int .i64 y_10.2.Number, .str y_10.2.Text] : List C).drop 0)])]) (pi := 10) On aBw (by decide) (by kernel_rfl) rfl (by decide) rfl) rfl rfl (fun _ => ⟨_, rfl⟩) ?_
 rintro _ rfl
 refine Lf (rd := [208]) rfl rfl (.lenV On) rfl rfl (fun _ => ⟨_, rfl⟩) ?_
 rintro _ rfl
 refine Bj fun B => ?_
 refine Ap <| iO 13 ?_
 refine W0 ?_
 refine Bh 232 240 B fun B => ?_
 refine Aj <| Ip rfl (fun h => ?_) (fun h => ?_)
 refine Dg ?_
 refine Aj <| Ap <| B9 240 264 B ?_
 refine Lf (rd := [208]) rfl rfl (.idxV (j := 0) On rfl (Nat.le_of_ble_eq_true rfl)) rfl rfl (fun _ => ⟨_, rfl⟩) ?_
 rintro _ rfl
 refine Lf (rd := [208]) rfl rfl (.loadV Qq rfl) rfl rfl (fun _ => ⟨_, rfl⟩) ?_
 rintro _ rfl
 refine Bj fun B => ?_
 refine B9 264 288 B ?_
 refine Aw ?_
 obtain ⟨y_12, hy_12, G⟩ := Ab G
 refine Cy (rd := []) (ps := []) (gs := []) false rfl rfl (Oa _ _ _ hy_12) rfl rfl (.cons .elt (.cons .elt (.cons .elt .nil))) rfl rfl (by intro h; cases h) rfl rfl rfl rfl ?_
 refine Bj fun B => ?_
 refine Bh 288 304 B fun B => ?_
 refine C4 rfl G (fun h9 G => ?_) fun h9 G => ?_
 refine B9 304 320 B ?_
 exact De
 refine Dg ?_
 refine Ak (B8 _ _ []) 304 320 B rfl rfl ?_
 refine C0 rfl rfl (Na (z := 1) (by decide)) rfl rfl ?_
 refine Bj fun B => ?_
 refine W0 ?_
 refine Bh 320 328 B fun B => ?_
 refine Aj <| Ip rfl (fun h => ?_) (fun h => ?_)
 refine Dg ?_
 refine Aj <| Ap <| B9 328 352 B ?_
 refine Lf (rd := [208]) rfl rfl (.idxV (j := 1) On rfl (Nat.le_of_ble_eq_true rfl)) rfl rfl (fun _ => ⟨_, rfl⟩) ?_
 rintro _ rfl
 refine Lf (rd := [208]) rfl rfl (.loadV Qq rfl) rfl rfl (fun _ => ⟨_, rfl⟩) ?_
 rintro _ rfl
 refine Bj fun B => ?_
 refine B9 352 376 B ?_
 refine Aw ?_
 obtain ⟨y_13, hy_13, G⟩ := Ab G
 refine Cy (rd := []) (ps := []) (gs := []) false rfl rfl (Ns _ _ _ hy_13) rfl rfl (.cons .elt (.cons .elt (.cons .elt .nil))) rfl rfl (by intro h; cases h) rfl rfl rfl rfl ?_
 refine Bj fun B => ?_
 refine Bh 376 392 B fun B => ?_
 refine C4 rfl G (fun h16 G => ?_) fun h16 G => ?_
 refine B9 392 408 B ?_
 exact De
 refine Dg ?_
 refine Ak (B8 _ _ []) 392 408 B rfl rfl ?_
 refine C0 rfl rfl (Na (z := 2) (by decide)) rfl rfl ?_
 refine Bj fun B => ?_
 refine W0 ?_
 refine Bh 408 416 B fun B => ?_
 refine Aj <| Ip rfl (fun h => ?_) (fun h => ?_)
 refine Dg ?_
 refine Aj <| Ap <| B9 416 440 B ?_
 refine Lf (rd := [208]) rfl rfl (.idxV (j := 2) On rfl (Nat.le_of_ble_eq_true rfl)) rfl rfl (fun _ => ⟨_, rfl⟩) ?_
 rintro _ rfl
 refine Lf (rd := [208]) rfl rfl (.loadV Qq rfl) rfl rfl (fun _ => ⟨_, rfl⟩) ?_
 rintro _ rfl
 refine Bj fun B => ?_
 refine B9 440 464 B ?_
 refine Aw ?_
 obtain ⟨y_14, hy_14, G⟩ := Ab G
 refine Cy (rd := []) (ps := []) (gs := []) false rfl rfl (Nf _ _ _ hy_14) rfl rfl (.cons .elt (.cons .elt (.cons .elt .nil))) rfl rfl (by intro h; cases h) rfl rfl rfl rfl ?_
 refine Bj fun B => ?_
 refine Bh 464 480 B fun B => ?_
 refine C4 rfl G (fun h23 G => ?_) fun h23 G => ?_
 refine B9 480 496 B ?_
 exact De
 refine Dg ?_
 refine Ak (B8 _ _ []) 480 496 B rfl rfl ?_
 refine C0 rfl rfl (Na (z := 3) (by decide)) rfl rfl ?_
 refine Bj fun B => ?_
 refine W0 ?_
 refine Bh 496 504 B fun B => ?_
 refine Aj <| Ip rfl (fun h => ?_) (fun h => ?_)
 refine Dg ?_
 refine Aj <| Ap <| B9 504 528 B ?_
 refine Lf (rd := [208]) rfl rfl (.idxV (j := 3) On rfl (Nat.le_of_ble_eq_true rfl)) rfl rfl (fun _ => ⟨_, rfl⟩) ?_
 rintro _ rfl
 refine Lf (rd := [208]) rfl rfl (.loadV Qq rfl) rfl rfl (fun _ => ⟨_, rfl⟩) ?_
 rintro _ rfl
 refine Bj fun B => ?_
 refine B9 528 552 B ?_
 refine Aw ?_
 obtain ⟨y_15, hy_15, G⟩ := Ab G
 refine Cy (rd := []) (ps := []) (gs := []) false rfl rfl (Ng _ _ _ hy_15) rfl rfl (.cons .elt (.cons .elt (.cons .elt .nil))) rfl rfl (by intro h; cases h) rfl rfl rfl rfl ?_
 refine Bj fun B => ?_
 refine Bh 552 568 B fun B => ?_
 refine C4 rfl G (fun h30 G => ?_) fun h30 G => ?_
 refine B9 568 584 B ?_
 exact De
 refine Dg ?_
 refine Ak (B8 _ _ []) 568 584 B rfl rfl ?_
 refine C0 rfl rfl (Na (z := 4) (by decide)) rfl rfl ?_
 refine Bj fun B => ?_
 refine W0 ?_
 refine Bh 584 592 B fun B => ?_
 refine Aj <| Ip rfl (fun h => ?_) (fun h => ?_)
 refine Dg ?_
 refine Aj <| Ap <| B9 592 616 B ?_
 refine Lf (rd := [208]) rfl rfl (.idxV (j := 4) On rfl (Nat.le_of_ble_eq_true rfl)) rfl rfl (fun _ => ⟨_, rfl⟩) ?_
 rintro _ rfl
 refine Lf (rd := [208]) rfl rfl (.loadV Qq rfl) rfl rfl (fun _ => ⟨_, rfl⟩) ?_
 rintro _ rfl
 refine Bj fun B => ?_
 refine B9 616 640 B ?_
 refine Aw ?_
 obtain ⟨y_16, hy_16, G⟩ := Ab G
 refine Cy (rd := []) (ps := []) (gs := []) false rfl rfl (N1 _ _ _ hy_16) rfl rfl (.cons .elt (.cons .elt (.cons .elt .nil))) rfl rfl (by intro h; cases h) rfl rfl rfl rfl ?_
 refine Bj fun B => ?_
 refine Bh 640 656 B fun B => ?_
 refine C4 rfl G (fun h37 G => ?_) fun h37 G => ?_
 refine B9 656 672 B ?_
 exact De
 refine Dg ?_
 refine Ak (B8 _ _ []) 656 672 B rfl rfl ?_
 refine C0 rfl rfl (Na (z := 5) (by decide)) rfl rfl ?_
 refine Bj fun B => ?_
 refine W0 ?_
 refine Bh 672 680 B fun B => ?_
 refine Aj <| Ip rfl (fun h => ?_) (fun h => ?_)
 refine Dg ?_
 refine Aj <| Ap <| B9 680 704 B ?_
 refine Lf (rd := [208]) rfl rfl (.idxV (j := 5) On rfl (Nat.le_of_ble_eq_true rfl)) rfl rfl (fun _ => ⟨_, rfl⟩) ?_
 rintro _ rfl
 refine Lf (rd := [208]) rfl rfl (.loadV Qq rfl) rfl rfl (fun _ => ⟨_, rfl⟩) ?_
 rintro _ rfl
 refine Bj fun B => ?_
 refine B9 704 728 B ?_
 refine Aw ?_
 obtain ⟨y_17, hy_17, G⟩ := Ab G
 refine Cy (rd := []) (ps := []) (gs := []) false rfl rfl (Nn _ _ _ hy_17) rfl rfl (.cons .elt (.cons .elt (.cons .elt .nil))) rfl rfl (by intro h; cases h) rfl rfl rfl rfl ?_
 refine Bj fun B => ?_
 refine Bh 728 744 B fun B => ?_
 refine C4 rfl G (fun h44 G => ?_) fun h44 G => ?_
 refine B9 744 760 B ?_
 exact De
 refine Dg ?_
 refine Ak (B8 _ _ []) 744 760 B rfl rfl ?_
 refine C0 rfl rfl (Na (z := 6) (by decide)) rfl rfl ?_
 refine Bj fun B => ?_
 refine W0 ?_
 refine Bh 760 768 B fun B => ?_
 refine Aj <| Ip rfl (fun h => ?_) (fun h => ?_)
 refine Dg ?_
 refine Aj <| Ap <| B9 768 792 B ?_
 refine Lf (rd := [208]) rfl rfl (.idxV (j := 6) On rfl (Nat.le_of_ble_eq_true rfl)) rfl rfl (fun _ => ⟨_, rfl⟩) ?_
 rintro _ rfl
 refine Lf (rd := [208]) rfl rfl (.loadV Qq rfl) rfl rfl (fun _ => ⟨_, rfl⟩) ?_
 rintro _ rfl
 refine Bj fun B => ?_
 refine B9 792 816 B ?_
 refine Aw ?_
 obtain ⟨y_18, hy_18, G⟩ := Ab G
 refine Cy (rd := []) (ps := []) (gs := []) false rfl rfl (Nh _ _ _ hy_18) rfl rfl (.cons .elt (.cons .elt (.cons .elt .nil))) rfl rfl (by intro h; cases h) rfl rfl rfl rfl ?_
 refine Bj fun B => ?_
 refine Bh 816 832 B fun B => ?_
 refine C4 rfl G (fun h51 G => ?_) fun h51 G => ?_
 refine B9 832 848 B ?_
 exact De
 refine Dg ?_
 refine Ak (B8 _ _ []) 832 848 B rfl rfl ?_
 refine C0 rfl rfl (Na (z := 7) (by decide)) rfl rfl ?_
 refine Bj fun B => ?_
 refine W0 ?_
 refine Bh 848 856 B fun B => ?_
 refine Aj <| Ip rfl (fun h => ?_) (fun h => ?_)
 refine Dg ?_
 refine Aj <| Ap <| B9 856 880 B ?_
 refine Lf (rd := [208]) rfl rfl (.idxV (j := 7) On rfl (Nat.le_of_ble_eq_true rfl)) rfl rfl (fun _ => ⟨_, rfl⟩) ?_
 rintro _ rfl
 refine Lf (rd := [208]) rfl rfl (.loadV Qq rfl) rfl rfl (fun _ => ⟨_, rfl⟩) ?_
 rintro _ rfl
 refine Bj fun B => ?_
 refine B9 880 904 B ?_
 refine Aw ?_
 obtain ⟨y_19, hy_19, G⟩ := Ab G
 refine Cy (rd := []) (ps := []) (gs := []) false rfl rfl (N2 _ _ _ hy_19) rfl rfl (.cons .elt (.cons .elt (.cons .elt .nil))) rfl rfl (by intro h; cases h) rfl rfl rfl rfl ?_
 refine Bj fun B => ?_
 refine Bh 904 920 B fun B => ?_
 refine C4 rfl G (fun h58 G => ?_) fun h58 G => ?_
 refine B9 920 936 B ?_
 exact De
 refine Dg ?_
 refine Ak (B8 _ _ []) 920 936 B rfl rfl ?_
 refine C0 rfl rfl (Na (z := 8) (by decide)) rfl rfl ?_
 refine Bj fun B => ?_
 refine W0 ?_
 refine Bh 936 944 B fun B => ?_
 refine Aj <| Ip rfl (fun h => ?_) (fun h => ?_)
 refine Dg ?_
 refine Aj <| Ap <| B9 944 968 B ?_
 refine Lf (rd := [208]) rfl rfl (.idxV (j := 8) On rfl (Nat.le_of_ble_eq_true rfl)) rfl rfl (fun _ => ⟨_, rfl⟩) ?_
 rintro _ rfl
 refine Lf (rd := [208]) rfl rfl (.loadV Qq rfl) rfl rfl (fun _ => ⟨_, rfl⟩) ?_
 rintro _ rfl
 refine Bj fun B => ?_
 refine B9 968 992 B ?_
 refine Aw ?_
 obtain ⟨y_20, hy_20, G⟩ := Ab G
 refine Cy (rd := []) (ps := []) (gs := []) false rfl rfl (M6 _ _ _ hy_20) rfl rfl (.cons .elt (.cons .elt (.cons .elt .nil))) rfl rfl (by intro h; cases h) rfl rfl rfl rfl ?_
 refine Bj fun B => ?_
 refine Bh 992 1008 B fun B => ?_
 refine C4 rfl G (fun h65 G => ?_) fun h65 G => ?_
 refine B9 1008 1024 B ?_
 exact De
 refine Dg ?_
 refine Ak (B8 _ _ []) 1008 1024 B rfl rfl ?_
 refine C0 rfl rfl (Na (z := 9) (by decide)) rfl rfl ?_
 refine Bj fun B => ?_
 refine W0 ?_
 refine Bh 1024 1032 B fun B => ?_
 refine Aj <| Ip rfl (fun h => ?_) (fun h => ?_)
 refine Dg ?_
 refine Aj <| Ap <| B9 1032 1056 B ?_
 refine Lf (rd := [208]) rfl rfl (.idxV (j := 9) On rfl (Nat.le_of_ble_eq_true rfl)) rfl rfl (fun _ => ⟨_, rfl⟩) ?_
 rintro _ rfl
 refine Lf (rd := [208]) rfl rfl (.loadV Qq rfl) rfl rfl (fun _ => ⟨_, rfl⟩) ?_
 rintro _ rfl
 refine Bj fun B => ?_
 refine B9 1056 1080 B ?_
 refine Aw ?_
 obtain ⟨y_21, hy_21, G⟩ := Ab G
 refine Cy (rd := []) (ps := []) (gs := []) false rfl rfl (Oc _ _ _ hy_21) rfl rfl (.cons .elt (.cons .elt (.cons .elt .nil))) rfl rfl (by intro h; cases h) rfl rfl rfl rfl ?_
 refine Bj fun B => ?_
 refine Bh 1080 1096 B fun B => ?_
 refine C4 rfl G (fun h72 G => ?_) fun h72 G => ?_
 refine B9 1096 1112 B ?_
 exact De
 refine Dg ?_
 refine Ak (B8 _ _ []) 1096 1112 B rfl rfl ?_
 refine C0 rfl rfl (Na (z := 10) (by decide)) rfl rfl ?_
 refine Bj fun B => ?_
 refine W0 ?_
 refine Bh 1112 1120 B fun B => ?_
 refine Aj <| Ip rfl (fun h => ?_) (fun h => ?_)
 refine Dg ?_
 refine Aj <| Ap <| B9 1120 1144 B ?_
 refine Lf (rd := [208]) rfl rfl (.idxV (j := 10) On rfl (Nat.le_of_ble_eq_true rfl)) rfl rfl (fun _ => ⟨_, rfl⟩) ?_
 rintro _ rfl
 refine Lf (rd := [208]) rfl rfl (.loadV Qq rfl) rfl rfl (fun _ => ⟨_, rfl⟩) ?_
 rintro _ rfl
 refine Bj fun B => ?_
 refine B9 1144 1168 B ?_
 refine Aw ?_
 obtain ⟨y_22, hy_22, G⟩ := Ab G
 refine Cy (rd := []) (ps := []) (gs := []) false rfl rfl (Ni _ _ _ hy_22) rfl rfl (.cons .elt (.cons .elt (.cons .elt .nil))) rfl rfl (by intro h; cases h) rfl rfl rfl rfl ?_
 refine Bj fun B => ?_
 refine Bh 1168 1184 B fun B => ?_
 refine C4 rfl G (fun h79 G => ?_) fun h79 G => ?_
 refine B9 1184 1200 B ?_
 exact De
 refine Dg ?_
 refine Ak (B8 _ _ []) 1184 1200 B rfl rfl ?_
 refine C0 rfl rfl (Na (z := 11) (by decide)) rfl rfl ?_
 refine Bj fun B => ?_
 refine W0 ?_
 refine Bh 1200 1208 B fun B => ?_
 refine Aj <| Ip rfl (fun h => ?_) (fun h => ?_)
 exact absurd h (by first | decide | exact fun h => nomatch (show false = true from h) | exact fun h => nomatch (show true = false from h))
 refine Jl ?_
 refine Bh 1208 1216 B fun B => ?_
 exact La
 exact absurd h (by first | decide | exact fun h => nomatch (show false = true from h) | exact fun h => nomatch (show true = false from h))
 exact absurd h (by first | decide | exact fun h => nomatch (show false = true from h) | exact fun h => nomatch (show true = false from h))
 exact absurd h (by first | decide | exact fun h => nomatch (show false = true from h) | exact fun h => nomatch (show true = false from h))
 exact absurd h (by first | decide | exact fun h => nomatch (show false = true from h) | exact fun h => nomatch (show true = false from h))
 exact absurd h (by first | decide | exact fun h => nomatch (show false = true from h) | exact fun h => nomatch (show true = false from h))
 exact absurd h (by first | decide | exact fun h => nomatch (show false = true from h) | exact fun h => nomatch (show true = false from h))
 exact absurd h (by first | decide | exact fun h => nomatch (show false = true from h) | exact fun h => nomatch (show true = false from h))
 exact absurd h (by first | decide | exact fun h => nomatch (show false = true from h) | exact fun h => nomatch (show true = false from h))
 exact absurd h (by first | decide | exact fun h => nomatch (show false = true from h) | exact fun h => nomatch (show true = false from h))
 exact absurd h (by first | decide | exact fun h => nomatch (show false = true from h) | exact fun h => nomatch (show true = false from h))
 exact absurd h (by first | decide | exact fun h => nomatch (show false = true from h) | exact fun h => nomatch (show true = false from h))
end Go.Proofs.YtidpkjdkfkkgiaaGreat
