import Derived.Test.YtjomajedgbcngaaT1
import Derived.Test.YtjomajedgbcngaaA2
set_option linter.unusedVariables false
set_option linter.unusedSimpArgs false
set_option maxRecDepth 100000
set_option maxHeartbeats 40000000
namespace Go.Proofs.Ytjomajedgbcngaa
open Go.RowKit
theorem My (c0 : Aa) (c1 : Aa) (r : (Aa × Aa)) (hg : Fr c0 c1 = some r) : Fn Try.prog 26 0 [.val (.func (.func 42) #[] #[]), .elt (([.int .i64 c0.Source, .str c0.Host, .int .i64 c0.Machine, .int .i64 c0.Day, .int .i64 c0.Confidence, .int .i64 c0.Kind, .str c0.Subject, .int .i64 c0.Use.Alg, .int .i64 c0.Use.Bits, .int .i64 c0.Number, .str c0.Text] : List C).drop 0), .elt (([.int .i64 c1.Source, .str c1.Host, .int .i64 c1.Machine, .int .i64 c1.Day, .int .i64 c1.Confidence, .int .i64 c1.Kind, .str c1.Subject, .int .i64 c1.Use.Alg, .int .i64 c1.Use.Bits, .int .i64 c1.Number, .str c1.Text] : List C).drop 0)] [] (fun d' b' => d' = .clo 27 0 [.elt (([.raw (.func (.func 42) #[] #[])] : List C).drop 0), .elt (([.int .i64 r.1.Source, .str r.1.Host, .int .i64 r.1.Machine, .int .i64 r.1.Day, .int .i64 r.1.Confidence, .int .i64 r.1.Kind, .str r.1.Subject, .int .i64 r.1.Use.Alg, .int .i64 r.1.Use.Bits, .int .i64 r.1.Number, .str r.1.Text] : List C).drop 0), .elt (([.int .i64 r.2.Source, .str r.2.Host, .int .i64 r.2.Machine, .int .i64 r.2.Day, .int .i64 r.2.Confidence, .int .i64 r.2.Kind, .str r.2.Subject, .int .i64 r.2.Use.Alg, .int .i64 r.2.Use.Bits, .int .i64 r.2.Number, .str r.2.Text] : List C).drop 0)] /\ b' = []) := by
 unfold Fr at hg
 refine Fn.of Try.func26 rfl rfl rfl fun w0 I ρ0 => ?_
 show Ci _ ⟨w0, I, ρ0, 0, 0, 6⟩ _ _ _
 refine Bn 0 16 Bg ?_
 refine Al ?_
 refine Ai fun hU => ?_
 refine Ah ?_
 refine Em (σ' := mk [(1, .elt (([.int .i64 c0.Source, .str c0.Host, .int .i64 c0.Machine, .int .i64 c0.Day, .int .i64 c0.Confidence, .int .i64 c0.Kind, .str c0.Subject, .int .i64 c0.Use.Alg, .int .i64 c0.Use.Bits, .int .i64 c0.Number, .str c0.Text] : List C).drop 0)), (2, .elt (([.int .i64 c1.Source, .str c1.Host, .int .i64 c1.Machine, .int .i64 c1.Day, .int .i64 c1.Confidence, .int .i64 c1.Kind, .str c1.Subject, .int .i64 c1.Use.Alg, .int .i64 c1.Use.Bits, .int .i64 c1.Number, .str c1.Text] : List C).drop 0)), (3, .elt (([.raw (.func (.func 42) #[] #[])] : List C).drop 0))] [] 0) ((by exact Nl.lists [] rfl rfl ⟨⟨_, rfl, .elt _⟩, ⟨_, rfl, .elt _⟩, ⟨_, rfl, .frzb (ks := [none]) rfl (.cons .func .nil) (E6 rfl)⟩, trivial⟩ trivial)) ?_
 refine Ad (Bo _ _ []) 0 16 Bg rfl rfl ?_
 refine Al ?_
 refine Ai fun hU => ?_
 refine Bj ?_
 obtain rfl := oi_ hg
 exact Bi [] ⟨rfl, rfl⟩
theorem K2 (f : Aa) (r : ByteArray) (hg : F7 f = some r) : Fn Try.prog 32 0 [.agg (Aa.dv f)] [] (fun d' b' => d' = .val (.string r) /\ b' = []) := by
 unfold F7 at hg
 refine Fn.of Try.func32 rfl rfl rfl fun w0 I ρ0 => ?_
 show Ci _ ⟨w0, I, ρ0, 0, 0, 5⟩ _ _ _
 refine Bn 0 16 Bg ?_
 refine Al ?_
 refine Ai fun hU => ?_
 refine Bn 16 40 hU ?_
 refine Al ?_
 refine Ai fun hU => ?_
 refine Bj ?_
 obtain rfl := oi_ hg
 exact Bi [] ⟨rfl, rfl⟩
theorem Iu (a : ByteArray) (b : ByteArray) (r : Int) (hg : Dy a b = some r) : Fn Try.prog 60 0 [.val (.string a), .val (.string b)] [] (fun d' b' => d' = .val (.int .i64 r) /\ b' = []) := by
 unfold Dy at hg
 refine Fn.of Try.func60 rfl rfl rfl fun w0 I ρ0 => ?_
 show Ci _ ⟨w0, I, ρ0, 0, 0, 8⟩ _ _ _
 refine Bn 0 8 Bg ?_
 refine Al ?_
 refine Ai fun hU => ?_
 refine Bn 8 40 hU ?_
 refine Al ?_
 refine I3 (rd := []) rfl rfl (.extV rfl gI (qN a b)) rfl rfl (fun _ => ⟨_, rfl⟩) ?_
 rintro _ rfl
 refine Al ?_
 refine Ai fun hU => ?_
 refine Bj ?_
 obtain rfl := oi_ hg
 exact Bi [] ⟨rfl, rfl⟩
theorem Ij (a : ByteArray) (b : ByteArray) (r : Int) (hg : Ei a b = some r) : Fn Try.prog 31 0 [.val (.string a), .val (.string b)] [] (fun d' b' => d' = .val (.int .i64 r) /\ b' = []) := by
 unfold Ei at hg
 refine Fn.of Try.func31 rfl rfl rfl fun w0 I ρ0 => ?_
 show Ci _ ⟨w0, I, ρ0, 0, 0, 8⟩ _ _ _
 refine Bn 0 8 Bg ?_
 refine Al ?_
 refine Ai fun hU => ?_
 refine Bn 8 40 hU ?_
 refine Al ?_
 obtain ⟨y, hy, hg⟩ := Ac hg
 refine E5 (Iu _ _ _ hy) ?_
 refine Al ?_
 refine Ai fun hU => ?_
 refine Bj ?_
 obtain rfl := oi_ hg
 exact Bi [] ⟨rfl, rfl⟩
theorem Lr (c1 : Aa) (c2 : Aa) (r : Int) (hg : Ez c1 c2 = some r) : Fn Try.prog 30 0 [.elt (([.raw (.func (.func 32) #[] #[])] : List C).drop 0), .elt (([.int .i64 c1.Source, .str c1.Host, .int .i64 c1.Machine, .int .i64 c1.Day, .int .i64 c1.Confidence, .int .i64 c1.Kind, .str c1.Subject, .int .i64 c1.Use.Alg, .int .i64 c1.Use.Bits, .int .i64 c1.Number, .str c1.Text] : List C).drop 0), .elt (([.int .i64 c2.Source, .str c2.Host, .int .i64 c2.Machine, .int .i64 c2.Day, .int .i64 c2.Confidence, .int .i64 c2.Kind, .str c2.Subject, .int .i64 c2.Use.Alg, .int .i64 c2.Use.Bits, .int .i64 c2.Number, .str c2.Text] : List C).drop 0)] [] (fun d' b' => d' = .val (.int .i64 r) /\ b' = []) := by
 unfold Ez at hg
 refine Fn.of Try.func30 rfl rfl rfl fun w0 I ρ0 => ?_
 show Ci _ ⟨w0, I, ρ0, 0, 0, 11⟩ _ _ _
 refine Bn 0 8 Bg ?_
 refine Al ?_
 refine Ai fun hU => ?_
 refine Ah ?_
 refine Bv (Bo _ _ []) (by kernel_rfl) [0, 0, 3, 0, 0, 31, 63, 127] 8 72 hU rfl rfl (by kernel_rfl) ?_
 refine Ca rfl rfl (Ch Xc (c := .raw (.func (.func 32) #[] #[])) rfl) rfl rfl ?_
 refine Ca rfl rfl (Cd Cg (cs2 := [.int .i64 c1.Source, .str c1.Host, .int .i64 c1.Machine, .int .i64 c1.Day, .int .i64 c1.Confidence, .int .i64 c1.Kind, .str c1.Subject, .int .i64 c1.Use.Alg, .int .i64 c1.Use.Bits, .int .i64 c1.Number, .str c1.Text]) rfl (Nat.le_of_ble_eq_true rfl)) rfl rfl ?_
 obtain ⟨y, hy, hg⟩ := Ac hg
 refine Dr (rd := []) (ps := []) (gs := []) false rfl rfl (K2 _ _ hy) rfl rfl (.cons (.agg (.cons .val (.cons .val (.cons .val (.cons .val (.cons .val (.cons .val (.cons .val (.cons .val (.cons .val (.cons .val (.cons .val .nil)))))))))))) .nil) rfl rfl (by intro h; cases h) rfl rfl rfl rfl ?_
 refine Ca rfl rfl (Ch Xc (c := .raw (.func (.func 32) #[] #[])) rfl) rfl rfl ?_
 refine Ca rfl rfl (Cd Cg (cs2 := [.int .i64 c2.Source, .str c2.Host, .int .i64 c2.Machine, .int .i64 c2.Day, .int .i64 c2.Confidence, .int .i64 c2.Kind, .str c2.Subject, .int .i64 c2.Use.Alg, .int .i64 c2.Use.Bits, .int .i64 c2.Number, .str c2.Text]) rfl (Nat.le_of_ble_eq_true rfl)) rfl rfl ?_
 obtain ⟨y_2, hy_2, hg⟩ := Ac hg
 refine Dr (rd := []) (ps := []) (gs := []) false rfl rfl (K2 _ _ hy_2) rfl rfl (.cons (.agg (.cons .val (.cons .val (.cons .val (.cons .val (.cons .val (.cons .val (.cons .val (.cons .val (.cons .val (.cons .val (.cons .val .nil)))))))))))) .nil) rfl rfl (by intro h; cases h) rfl rfl rfl rfl ?_
 obtain ⟨y_3, hy_3, hg⟩ := Ac hg
 refine E5 (Ij _ _ _ hy_3) ?_
 refine Al ?_
 refine Ai fun hU => ?_
 refine Bj ?_
 obtain rfl := oi_ hg
 exact Bi [] ⟨rfl, rfl⟩
theorem K0 (f : Aa) (r : Int) (hg : F9 f = some r) : Fn Try.prog 33 0 [.agg (Aa.dv f)] [] (fun d' b' => d' = .val (.int .i64 r) /\ b' = []) := by
 unfold F9 at hg
 refine Fn.of Try.func33 rfl rfl rfl fun w0 I ρ0 => ?_
 show Ci _ ⟨w0, I, ρ0, 0, 0, 5⟩ _ _ _
 refine Bn 0 16 Bg ?_
 refine Al ?_
 refine Ai fun hU => ?_
 refine Bn 16 40 hU ?_
 refine Al ?_
 refine Ai fun hU => ?_
 refine Bj ?_
 obtain rfl := oi_ hg
 exact Bi [] ⟨rfl, rfl⟩
theorem Nt (x' : Int) (r : Bool) (hg : Hb x' = some r) : Fn Try.prog 59 0 [.val (.int .i64 x')] [] (fun d' b' => d' = .val (.bool r) /\ b' = []) := by
 unfold Hb at hg
 refine Fn.of Try.func59 rfl rfl rfl fun w0 I ρ0 => ?_
 show Ci _ ⟨w0, I, ρ0, 0, 0, 6⟩ _ _ _
 refine Bn 0 8 Bg ?_
 refine Al ?_
 refine Ai fun hU => ?_
 refine Bn 8 40 hU ?_
 refine Al ?_
 refine Ai fun hU => ?_
 refine Bj ?_
 obtain rfl := oi_ hg
 exact Bi [] ⟨rfl, rfl⟩
theorem D7 (x' : Int) (y : Int) (r : Int) (hg : De x' y = some r) : Fn Try.prog 28 0 [.val (.int .i64 x'), .val (.int .i64 y)] [] (fun d' b' => d' = .val (.int .i64 r) /\ b' = []) := by
 unfold De at hg
 refine Fn.of Try.func28 rfl rfl rfl fun w0 I ρ0 => ?_
 show Ci _ ⟨w0, I, ρ0, 0, 0, 20⟩ _ _ _
 refine Bn 0 8 Bg ?_
 refine Al ?_
 refine Ai fun hU => ?_
 refine Bn 8 32 hU ?_
 refine Al ?_
 obtain ⟨y_2, hy_2, hg⟩ := Ac hg
 refine E5 (Nt _ _ hy_2) ?_
 refine Al ?_
 refine Ai fun hU => ?_
 refine Bn 32 56 hU ?_
 refine Al ?_
 obtain ⟨y_3, hy_3, hg⟩ := Ac hg
 refine E5 (Nt _ _ hy_3) ?_
 refine Al ?_
 refine Ai fun hU => ?_
 refine Ah ?_
 refine Bn 56 64 hU ?_
 refine Al ?_
 refine Ai fun hU => ?_
 refine C4 rfl hg (fun h5 hg => ?_) fun h5 hg => ?_
 ·refine Ah ?_
  refine Bn 64 72 hU ?_
  refine Al ?_
  refine Ai fun hU => ?_
  refine C4 rfl hg (fun h7 hg => ?_) fun h7 hg => ?_
  ·refine Ah ?_
   refine Ad (Bo _ _ []) 72 80 hU rfl rfl ?_
   refine Al ?_
   refine Ai fun hU => ?_
   refine Bj ?_
   obtain rfl := oi_ hg
   exact Bi [] ⟨rfl, rfl⟩
  ·refine Aq ?_
   repeat first | refine Cw ?_ | refine Cz ?_
   refine Bn 72 80 hU ?_
   refine Al ?_
   refine Ai fun hU => ?_
   refine Bj ?_
   obtain rfl := oi_ hg
   exact Bi [] ⟨rfl, rfl⟩
 ·refine Aq ?_
  repeat first | refine Cw ?_ | refine Cz ?_
  refine Ah ?_
  refine Bn 64 72 hU ?_
  refine Al ?_
  refine Ai fun hU => ?_
  refine C4 rfl hg (fun h11 hg => ?_) fun h11 hg => ?_
  ·refine Ah ?_
   refine Ad (Bo _ _ []) 72 80 hU rfl rfl ?_
   refine Al ?_
   refine Ai fun hU => ?_
   refine Bj ?_
   obtain rfl := oi_ hg
   exact Bi [] ⟨rfl, rfl⟩
  ·refine Aq ?_
   repeat first | refine Cw ?_ | refine Cz ?_
   refine Ah ?_
   refine Bn 72 96 hU ?_
   refine Al ?_
   refine Ai fun hU => ?_
   refine C4 rfl hg (fun h14 hg => ?_) fun h14 hg => ?_
   ·refine Ah ?_
    refine Ad (Bo _ _ []) 96 104 hU rfl rfl ?_
    refine Al ?_
    refine Ai fun hU => ?_
    refine Bj ?_
    obtain rfl := oi_ hg
    exact Bi [] ⟨rfl, rfl⟩
   ·refine Aq ?_
    repeat first | refine Cw ?_ | refine Cz ?_
    refine Ah ?_
    refine Bn 96 120 hU ?_
    refine Al ?_
    refine Ai fun hU => ?_
    refine C4 rfl hg (fun h17 hg => ?_) fun h17 hg => ?_
    ·refine Ah ?_
     refine Ad (Bo _ _ []) 120 128 hU rfl rfl ?_
     refine Al ?_
     refine Ai fun hU => ?_
     refine Bj ?_
     obtain rfl := oi_ hg
     exact Bi [] ⟨rfl, rfl⟩
    ·refine Aq ?_
     repeat first | refine Cw ?_ | refine Cz ?_
     refine Bn 120 128 hU ?_
     refine Al ?_
     refine Ai fun hU => ?_
     refine Bj ?_
     obtain rfl := oi_ hg
     exact Bi [] ⟨rfl, rfl⟩
theorem Lj (c1 : Aa) (c2 : Aa) (r : Int) (hg : Ev c1 c2 = some r) : Fn Try.prog 27 0 [.elt (([.raw (.func (.func 33) #[] #[])] : List C).drop 0), .elt (([.int .i64 c1.Source, .str c1.Host, .int .i64 c1.Machine, .int .i64 c1.Day, .int .i64 c1.Confidence, .int .i64 c1.Kind, .str c1.Subject, .int .i64 c1.Use.Alg, .int .i64 c1.Use.Bits, .int .i64 c1.Number, .str c1.Text] : List C).drop 0), .elt (([.int .i64 c2.Source, .str c2.Host, .int .i64 c2.Machine, .int .i64 c2.Day, .int .i64 c2.Confidence, .int .i64 c2.Kind, .str c2.Subject, .int .i64 c2.Use.Alg, .int .i64 c2.Use.Bits, .int .i64 c2.Number, .str c2.Text] : List C).drop 0)] [] (fun d' b' => d' = .val (.int .i64 r) /\ b' = []) := by
 unfold Ev at hg
 refine Fn.of Try.func27 rfl rfl rfl fun w0 I ρ0 => ?_
 show Ci _ ⟨w0, I, ρ0, 0, 0, 11⟩ _ _ _
 refine Bn 0 8 Bg ?_
 refine Al ?_
 refine Ai fun hU => ?_
 refine Ah ?_
 refine Bv (Bo _ _ []) (by kernel_rfl) [0, 0, 3, 0, 0, 31, 63, 127] 8 72 hU rfl rfl (by kernel_rfl) ?_
 refine Ca rfl rfl (Ch N8 (c := .raw (.func (.func 33) #[] #[])) rfl) rfl rfl ?_
 refine Ca rfl rfl (Cd Cg (cs2 := [.int .i64 c1.Source, .str c1.Host, .int .i64 c1.Machine, .int .i64 c1.Day, .int .i64 c1.Confidence, .int .i64 c1.Kind, .str c1.Subject, .int .i64 c1.Use.Alg, .int .i64 c1.Use.Bits, .int .i64 c1.Number, .str c1.Text]) rfl (Nat.le_of_ble_eq_true rfl)) rfl rfl ?_
 obtain ⟨y, hy, hg⟩ := Ac hg
 refine Dr (rd := []) (ps := []) (gs := []) false rfl rfl (K0 _ _ hy) rfl rfl (.cons (.agg (.cons .val (.cons .val (.cons .val (.cons .val (.cons .val (.cons .val (.cons .val (.cons .val (.cons .val (.cons .val (.cons .val .nil)))))))))))) .nil) rfl rfl (by intro h; cases h) rfl rfl rfl rfl ?_
 refine Ca rfl rfl (Ch N8 (c := .raw (.func (.func 33) #[] #[])) rfl) rfl rfl ?_
 refine Ca rfl rfl (Cd Cg (cs2 := [.int .i64 c2.Source, .str c2.Host, .int .i64 c2.Machine, .int .i64 c2.Day, .int .i64 c2.Confidence, .int .i64 c2.Kind, .str c2.Subject, .int .i64 c2.Use.Alg, .int .i64 c2.Use.Bits, .int .i64 c2.Number, .str c2.Text]) rfl (Nat.le_of_ble_eq_true rfl)) rfl rfl ?_
 obtain ⟨y_2, hy_2, hg⟩ := Ac hg
 refine Dr (rd := []) (ps := []) (gs := []) false rfl rfl (K0 _ _ hy_2) rfl rfl (.cons (.agg (.cons .val (.cons .val (.cons .val (.cons .val (.cons .val (.cons .val (.cons .val (.cons .val (.cons .val (.cons .val (.cons .val .nil)))))))))))) .nil) rfl rfl (by intro h; cases h) rfl rfl rfl rfl ?_
 obtain ⟨y_3, hy_3, hg⟩ := Ac hg
 refine E5 (D7 _ _ _ hy_3) ?_
 refine Al ?_
 refine Ai fun hU => ?_
 refine Bj ?_
 obtain rfl := oi_ hg
 exact Bi [] ⟨rfl, rfl⟩
theorem Kq (f : Aa) (r : Int) (hg : Ga f = some r) : Fn Try.prog 34 0 [.agg (Aa.dv f)] [] (fun d' b' => d' = .val (.int .i64 r) /\ b' = []) := by
 unfold Ga at hg
 refine Fn.of Try.func34 rfl rfl rfl fun w0 I ρ0 => ?_
 show Ci _ ⟨w0, I, ρ0, 0, 0, 5⟩ _ _ _
 refine Bn 0 16 Bg ?_
 refine Al ?_
 refine Ai fun hU => ?_
 refine Bn 16 40 hU ?_
 refine Al ?_
 refine Ai fun hU => ?_
 refine Bj ?_
 obtain rfl := oi_ hg
 exact Bi [] ⟨rfl, rfl⟩
theorem Ln (c1 : Aa) (c2 : Aa) (r : Int) (hg : Er c1 c2 = some r) : Fn Try.prog 27 0 [.elt (([.raw (.func (.func 34) #[] #[])] : List C).drop 0), .elt (([.int .i64 c1.Source, .str c1.Host, .int .i64 c1.Machine, .int .i64 c1.Day, .int .i64 c1.Confidence, .int .i64 c1.Kind, .str c1.Subject, .int .i64 c1.Use.Alg, .int .i64 c1.Use.Bits, .int .i64 c1.Number, .str c1.Text] : List C).drop 0), .elt (([.int .i64 c2.Source, .str c2.Host, .int .i64 c2.Machine, .int .i64 c2.Day, .int .i64 c2.Confidence, .int .i64 c2.Kind, .str c2.Subject, .int .i64 c2.Use.Alg, .int .i64 c2.Use.Bits, .int .i64 c2.Number, .str c2.Text] : List C).drop 0)] [] (fun d' b' => d' = .val (.int .i64 r) /\ b' = []) := by
 unfold Er at hg
 refine Fn.of Try.func27 rfl rfl rfl fun w0 I ρ0 => ?_
 show Ci _ ⟨w0, I, ρ0, 0, 0, 11⟩ _ _ _
 refine Bn 0 8 Bg ?_
 refine Al ?_
 refine Ai fun hU => ?_
 refine Ah ?_
 refine Bv (Bo _ _ []) (by kernel_rfl) [0, 0, 3, 0, 0, 31, 63, 127] 8 72 hU rfl rfl (by kernel_rfl) ?_
 refine Ca rfl rfl (Ch N8 (c := .raw (.func (.func 34) #[] #[])) rfl) rfl rfl ?_
 refine Ca rfl rfl (Cd Cg (cs2 := [.int .i64 c1.Source, .str c1.Host, .int .i64 c1.Machine, .int .i64 c1.Day, .int .i64 c1.Confidence, .int .i64 c1.Kind, .str c1.Subject, .int .i64 c1.Use.Alg, .int .i64 c1.Use.Bits, .int .i64 c1.Number, .str c1.Text]) rfl (Nat.le_of_ble_eq_true rfl)) rfl rfl ?_
 obtain ⟨y, hy, hg⟩ := Ac hg
 refine Dr (rd := []) (ps := []) (gs := []) false rfl rfl (Kq _ _ hy) rfl rfl (.cons (.agg (.cons .val (.cons .val (.cons .val (.cons .val (.cons .val (.cons .val (.cons .val (.cons .val (.cons .val (.cons .val (.cons .val .nil)))))))))))) .nil) rfl rfl (by intro h; cases h) rfl rfl rfl rfl ?_
 refine Ca rfl rfl (Ch N8 (c := .raw (.func (.func 34) #[] #[])) rfl) rfl rfl ?_
 refine Ca rfl rfl (Cd Cg (cs2 := [.int .i64 c2.Source, .str c2.Host, .int .i64 c2.Machine, .int .i64 c2.Day, .int .i64 c2.Confidence, .int .i64 c2.Kind, .str c2.Subject, .int .i64 c2.Use.Alg, .int .i64 c2.Use.Bits, .int .i64 c2.Number, .str c2.Text]) rfl (Nat.le_of_ble_eq_true rfl)) rfl rfl ?_
 obtain ⟨y_2, hy_2, hg⟩ := Ac hg
 refine Dr (rd := []) (ps := []) (gs := []) false rfl rfl (Kq _ _ hy_2) rfl rfl (.cons (.agg (.cons .val (.cons .val (.cons .val (.cons .val (.cons .val (.cons .val (.cons .val (.cons .val (.cons .val (.cons .val (.cons .val .nil)))))))))))) .nil) rfl rfl (by intro h; cases h) rfl rfl rfl rfl ?_
 obtain ⟨y_3, hy_3, hg⟩ := Ac hg
 refine E5 (D7 _ _ _ hy_3) ?_
 refine Al ?_
 refine Ai fun hU => ?_
 refine Bj ?_
 obtain rfl := oi_ hg
 exact Bi [] ⟨rfl, rfl⟩
theorem K9 (f : Aa) (r : ByteArray) (hg : F5 f = some r) : Fn Try.prog 35 0 [.agg (Aa.dv f)] [] (fun d' b' => d' = .val (.string r) /\ b' = []) := by
 unfold F5 at hg
 refine Fn.of Try.func35 rfl rfl rfl fun w0 I ρ0 => ?_
 show Ci _ ⟨w0, I, ρ0, 0, 0, 5⟩ _ _ _
 refine Bn 0 16 Bg ?_
 refine Al ?_
 refine Ai fun hU => ?_
 refine Bn 16 40 hU ?_
 refine Al ?_
 refine Ai fun hU => ?_
 refine Bj ?_
 obtain rfl := oi_ hg
 exact Bi [] ⟨rfl, rfl⟩
theorem Lh (c1 : Aa) (c2 : Aa) (r : Int) (hg : Eu c1 c2 = some r) : Fn Try.prog 30 0 [.elt (([.raw (.func (.func 35) #[] #[])] : List C).drop 0), .elt (([.int .i64 c1.Source, .str c1.Host, .int .i64 c1.Machine, .int .i64 c1.Day, .int .i64 c1.Confidence, .int .i64 c1.Kind, .str c1.Subject, .int .i64 c1.Use.Alg, .int .i64 c1.Use.Bits, .int .i64 c1.Number, .str c1.Text] : List C).drop 0), .elt (([.int .i64 c2.Source, .str c2.Host, .int .i64 c2.Machine, .int .i64 c2.Day, .int .i64 c2.Confidence, .int .i64 c2.Kind, .str c2.Subject, .int .i64 c2.Use.Alg, .int .i64 c2.Use.Bits, .int .i64 c2.Number, .str c2.Text] : List C).drop 0)] [] (fun d' b' => d' = .val (.int .i64 r) /\ b' = []) := by
 unfold Eu at hg
 refine Fn.of Try.func30 rfl rfl rfl fun w0 I ρ0 => ?_
 show Ci _ ⟨w0, I, ρ0, 0, 0, 11⟩ _ _ _
 refine Bn 0 8 Bg ?_
 refine Al ?_
 refine Ai fun hU => ?_
 refine Ah ?_
 refine Bv (Bo _ _ []) (by kernel_rfl) [0, 0, 3, 0, 0, 31, 63, 127] 8 72 hU rfl rfl (by kernel_rfl) ?_
 refine Ca rfl rfl (Ch Xc (c := .raw (.func (.func 35) #[] #[])) rfl) rfl rfl ?_
 refine Ca rfl rfl (Cd Cg (cs2 := [.int .i64 c1.Source, .str c1.Host, .int .i64 c1.Machine, .int .i64 c1.Day, .int .i64 c1.Confidence, .int .i64 c1.Kind, .str c1.Subject, .int .i64 c1.Use.Alg, .int .i64 c1.Use.Bits, .int .i64 c1.Number, .str c1.Text]) rfl (Nat.le_of_ble_eq_true rfl)) rfl rfl ?_
 obtain ⟨y, hy, hg⟩ := Ac hg
 refine Dr (rd := []) (ps := []) (gs := []) false rfl rfl (K9 _ _ hy) rfl rfl (.cons (.agg (.cons .val (.cons .val (.cons .val (.cons .val (.cons .val (.cons .val (.cons .val (.cons .val (.cons .val (.cons .val (.cons .val .nil)))))))))))) .nil) rfl rfl (by intro h; cases h) rfl rfl rfl rfl ?_
 refine Ca rfl rfl (Ch Xc (c := .raw (.func (.func 35) #[] #[])) rfl) rfl rfl ?_
 refine Ca rfl rfl (Cd Cg (cs2 := [.int .i64 c2.Source, .str c2.Host, .int .i64 c2.Machine, .int .i64 c2.Day, .int .i64 c2.Confidence, .int .i64 c2.Kind, .str c2.Subject, .int .i64 c2.Use.Alg, .int .i64 c2.Use.Bits, .int .i64 c2.Number, .str c2.Text]) rfl (Nat.le_of_ble_eq_true rfl)) rfl rfl ?_
 obtain ⟨y_2, hy_2, hg⟩ := Ac hg
 refine Dr (rd := []) (ps := []) (gs := []) false rfl rfl (K9 _ _ hy_2) rfl rfl (.cons (.agg (.cons .val (.cons .val (.cons .val (.cons .val (.cons .val (.cons .val (.cons .val (.cons .val (.cons .val (.cons .val (.cons .val .nil)))))))))))) .nil) rfl rfl (by intro h; cases h) rfl rfl rfl rfl ?_
 obtain ⟨y_3, hy_3, hg⟩ := Ac hg
 refine E5 (Ij _ _ _ hy_3) ?_
 refine Al ?_
 refine Ai fun hU => ?_
 refine Bj ?_
 obtain rfl := oi_ hg
 exact Bi [] ⟨rfl, rfl⟩
theorem K3 (f : Aa) (r : Int) (hg : Gf f = some r) : Fn Try.prog 36 0 [.agg (Aa.dv f)] [] (fun d' b' => d' = .val (.int .i64 r) /\ b' = []) := by
 unfold Gf at hg
 refine Fn.of Try.func36 rfl rfl rfl fun w0 I ρ0 => ?_
 show Ci _ ⟨w0, I, ρ0, 0, 0, 5⟩ _ _ _
 refine Bn 0 16 Bg ?_
 refine Al ?_
 refine Ai fun hU => ?_
 refine Bn 16 40 hU ?_
 refine Al ?_
 refine Ai fun hU => ?_
 refine Bj ?_
 obtain rfl := oi_ hg
 exact Bi [] ⟨rfl, rfl⟩
theorem Lk (c1 : Aa) (c2 : Aa) (r : Int) (hg : Ex c1 c2 = some r) : Fn Try.prog 27 0 [.elt (([.raw (.func (.func 36) #[] #[])] : List C).drop 0), .elt (([.int .i64 c1.Source, .str c1.Host, .int .i64 c1.Machine, .int .i64 c1.Day, .int .i64 c1.Confidence, .int .i64 c1.Kind, .str c1.Subject, .int .i64 c1.Use.Alg, .int .i64 c1.Use.Bits, .int .i64 c1.Number, .str c1.Text] : List C).drop 0), .elt (([.int .i64 c2.Source, .str c2.Host, .int .i64 c2.Machine, .int .i64 c2.Day, .int .i64 c2.Confidence, .int .i64 c2.Kind, .str c2.Subject, .int .i64 c2.Use.Alg, .int .i64 c2.Use.Bits, .int .i64 c2.Number, .str c2.Text] : List C).drop 0)] [] (fun d' b' => d' = .val (.int .i64 r) /\ b' = []) := by
 unfold Ex at hg
 refine Fn.of Try.func27 rfl rfl rfl fun w0 I ρ0 => ?_
 show Ci _ ⟨w0, I, ρ0, 0, 0, 11⟩ _ _ _
 refine Bn 0 8 Bg ?_
 refine Al ?_
 refine Ai fun hU => ?_
 refine Ah ?_
 refine Bv (Bo _ _ []) (by kernel_rfl) [0, 0, 3, 0, 0, 31, 63, 127] 8 72 hU rfl rfl (by kernel_rfl) ?_
 refine Ca rfl rfl (Ch N8 (c := .raw (.func (.func 36) #[] #[])) rfl) rfl rfl ?_
 refine Ca rfl rfl (Cd Cg (cs2 := [.int .i64 c1.Source, .str c1.Host, .int .i64 c1.Machine, .int .i64 c1.Day, .int .i64 c1.Confidence, .int .i64 c1.Kind, .str c1.Subject, .int .i64 c1.Use.Alg, .int .i64 c1.Use.Bits, .int .i64 c1.Number, .str c1.Text]) rfl (Nat.le_of_ble_eq_true rfl)) rfl rfl ?_
 obtain ⟨y, hy, hg⟩ := Ac hg
 refine Dr (rd := []) (ps := []) (gs := []) false rfl rfl (K3 _ _ hy) rfl rfl (.cons (.agg (.cons .val (.cons .val (.cons .val (.cons .val (.cons .val (.cons .val (.cons .val (.cons .val (.cons .val (.cons .val (.cons .val .nil)))))))))))) .nil) rfl rfl (by intro h; cases h) rfl rfl rfl rfl ?_
 refine Ca rfl rfl (Ch N8 (c := .raw (.func (.func 36) #[] #[])) rfl) rfl rfl ?_
 refine Ca rfl rfl (Cd Cg (cs2 := [.int .i64 c2.Source, .str c2.Host, .int .i64 c2.Machine, .int .i64 c2.Day, .int .i64 c2.Confidence, .int .i64 c2.Kind, .str c2.Subject, .int .i64 c2.Use.Alg, .int .i64 c2.Use.Bits, .int .i64 c2.Number, .str c2.Text]) rfl (Nat.le_of_ble_eq_true rfl)) rfl rfl ?_
 obtain ⟨y_2, hy_2, hg⟩ := Ac hg
 refine Dr (rd := []) (ps := []) (gs := []) false rfl rfl (K3 _ _ hy_2) rfl rfl (.cons (.agg (.cons .val (.cons .val (.cons .val (.cons .val (.cons .val (.cons .val (.cons .val (.cons .val (.cons .val (.cons .val (.cons .val .nil)))))))))))) .nil) rfl rfl (by intro h; cases h) rfl rfl rfl rfl ?_
 obtain ⟨y_3, hy_3, hg⟩ := Ac hg
 refine E5 (D7 _ _ _ hy_3) ?_
 refine Al ?_
 refine Ai fun hU => ?_
 refine Bj ?_
 obtain rfl := oi_ hg
 exact Bi [] ⟨rfl, rfl⟩
theorem Kp (f : Aa) (r : Int) (hg : Gg f = some r) : Fn Try.prog 37 0 [.agg (Aa.dv f)] [] (fun d' b' => d' = .val (.int .i64 r) /\ b' = []) := by
 unfold Gg at hg
 refine Fn.of Try.func37 rfl rfl rfl fun w0 I ρ0 => ?_
 show Ci _ ⟨w0, I, ρ0, 0, 0, 6⟩ _ _ _
 refine Bn 0 16 Bg ?_
 refine Al ?_
 refine Ai fun hU => ?_
 refine Bn 16 48 hU ?_
 refine Al ?_
 refine Ai fun hU => ?_
 refine Bj ?_
 obtain rfl := oi_ hg
 exact Bi [] ⟨rfl, rfl⟩
theorem Lm (c1 : Aa) (c2 : Aa) (r : Int) (hg : Eo c1 c2 = some r) : Fn Try.prog 27 0 [.elt (([.raw (.func (.func 37) #[] #[])] : List C).drop 0), .elt (([.int .i64 c1.Source, .str c1.Host, .int .i64 c1.Machine, .int .i64 c1.Day, .int .i64 c1.Confidence, .int .i64 c1.Kind, .str c1.Subject, .int .i64 c1.Use.Alg, .int .i64 c1.Use.Bits, .int .i64 c1.Number, .str c1.Text] : List C).drop 0), .elt (([.int .i64 c2.Source, .str c2.Host, .int .i64 c2.Machine, .int .i64 c2.Day, .int .i64 c2.Confidence, .int .i64 c2.Kind, .str c2.Subject, .int .i64 c2.Use.Alg, .int .i64 c2.Use.Bits, .int .i64 c2.Number, .str c2.Text] : List C).drop 0)] [] (fun d' b' => d' = .val (.int .i64 r) /\ b' = []) := by
 unfold Eo at hg
 refine Fn.of Try.func27 rfl rfl rfl fun w0 I ρ0 => ?_
 show Ci _ ⟨w0, I, ρ0, 0, 0, 11⟩ _ _ _
 refine Bn 0 8 Bg ?_
 refine Al ?_
 refine Ai fun hU => ?_
 refine Ah ?_
 refine Bv (Bo _ _ []) (by kernel_rfl) [0, 0, 3, 0, 0, 31, 63, 127] 8 72 hU rfl rfl (by kernel_rfl) ?_
 refine Ca rfl rfl (Ch N8 (c := .raw (.func (.func 37) #[] #[])) rfl) rfl rfl ?_
 refine Ca rfl rfl (Cd Cg (cs2 := [.int .i64 c1.Source, .str c1.Host, .int .i64 c1.Machine, .int .i64 c1.Day, .int .i64 c1.Confidence, .int .i64 c1.Kind, .str c1.Subject, .int .i64 c1.Use.Alg, .int .i64 c1.Use.Bits, .int .i64 c1.Number, .str c1.Text]) rfl (Nat.le_of_ble_eq_true rfl)) rfl rfl ?_
 obtain ⟨y, hy, hg⟩ := Ac hg
 refine Dr (rd := []) (ps := []) (gs := []) false rfl rfl (Kp _ _ hy) rfl rfl (.cons (.agg (.cons .val (.cons .val (.cons .val (.cons .val (.cons .val (.cons .val (.cons .val (.cons .val (.cons .val (.cons .val (.cons .val .nil)))))))))))) .nil) rfl rfl (by intro h; cases h) rfl rfl rfl rfl ?_
 refine Ca rfl rfl (Ch N8 (c := .raw (.func (.func 37) #[] #[])) rfl) rfl rfl ?_
 refine Ca rfl rfl (Cd Cg (cs2 := [.int .i64 c2.Source, .str c2.Host, .int .i64 c2.Machine, .int .i64 c2.Day, .int .i64 c2.Confidence, .int .i64 c2.Kind, .str c2.Subject, .int .i64 c2.Use.Alg, .int .i64 c2.Use.Bits, .int .i64 c2.Number, .str c2.Text]) rfl (Nat.le_of_ble_eq_true rfl)) rfl rfl ?_
 obtain ⟨y_2, hy_2, hg⟩ := Ac hg
 refine Dr (rd := []) (ps := []) (gs := []) false rfl rfl (Kp _ _ hy_2) rfl rfl (.cons (.agg (.cons .val (.cons .val (.cons .val (.cons .val (.cons .val (.cons .val (.cons .val (.cons .val (.cons .val (.cons .val (.cons .val .nil)))))))))))) .nil) rfl rfl (by intro h; cases h) rfl rfl rfl rfl ?_
 obtain ⟨y_3, hy_3, hg⟩ := Ac hg
 refine E5 (D7 _ _ _ hy_3) ?_
 refine Al ?_
 refine Ai fun hU => ?_
 refine Bj ?_
 obtain rfl := oi_ hg
 exact Bi [] ⟨rfl, rfl⟩
theorem La (f : Aa) (r : Int) (hg : Ge f = some r) : Fn Try.prog 38 0 [.agg (Aa.dv f)] [] (fun d' b' => d' = .val (.int .i64 r) /\ b' = []) := by
 unfold Ge at hg
 refine Fn.of Try.func38 rfl rfl rfl fun w0 I ρ0 => ?_
 show Ci _ ⟨w0, I, ρ0, 0, 0, 6⟩ _ _ _
 refine Bn 0 16 Bg ?_
 refine Al ?_
 refine Ai fun hU => ?_
 refine Bn 16 48 hU ?_
 refine Al ?_
 refine Ai fun hU => ?_
 refine Bj ?_
 obtain rfl := oi_ hg
 exact Bi [] ⟨rfl, rfl⟩
theorem Li (c1 : Aa) (c2 : Aa) (r : Int) (hg : Et c1 c2 = some r) : Fn Try.prog 27 0 [.elt (([.raw (.func (.func 38) #[] #[])] : List C).drop 0), .elt (([.int .i64 c1.Source, .str c1.Host, .int .i64 c1.Machine, .int .i64 c1.Day, .int .i64 c1.Confidence, .int .i64 c1.Kind, .str c1.Subject, .int .i64 c1.Use.Alg, .int .i64 c1.Use.Bits, .int .i64 c1.Number, .str c1.Text] : List C).drop 0), .elt (([.int .i64 c2.Source, .str c2.Host, .int .i64 c2.Machine, .int .i64 c2.Day, .int .i64 c2.Confidence, .int .i64 c2.Kind, .str c2.Subject, .int .i64 c2.Use.Alg, .int .i64 c2.Use.Bits, .int .i64 c2.Number, .str c2.Text] : List C).drop 0)] [] (fun d' b' => d' = .val (.int .i64 r) /\ b' = []) := by
 unfold Et at hg
 refine Fn.of Try.func27 rfl rfl rfl fun w0 I ρ0 => ?_
 show Ci _ ⟨w0, I, ρ0, 0, 0, 11⟩ _ _ _
 refine Bn 0 8 Bg ?_
 refine Al ?_
 refine Ai fun hU => ?_
 refine Ah ?_
 refine Bv (Bo _ _ []) (by kernel_rfl) [0, 0, 3, 0, 0, 31, 63, 127] 8 72 hU rfl rfl (by kernel_rfl) ?_
 refine Ca rfl rfl (Ch N8 (c := .raw (.func (.func 38) #[] #[])) rfl) rfl rfl ?_
 refine Ca rfl rfl (Cd Cg (cs2 := [.int .i64 c1.Source, .str c1.Host, .int .i64 c1.Machine, .int .i64 c1.Day, .int .i64 c1.Confidence, .int .i64 c1.Kind, .str c1.Subject, .int .i64 c1.Use.Alg, .int .i64 c1.Use.Bits, .int .i64 c1.Number, .str c1.Text]) rfl (Nat.le_of_ble_eq_true rfl)) rfl rfl ?_
 obtain ⟨y, hy, hg⟩ := Ac hg
 refine Dr (rd := []) (ps := []) (gs := []) false rfl rfl (La _ _ hy) rfl rfl (.cons (.agg (.cons .val (.cons .val (.cons .val (.cons .val (.cons .val (.cons .val (.cons .val (.cons .val (.cons .val (.cons .val (.cons .val .nil)))))))))))) .nil) rfl rfl (by intro h; cases h) rfl rfl rfl rfl ?_
 refine Ca rfl rfl (Ch N8 (c := .raw (.func (.func 38) #[] #[])) rfl) rfl rfl ?_
 refine Ca rfl rfl (Cd Cg (cs2 := [.int .i64 c2.Source, .str c2.Host, .int .i64 c2.Machine, .int .i64 c2.Day, .int .i64 c2.Confidence, .int .i64 c2.Kind, .str c2.Subject, .int .i64 c2.Use.Alg, .int .i64 c2.Use.Bits, .int .i64 c2.Number, .str c2.Text]) rfl (Nat.le_of_ble_eq_true rfl)) rfl rfl ?_
 obtain ⟨y_2, hy_2, hg⟩ := Ac hg
 refine Dr (rd := []) (ps := []) (gs := []) false rfl rfl (La _ _ hy_2) rfl rfl (.cons (.agg (.cons .val (.cons .val (.cons .val (.cons .val (.cons .val (.cons .val (.cons .val (.cons .val (.cons .val (.cons .val (.cons .val .nil)))))))))))) .nil) rfl rfl (by intro h; cases h) rfl rfl rfl rfl ?_
 obtain ⟨y_3, hy_3, hg⟩ := Ac hg
 refine E5 (D7 _ _ _ hy_3) ?_
 refine Al ?_
 refine Ai fun hU => ?_
 refine Bj ?_
 obtain rfl := oi_ hg
 exact Bi [] ⟨rfl, rfl⟩
theorem J4 (f : Aa) (r : Int) (hg : Fm f = some r) : Fn Try.prog 39 0 [.agg (Aa.dv f)] [] (fun d' b' => d' = .val (.int .i64 r) /\ b' = []) := by
 unfold Fm at hg
 refine Fn.of Try.func39 rfl rfl rfl fun w0 I ρ0 => ?_
 show Ci _ ⟨w0, I, ρ0, 0, 0, 5⟩ _ _ _
 refine Bn 0 16 Bg ?_
 refine Al ?_
 refine Ai fun hU => ?_
 refine Bn 16 40 hU ?_
 refine Al ?_
 refine Ai fun hU => ?_
 refine Bj ?_
 obtain rfl := oi_ hg
 exact Bi [] ⟨rfl, rfl⟩
theorem Lq (c1 : Aa) (c2 : Aa) (r : Int) (hg : Ew c1 c2 = some r) : Fn Try.prog 27 0 [.elt (([.raw (.func (.func 39) #[] #[])] : List C).drop 0), .elt (([.int .i64 c1.Source, .str c1.Host, .int .i64 c1.Machine, .int .i64 c1.Day, .int .i64 c1.Confidence, .int .i64 c1.Kind, .str c1.Subject, .int .i64 c1.Use.Alg, .int .i64 c1.Use.Bits, .int .i64 c1.Number, .str c1.Text] : List C).drop 0), .elt (([.int .i64 c2.Source, .str c2.Host, .int .i64 c2.Machine, .int .i64 c2.Day, .int .i64 c2.Confidence, .int .i64 c2.Kind, .str c2.Subject, .int .i64 c2.Use.Alg, .int .i64 c2.Use.Bits, .int .i64 c2.Number, .str c2.Text] : List C).drop 0)] [] (fun d' b' => d' = .val (.int .i64 r) /\ b' = []) := by
 unfold Ew at hg
 refine Fn.of Try.func27 rfl rfl rfl fun w0 I ρ0 => ?_
 show Ci _ ⟨w0, I, ρ0, 0, 0, 11⟩ _ _ _
 refine Bn 0 8 Bg ?_
 refine Al ?_
 refine Ai fun hU => ?_
 refine Ah ?_
 refine Bv (Bo _ _ []) (by kernel_rfl) [0, 0, 3, 0, 0, 31, 63, 127] 8 72 hU rfl rfl (by kernel_rfl) ?_
 refine Ca rfl rfl (Ch N8 (c := .raw (.func (.func 39) #[] #[])) rfl) rfl rfl ?_
 refine Ca rfl rfl (Cd Cg (cs2 := [.int .i64 c1.Source, .str c1.Host, .int .i64 c1.Machine, .int .i64 c1.Day, .int .i64 c1.Confidence, .int .i64 c1.Kind, .str c1.Subject, .int .i64 c1.Use.Alg, .int .i64 c1.Use.Bits, .int .i64 c1.Number, .str c1.Text]) rfl (Nat.le_of_ble_eq_true rfl)) rfl rfl ?_
 obtain ⟨y, hy, hg⟩ := Ac hg
 refine Dr (rd := []) (ps := []) (gs := []) false rfl rfl (J4 _ _ hy) rfl rfl (.cons (.agg (.cons .val (.cons .val (.cons .val (.cons .val (.cons .val (.cons .val (.cons .val (.cons .val (.cons .val (.cons .val (.cons .val .nil)))))))))))) .nil) rfl rfl (by intro h; cases h) rfl rfl rfl rfl ?_
 refine Ca rfl rfl (Ch N8 (c := .raw (.func (.func 39) #[] #[])) rfl) rfl rfl ?_
 refine Ca rfl rfl (Cd Cg (cs2 := [.int .i64 c2.Source, .str c2.Host, .int .i64 c2.Machine, .int .i64 c2.Day, .int .i64 c2.Confidence, .int .i64 c2.Kind, .str c2.Subject, .int .i64 c2.Use.Alg, .int .i64 c2.Use.Bits, .int .i64 c2.Number, .str c2.Text]) rfl (Nat.le_of_ble_eq_true rfl)) rfl rfl ?_
 obtain ⟨y_2, hy_2, hg⟩ := Ac hg
 refine Dr (rd := []) (ps := []) (gs := []) false rfl rfl (J4 _ _ hy_2) rfl rfl (.cons (.agg (.cons .val (.cons .val (.cons .val (.cons .val (.cons .val (.cons .val (.cons .val (.cons .val (.cons .val (.cons .val (.cons .val .nil)))))))))))) .nil) rfl rfl (by intro h; cases h) rfl rfl rfl rfl ?_
 obtain ⟨y_3, hy_3, hg⟩ := Ac hg
 refine E5 (D7 _ _ _ hy_3) ?_
 refine Al ?_
 refine Ai fun hU => ?_
 refine Bj ?_
 obtain rfl := oi_ hg
 exact Bi [] ⟨rfl, rfl⟩
theorem J5 (f : Aa) (r : ByteArray) (hg : Fi f = some r) : Fn Try.prog 40 0 [.agg (Aa.dv f)] [] (fun d' b' => d' = .val (.string r) /\ b' = []) := by
 unfold Fi at hg
 refine Fn.of Try.func40 rfl rfl rfl fun w0 I ρ0 => ?_
 show Ci _ ⟨w0, I, ρ0, 0, 0, 5⟩ _ _ _
 refine Bn 0 16 Bg ?_
 refine Al ?_
 refine Ai fun hU => ?_
 refine Bn 16 40 hU ?_
 refine Al ?_
 refine Ai fun hU => ?_
 refine Bj ?_
 obtain rfl := oi_ hg
 exact Bi [] ⟨rfl, rfl⟩
theorem Lg (c1 : Aa) (c2 : Aa) (r : Int) (hg : En c1 c2 = some r) : Fn Try.prog 30 0 [.elt (([.raw (.func (.func 40) #[] #[])] : List C).drop 0), .elt (([.int .i64 c1.Source, .str c1.Host, .int .i64 c1.Machine, .int .i64 c1.Day, .int .i64 c1.Confidence, .int .i64 c1.Kind, .str c1.Subject, .int .i64 c1.Use.Alg, .int .i64 c1.Use.Bits, .int .i64 c1.Number, .str c1.Text] : List C).drop 0), .elt (([.int .i64 c2.Source, .str c2.Host, .int .i64 c2.Machine, .int .i64 c2.Day, .int .i64 c2.Confidence, .int .i64 c2.Kind, .str c2.Subject, .int .i64 c2.Use.Alg, .int .i64 c2.Use.Bits, .int .i64 c2.Number, .str c2.Text] : List C).drop 0)] [] (fun d' b' => d' = .val (.int .i64 r) /\ b' = []) := by
 unfold En at hg
 refine Fn.of Try.func30 rfl rfl rfl fun w0 I ρ0 => ?_
 show Ci _ ⟨w0, I, ρ0, 0, 0, 11⟩ _ _ _
 refine Bn 0 8 Bg ?_
 refine Al ?_
 refine Ai fun hU => ?_
 refine Ah ?_
 refine Bv (Bo _ _ []) (by kernel_rfl) [0, 0, 3, 0, 0, 31, 63, 127] 8 72 hU rfl rfl (by kernel_rfl) ?_
 refine Ca rfl rfl (Ch Xc (c := .raw (.func (.func 40) #[] #[])) rfl) rfl rfl ?_
 refine Ca rfl rfl (Cd Cg (cs2 := [.int .i64 c1.Source, .str c1.Host, .int .i64 c1.Machine, .int .i64 c1.Day, .int .i64 c1.Confidence, .int .i64 c1.Kind, .str c1.Subject, .int .i64 c1.Use.Alg, .int .i64 c1.Use.Bits, .int .i64 c1.Number, .str c1.Text]) rfl (Nat.le_of_ble_eq_true rfl)) rfl rfl ?_
 obtain ⟨y, hy, hg⟩ := Ac hg
 refine Dr (rd := []) (ps := []) (gs := []) false rfl rfl (J5 _ _ hy) rfl rfl (.cons (.agg (.cons .val (.cons .val (.cons .val (.cons .val (.cons .val (.cons .val (.cons .val (.cons .val (.cons .val (.cons .val (.cons .val .nil)))))))))))) .nil) rfl rfl (by intro h; cases h) rfl rfl rfl rfl ?_
 refine Ca rfl rfl (Ch Xc (c := .raw (.func (.func 40) #[] #[])) rfl) rfl rfl ?_
 refine Ca rfl rfl (Cd Cg (cs2 := [.int .i64 c2.Source, .str c2.Host, .int .i64 c2.Machine, .int .i64 c2.Day, .int .i64 c2.Confidence, .int .i64 c2.Kind, .str c2.Subject, .int .i64 c2.Use.Alg, .int .i64 c2.Use.Bits, .int .i64 c2.Number, .str c2.Text]) rfl (Nat.le_of_ble_eq_true rfl)) rfl rfl ?_
 obtain ⟨y_2, hy_2, hg⟩ := Ac hg
 refine Dr (rd := []) (ps := []) (gs := []) false rfl rfl (J5 _ _ hy_2) rfl rfl (.cons (.agg (.cons .val (.cons .val (.cons .val (.cons .val (.cons .val (.cons .val (.cons .val (.cons .val (.cons .val (.cons .val (.cons .val .nil)))))))))))) .nil) rfl rfl (by intro h; cases h) rfl rfl rfl rfl ?_
 obtain ⟨y_3, hy_3, hg⟩ := Ac hg
 refine E5 (Ij _ _ _ hy_3) ?_
 refine Al ?_
 refine Ai fun hU => ?_
 refine Bj ?_
 obtain rfl := oi_ hg
 exact Bi [] ⟨rfl, rfl⟩
theorem J0 (f : Aa) (r : Int) (hg : Fo f = some r) : Fn Try.prog 41 0 [.agg (Aa.dv f)] [] (fun d' b' => d' = .val (.int .i64 r) /\ b' = []) := by
 unfold Fo at hg
 refine Fn.of Try.func41 rfl rfl rfl fun w0 I ρ0 => ?_
 show Ci _ ⟨w0, I, ρ0, 0, 0, 5⟩ _ _ _
 refine Bn 0 16 Bg ?_
 refine Al ?_
 refine Ai fun hU => ?_
 refine Bn 16 40 hU ?_
 refine Al ?_
 refine Ai fun hU => ?_
 refine Bj ?_
 obtain rfl := oi_ hg
 exact Bi [] ⟨rfl, rfl⟩
theorem Lf (c1 : Aa) (c2 : Aa) (r : Int) (hg : Es c1 c2 = some r) : Fn Try.prog 27 0 [.elt (([.raw (.func (.func 41) #[] #[])] : List C).drop 0), .elt (([.int .i64 c1.Source, .str c1.Host, .int .i64 c1.Machine, .int .i64 c1.Day, .int .i64 c1.Confidence, .int .i64 c1.Kind, .str c1.Subject, .int .i64 c1.Use.Alg, .int .i64 c1.Use.Bits, .int .i64 c1.Number, .str c1.Text] : List C).drop 0), .elt (([.int .i64 c2.Source, .str c2.Host, .int .i64 c2.Machine, .int .i64 c2.Day, .int .i64 c2.Confidence, .int .i64 c2.Kind, .str c2.Subject, .int .i64 c2.Use.Alg, .int .i64 c2.Use.Bits, .int .i64 c2.Number, .str c2.Text] : List C).drop 0)] [] (fun d' b' => d' = .val (.int .i64 r) /\ b' = []) := by
 unfold Es at hg
 refine Fn.of Try.func27 rfl rfl rfl fun w0 I ρ0 => ?_
 show Ci _ ⟨w0, I, ρ0, 0, 0, 11⟩ _ _ _
 refine Bn 0 8 Bg ?_
 refine Al ?_
 refine Ai fun hU => ?_
 refine Ah ?_
 refine Bv (Bo _ _ []) (by kernel_rfl) [0, 0, 3, 0, 0, 31, 63, 127] 8 72 hU rfl rfl (by kernel_rfl) ?_
 refine Ca rfl rfl (Ch N8 (c := .raw (.func (.func 41) #[] #[])) rfl) rfl rfl ?_
 refine Ca rfl rfl (Cd Cg (cs2 := [.int .i64 c1.Source, .str c1.Host, .int .i64 c1.Machine, .int .i64 c1.Day, .int .i64 c1.Confidence, .int .i64 c1.Kind, .str c1.Subject, .int .i64 c1.Use.Alg, .int .i64 c1.Use.Bits, .int .i64 c1.Number, .str c1.Text]) rfl (Nat.le_of_ble_eq_true rfl)) rfl rfl ?_
 obtain ⟨y, hy, hg⟩ := Ac hg
 refine Dr (rd := []) (ps := []) (gs := []) false rfl rfl (J0 _ _ hy) rfl rfl (.cons (.agg (.cons .val (.cons .val (.cons .val (.cons .val (.cons .val (.cons .val (.cons .val (.cons .val (.cons .val (.cons .val (.cons .val .nil)))))))))))) .nil) rfl rfl (by intro h; cases h) rfl rfl rfl rfl ?_
 refine Ca rfl rfl (Ch N8 (c := .raw (.func (.func 41) #[] #[])) rfl) rfl rfl ?_
 refine Ca rfl rfl (Cd Cg (cs2 := [.int .i64 c2.Source, .str c2.Host, .int .i64 c2.Machine, .int .i64 c2.Day, .int .i64 c2.Confidence, .int .i64 c2.Kind, .str c2.Subject, .int .i64 c2.Use.Alg, .int .i64 c2.Use.Bits, .int .i64 c2.Number, .str c2.Text]) rfl (Nat.le_of_ble_eq_true rfl)) rfl rfl ?_
 obtain ⟨y_2, hy_2, hg⟩ := Ac hg
 refine Dr (rd := []) (ps := []) (gs := []) false rfl rfl (J0 _ _ hy_2) rfl rfl (.cons (.agg (.cons .val (.cons .val (.cons .val (.cons .val (.cons .val (.cons .val (.cons .val (.cons .val (.cons .val (.cons .val (.cons .val .nil)))))))))))) .nil) rfl rfl (by intro h; cases h) rfl rfl rfl rfl ?_
 obtain ⟨y_3, hy_3, hg⟩ := Ac hg
 refine E5 (D7 _ _ _ hy_3) ?_
 refine Al ?_
 refine Ai fun hU => ?_
 refine Bj ?_
 obtain rfl := oi_ hg
 exact Bi [] ⟨rfl, rfl⟩
theorem Jz (f : Aa) (r : Int) (hg : Fl f = some r) : Fn Try.prog 42 0 [.agg (Aa.dv f)] [] (fun d' b' => d' = .val (.int .i64 r) /\ b' = []) := by
 unfold Fl at hg
 refine Fn.of Try.func42 rfl rfl rfl fun w0 I ρ0 => ?_
 show Ci _ ⟨w0, I, ρ0, 0, 0, 5⟩ _ _ _
 refine Bn 0 16 Bg ?_
 refine Al ?_
 refine Ai fun hU => ?_
 refine Bn 16 40 hU ?_
 refine Al ?_
 refine Ai fun hU => ?_
 refine Bj ?_
 obtain rfl := oi_ hg
 exact Bi [] ⟨rfl, rfl⟩
theorem Ls (c1 : Aa) (c2 : Aa) (r : Int) (hg : Ey c1 c2 = some r) : Fn Try.prog 27 0 [.elt (([.raw (.func (.func 42) #[] #[])] : List C).drop 0), .elt (([.int .i64 c1.Source, .str c1.Host, .int .i64 c1.Machine, .int .i64 c1.Day, .int .i64 c1.Confidence, .int .i64 c1.Kind, .str c1.Subject, .int .i64 c1.Use.Alg, .int .i64 c1.Use.Bits, .int .i64 c1.Number, .str c1.Text] : List C).drop 0), .elt (([.int .i64 c2.Source, .str c2.Host, .int .i64 c2.Machine, .int .i64 c2.Day, .int .i64 c2.Confidence, .int .i64 c2.Kind, .str c2.Subject, .int .i64 c2.Use.Alg, .int .i64 c2.Use.Bits, .int .i64 c2.Number, .str c2.Text] : List C).drop 0)] [] (fun d' b' => d' = .val (.int .i64 r) /\ b' = []) := by
 unfold Ey at hg
 refine Fn.of Try.func27 rfl rfl rfl fun w0 I ρ0 => ?_
 show Ci _ ⟨w0, I, ρ0, 0, 0, 11⟩ _ _ _
 refine Bn 0 8 Bg ?_
 refine Al ?_
 refine Ai fun hU => ?_
 refine Ah ?_
 refine Bv (Bo _ _ []) (by kernel_rfl) [0, 0, 3, 0, 0, 31, 63, 127] 8 72 hU rfl rfl (by kernel_rfl) ?_
 refine Ca rfl rfl (Ch N8 (c := .raw (.func (.func 42) #[] #[])) rfl) rfl rfl ?_
 refine Ca rfl rfl (Cd Cg (cs2 := [.int .i64 c1.Source, .str c1.Host, .int .i64 c1.Machine, .int .i64 c1.Day, .int .i64 c1.Confidence, .int .i64 c1.Kind, .str c1.Subject, .int .i64 c1.Use.Alg, .int .i64 c1.Use.Bits, .int .i64 c1.Number, .str c1.Text]) rfl (Nat.le_of_ble_eq_true rfl)) rfl rfl ?_
 obtain ⟨y, hy, hg⟩ := Ac hg
 refine Dr (rd := []) (ps := []) (gs := []) false rfl rfl (Jz _ _ hy) rfl rfl (.cons (.agg (.cons .val (.cons .val (.cons .val (.cons .val (.cons .val (.cons .val (.cons .val (.cons .val (.cons .val (.cons .val (.cons .val .nil)))))))))))) .nil) rfl rfl (by intro h; cases h) rfl rfl rfl rfl ?_
 refine Ca rfl rfl (Ch N8 (c := .raw (.func (.func 42) #[] #[])) rfl) rfl rfl ?_
 refine Ca rfl rfl (Cd Cg (cs2 := [.int .i64 c2.Source, .str c2.Host, .int .i64 c2.Machine, .int .i64 c2.Day, .int .i64 c2.Confidence, .int .i64 c2.Kind, .str c2.Subject, .int .i64 c2.Use.Alg, .int .i64 c2.Use.Bits, .int .i64 c2.Number, .str c2.Text]) rfl (Nat.le_of_ble_eq_true rfl)) rfl rfl ?_
 obtain ⟨y_2, hy_2, hg⟩ := Ac hg
 refine Dr (rd := []) (ps := []) (gs := []) false rfl rfl (Jz _ _ hy_2) rfl rfl (.cons (.agg (.cons .val (.cons .val (.cons .val (.cons .val (.cons .val (.cons .val (.cons .val (.cons .val (.cons .val (.cons .val (.cons .val .nil)))))))))))) .nil) rfl rfl (by intro h; cases h) rfl rfl rfl rfl ?_
 obtain ⟨y_3, hy_3, hg⟩ := Ac hg
 refine E5 (D7 _ _ _ hy_3) ?_
 refine Al ?_
 refine Ai fun hU => ?_
 refine Bj ?_
 obtain rfl := oi_ hg
 exact Bi [] ⟨rfl, rfl⟩
theorem El (a : Aa) (b : Aa) (r : Int) (hg : Df a b = some r) : Fn Try.prog 10 0 [.agg (Aa.dv a), .agg (Aa.dv b)] [] (fun d' b' => d' = .val (.int .i64 r) /\ b' = []) := by
 unfold Df at hg
 refine Fn.of Try.func10 rfl rfl rfl fun w0 I ρ0 => ?_
 show Ci _ ⟨w0, I, ρ0, 0, 0, 46⟩ _ _ _
 refine Bn 0 24 Bg ?_
 refine Al ?_
 refine Ai fun hU => ?_
 refine Ah ?_
 refine Em (σ' := mk [(2, .elt (([.int .i64 a.Source, .str a.Host, .int .i64 a.Machine, .int .i64 a.Day, .int .i64 a.Confidence, .int .i64 a.Kind, .str a.Subject, .int .i64 a.Use.Alg, .int .i64 a.Use.Bits, .int .i64 a.Number, .str a.Text] : List C).drop 0)), (3, .elt (([.int .i64 b.Source, .str b.Host, .int .i64 b.Machine, .int .i64 b.Day, .int .i64 b.Confidence, .int .i64 b.Kind, .str b.Subject, .int .i64 b.Use.Alg, .int .i64 b.Use.Bits, .int .i64 b.Number, .str b.Text] : List C).drop 0))] [] 0) ((by exact Nl.lists [] rfl rfl ⟨⟨_, rfl, .frzb (ks := [none, none, none, none, none, none, none, none, none, none, none]) rfl (.cons .int (.cons .str (.cons .int (.cons .int (.cons .int (.cons .int (.cons .str (.cons .int (.cons .int (.cons .int (.cons .str .nil))))))))))) (E6 rfl)⟩, ⟨_, rfl, .frzb (ks := [none, none, none, none, none, none, none, none, none, none, none]) rfl (.cons .int (.cons .str (.cons .int (.cons .int (.cons .int (.cons .int (.cons .str (.cons .int (.cons .int (.cons .int (.cons .str .nil))))))))))) (E6 rfl)⟩, trivial⟩ trivial)) ?_
 refine Ad (Bo _ _ []) 0 16 Bg rfl rfl ?_
 refine Al ?_
 refine Ai fun hU => ?_
 refine Bn 16 32 hU ?_
 refine Al ?_
 refine Ai fun hU => ?_
 refine Ah ?_
 refine Bn 32 232 hU ?_
 refine Al ?_
 obtain ⟨y, hy, hg⟩ := Ac hg
 refine Ck (rd := []) (ps := []) (gs := []) false rfl rfl (Nb _ _ _ hy) rfl rfl (.cons .val (.cons .elt (.cons .elt .nil))) rfl rfl (by intro h; cases h) rfl rfl rfl rfl ?_
 refine Al ?_
 obtain ⟨y_2, hy_2, hg⟩ := Ac hg
 refine Ck (rd := []) (ps := []) (gs := []) false rfl rfl (Mv _ _ _ hy_2) rfl rfl (.cons .val (.cons .elt (.cons .elt .nil))) rfl rfl (by intro h; cases h) rfl rfl rfl rfl ?_
 refine Al ?_
 obtain ⟨y_3, hy_3, hg⟩ := Ac hg
 refine Ck (rd := []) (ps := []) (gs := []) false rfl rfl (M7 _ _ _ hy_3) rfl rfl (.cons .val (.cons .elt (.cons .elt .nil))) rfl rfl (by intro h; cases h) rfl rfl rfl rfl ?_
 refine Al ?_
 obtain ⟨y_4, hy_4, hg⟩ := Ac hg
 refine Ck (rd := []) (ps := []) (gs := []) false rfl rfl (Mz _ _ _ hy_4) rfl rfl (.cons .val (.cons .elt (.cons .elt .nil))) rfl rfl (by intro h; cases h) rfl rfl rfl rfl ?_
 refine Al ?_
 obtain ⟨y_5, hy_5, hg⟩ := Ac hg
 refine Ck (rd := []) (ps := []) (gs := []) false rfl rfl (Nf _ _ _ hy_5) rfl rfl (.cons .val (.cons .elt (.cons .elt .nil))) rfl rfl (by intro h; cases h) rfl rfl rfl rfl ?_
 refine Al ?_
 obtain ⟨y_6, hy_6, hg⟩ := Ac hg
 refine Ck (rd := []) (ps := []) (gs := []) false rfl rfl (Ng _ _ _ hy_6) rfl rfl (.cons .val (.cons .elt (.cons .elt .nil))) rfl rfl (by intro h; cases h) rfl rfl rfl rfl ?_
 refine Al ?_
 obtain ⟨y_7, hy_7, hg⟩ := Ac hg
 refine Ck (rd := []) (ps := []) (gs := []) false rfl rfl (Nc _ _ _ hy_7) rfl rfl (.cons .val (.cons .elt (.cons .elt .nil))) rfl rfl (by intro h; cases h) rfl rfl rfl rfl ?_
 refine Al ?_
 obtain ⟨y_8, hy_8, hg⟩ := Ac hg
 refine Ck (rd := []) (ps := []) (gs := []) false rfl rfl (Nd _ _ _ hy_8) rfl rfl (.cons .val (.cons .elt (.cons .elt .nil))) rfl rfl (by intro h; cases h) rfl rfl rfl rfl ?_
 refine Al ?_
 obtain ⟨y_9, hy_9, hg⟩ := Ac hg
 refine Ck (rd := []) (ps := []) (gs := []) false rfl rfl (Mx _ _ _ hy_9) rfl rfl (.cons .val (.cons .elt (.cons .elt .nil))) rfl rfl (by intro h; cases h) rfl rfl rfl rfl ?_
 refine Al ?_
 obtain ⟨y_10, hy_10, hg⟩ := Ac hg
 refine Ck (rd := []) (ps := []) (gs := []) false rfl rfl (M8 _ _ _ hy_10) rfl rfl (.cons .val (.cons .elt (.cons .elt .nil))) rfl rfl (by intro h; cases h) rfl rfl rfl rfl ?_
 refine Al ?_
 obtain ⟨y_11, hy_11, hg⟩ := Ac hg
 refine Ck (rd := []) (ps := []) (gs := []) false rfl rfl (My _ _ _ hy_11) rfl rfl (.cons .val (.cons .elt (.cons .elt .nil))) rfl rfl (by intro h; cases h) rfl rfl rfl rfl ?_
 refine I3 (rd := []) rfl rfl (.buildV (r := [.clo 30 0 [.elt (([.raw (.func (.func 32) #[] #[])] : List C).drop 0), .elt (([.int .i64 y.1.Source, .str y.1.Host, .int .i64 y.1.Machine, .int .i64 y.1.Day, .int .i64 y.1.Confidence, .int .i64 y.1.Kind, .str y.1.Subject, .int .i64 y.1.Use.Alg, .int .i64 y.1.Use.Bits, .int .i64 y.1.Number, .str y.1.Text] : List C).drop 0), .elt (([.int .i64 y.2.Source, .str y.2.Host, .int .i64 y.2.Machine, .int .i64 y.2.Day, .int .i64 y.2.Confidence, .int .i64 y.2.Kind, .str y.2.Subject, .int .i64 y.2.Use.Alg, .int .i64 y.2.Use.Bits, .int .i64 y.2.Number, .str y.2.Text] : List C).drop 0)], .clo 27 0 [.elt (([.raw (.func (.func 33) #[] #[])] : List C).drop 0), .elt (([.int .i64 y_2.1.Source, .str y_2.1.Host, .int .i64 y_2.1.Machine, .int .i64 y_2.1.Day, .int .i64 y_2.1.Confidence, .int .i64 y_2.1.Kind, .str y_2.1.Subject, .int .i64 y_2.1.Use.Alg, .int .i64 y_2.1.Use.Bits, .int .i64 y_2.1.Number, .str y_2.1.Text] : List C).drop 0), .elt (([.int .i64 y_2.2.Source, .str y_2.2.Host, .int .i64 y_2.2.Machine, .int .i64 y_2.2.Day, .int .i64 y_2.2.Confidence, .int .i64 y_2.2.Kind, .str y_2.2.Subject, .int .i64 y_2.2.Use.Alg, .int .i64 y_2.2.Use.Bits, .int .i64 y_2.2.Number, .str y_2.2.Text] : List C).drop 0)], .clo 27 0 [.elt (([.raw (.func (.func 34) #[] #[])] : List C).drop 0), .elt (([.int .i64 y_3.1.Source, .str y_3.1.Host, .int .i64 y_3.1.Machine, .int .i64 y_3.1.Day, .int .i64 y_3.1.Confidence, .int .i64 y_3.1.Kind, .str y_3.1.Subject, .int .i64 y_3.1.Use.Alg, .int .i64 y_3.1.Use.Bits, .int .i64 y_3.1.Number, .str y_3.1.Text] : List C).drop 0), .elt (([.int .i64 y_3.2.Source, .str y_3.2.Host, .int .i64 y_3.2.Machine, .int .i64 y_3.2.Day, .int .i64 y_3.2.Confidence, .int .i64 y_3.2.Kind, .str y_3.2.Subject, .int .i64 y_3.2.Use.Alg, .int .i64 y_3.2.Use.Bits, .int .i64 y_3.2.Number, .str y_3.2.Text] : List C).drop 0)], .clo 30 0 [.elt (([.raw (.func (.func 35) #[] #[])] : List C).drop 0), .elt (([.int .i64 y_4.1.Source, .str y_4.1.Host, .int .i64 y_4.1.Machine, .int .i64 y_4.1.Day, .int .i64 y_4.1.Confidence, .int .i64 y_4.1.Kind, .str y_4.1.Subject, .int .i64 y_4.1.Use.Alg, .int .i64 y_4.1.Use.Bits, .int .i64 y_4.1.Number, .str y_4.1.Text] : List C).drop 0), .elt (([.int .i64 y_4.2.Source, .str y_4.2.Host, .int .i64 y_4.2.Machine, .int .i64 y_4.2.Day, .int .i64 y_4.2.Confidence, .int .i64 y_4.2.Kind, .str y_4.2.Subject, .int .i64 y_4.2.Use.Alg, .int .i64 y_4.2.Use.Bits, .int .i64 y_4.2.Number, .str y_4.2.Text] : List C).drop 0)], .clo 27 0 [.elt (([.raw (.func (.func 36) #[] #[])] : List C).drop 0), .elt (([.int .i64 y_5.1.Source, .str y_5.1.Host, .int .i64 y_5.1.Machine, .int .i64 y_5.1.Day, .int .i64 y_5.1.Confidence, .int .i64 y_5.1.Kind, .str y_5.1.Subject, .int .i64 y_5.1.Use.Alg, .int .i64 y_5.1.Use.Bits, .int .i64 y_5.1.Number, .str y_5.1.Text] : List C).drop 0), .elt (([.int .i64 y_5.2.Source, .str y_5.2.Host, .int .i64 y_5.2.Machine, .int .i64 y_5.2.Day, .int .i64 y_5.2.Confidence, .int .i64 y_5.2.Kind, .str y_5.2.Subject, .int .i64 y_5.2.Use.Alg, .int .i64 y_5.2.Use.Bits, .int .i64 y_5.2.Number, .str y_5.2.Text] : List C).drop 0)], .clo 27 0 [.elt (([.raw (.func (.func 37) #[] #[])] : List C).drop 0), .elt (([.int .i64 y_6.1.Source, .str y_6.1.Host, .int .i64 y_6.1.Machine, .int .i64 y_6.1.Day, .int .i64 y_6.1.Confidence, .int .i64 y_6.1.Kind, .str y_6.1.Subject, .int .i64 y_6.1.Use.Alg, .int .i64 y_6.1.Use.Bits, .int .i64 y_6.1.Number, .str y_6.1.Text] : List C).drop 0), .elt (([.int .i64 y_6.2.Source, .str y_6.2.Host, .int .i64 y_6.2.Machine, .int .i64 y_6.2.Day, .int .i64 y_6.2.Confidence, .int .i64 y_6.2.Kind, .str y_6.2.Subject, .int .i64 y_6.2.Use.Alg, .int .i64 y_6.2.Use.Bits, .int .i64 y_6.2.Number, .str y_6.2.Text] : List C).drop 0)], .clo 27 0 [.elt (([.raw (.func (.func 38) #[] #[])] : List C).drop 0), .elt (([.int .i64 y_7.1.Source, .str y_7.1.Host, .int .i64 y_7.1.Machine, .int .i64 y_7.1.Day, .int .i64 y_7.1.Confidence, .int .i64 y_7.1.Kind, .str y_7.1.Subject, .int .i64 y_7.1.Use.Alg, .int .i64 y_7.1.Use.Bits, .int .i64 y_7.1.Number, .str y_7.1.Text] : List C).drop 0), .elt (([.int .i64 y_7.2.Source, .str y_7.2.Host, .int .i64 y_7.2.Machine, .int .i64 y_7.2.Day, .int .i64 y_7.2.Confidence, .int .i64 y_7.2.Kind, .str y_7.2.Subject, .int .i64 y_7.2.Use.Alg, .int .i64 y_7.2.Use.Bits, .int .i64 y_7.2.Number, .str y_7.2.Text] : List C).drop 0)], .clo 27 0 [.elt (([.raw (.func (.func 39) #[] #[])] : List C).drop 0), .elt (([.int .i64 y_8.1.Source, .str y_8.1.Host, .int .i64 y_8.1.Machine, .int .i64 y_8.1.Day, .int .i64 y_8.1.Confidence, .int .i64 y_8.1.Kind, .str y_8.1.Subject, .int .i64 y_8.1.Use.Alg, .int .i64 y_8.1.Use.Bits, .int .i64 y_8.1.Number, .str y_8.1.Text] : List C).drop 0), .elt (([.int .i64 y_8.2.Source, .str y_8.2.Host, .int .i64 y_8.2.Machine, .int .i64 y_8.2.Day, .int .i64 y_8.2.Confidence, .int .i64 y_8.2.Kind, .str y_8.2.Subject, .int .i64 y_8.2.Use.Alg, .int .i64 y_8.2.Use.Bits, .int .i64 y_8.2.Number, .str y_8.2.Text] : List C).drop 0)], .clo 30 0 [.elt (([.raw (.func (.func 40) #[] #[])] : List C).drop 0), .elt (([.int .i64 y_9.1.Source, .str y_9.1.Host, .int .i64 y_9.1.Machine, .int .i64 y_9.1.Day, .int .i64 y_9.1.Confidence, .int .i64 y_9.1.Kind, .str y_9.1.Subject, .int .i64 y_9.1.Use.Alg, .int .i64 y_9.1.Use.Bits, .int .i64 y_9.1.Number, .str y_9.1.Text] : List C).drop 0), .elt (([.int .i64 y_9.2.Source, .str y_9.2.Host, .int .i64 y_9.2.Machine, .int .i64 y_9.2.Day, .int .i64 y_9.2.Confidence, .int .i64 y_9.2.Kind, .str y_9.2.Subject, .int .i64 y_9.2.Use.Alg, .int .i64 y_9.2.Use.Bits, .int .i64 y_9.2.Number, .str y_9.2.Text] : List C).drop 0)], .clo 27 0 [.elt (([.raw (.func (.func 41) #[] #[])] : List C).drop 0), .elt (([.int .i64 y_10.1.Source, .str y_10.1.Host, .int .i64 y_10.1.Machine, .int .i64 y_10.1.Day, .int .i64 y_10.1.Confidence, .int .i64 y_10.1.Kind, .str y_10.1.Subject, .int .i64 y_10.1.Use.Alg, .int .i64 y_10.1.Use.Bits, .int .i64 y_10.1.Number, .str y_10.1.Text] : List C).drop 0), .elt (([.int .i64 y_10.2.Source, .str y_10.2.Host, .int .i64 y_10.2.Machine, .int .i64 y_10.2.Day, .int .i64 y_10.2.Confidence, .int .i64 y_10.2.Kind, .str y_10.2.Subject, .int .i64 y_10.2.Use.Alg, .int .i64 y_10.2.Use.Bits, .int .i64 y_10.2.Number, .str y_10.2.Text] : List C).drop 0)], .clo 27 0 [.elt (([.raw (.func (.func 42) #[] #[])] : List C).drop 0), .elt (([.int .i64 y_11.1.Source, .str y_11.1.Host, .int .i64 y_11.1.Machine, .int .i64 y_11.1.Day, .int .i64 y_11.1.Confidence, .int .i64 y_11.1.Kind, .str y_11.1.Subject, .int .i64 y_11.1.Use.Alg, .int .i64 y_11.1.Use.Bits, .int .i64 y_11.1.Number, .str y_11.1.Text] : List C).drop 0), .elt (([.int .i64 y_11.2.Source, .str y_11.2.Host, .int .i64 y_11.2.Machine, .int .i64 y_11.2.Day, .int .i64 y_11.2.Confidence, .int .i64 y_11.2.Kind, .str y_11.2.Subject, .int .i64 y_11.2.Use.Alg, .int .i64 y_11.2.Use.Bits, .int .i64 y_11.2.Number, .str y_11.2.Text] : List C).drop 0)]]) (pl := [(0, .clo 30 0 [.elt (([.raw (.func (.func 32) #[] #[])] : List C).drop 0), .elt (([.int .i64 y.1.Source, .str y.1.Host, .int .i64 y.1.Machine, .int .i64 y.1.Day, .int .i64 y.1.Confidence, .int .i64 y.1.Kind, .str y.1.Subject, .int .i64 y.1.Use.Alg, .int .i64 y.1.Use.Bits, .int .i64 y.1.Number, .str y.1.Text] : List C).drop 0), .elt (([.int .i64 y.2.Source, .str y.2.Host, .int .i64 y.2.Machine, .int .i64 y.2.Day, .int .i64 y.2.Confidence, .int .i64 y.2.Kind, .str y.2.Subject, .int .i64 y.2.Use.Alg, .int .i64 y.2.Use.Bits, .int .i64 y.2.Number, .str y.2.Text] : List C).drop 0)]), (1, .clo 27 0 [.elt (([.raw (.func (.func 33) #[] #[])] : List C).drop 0), .elt (([.int .i64 y_2.1.Source, .str y_2.1.Host, .int .i64 y_2.1.Machine, .int .i64 y_2.1.Day, .int .i64 y_2.1.Confidence, .int .i64 y_2.1.Kind, .str y_2.1.Subject, .int .i64 y_2.1.Use.Alg, .int .i64 y_2.1.Use.Bits, .int .i64 y_2.1.Number, .str y_2.1.Text] : List C).drop 0), .elt (([.int .i64 y_2.2.Source, .str y_2.2.Host, .int .i64 y_2.2.Machine, .int .i64 y_2.2.Day, .int .i64 y_2.2.Confidence, .int .i64 y_2.2.Kind, .str y_2.2.Subject, .int .i64 y_2.2.Use.Alg, .int .i64 y_2.2.Use.Bits, .int .i64 y_2.2.Number, .str y_2.2.Text] : List C).drop 0)]), (2, .clo 27 0 [.elt (([.raw (.func (.func 34) #[] #[])] : List C).drop 0), .elt (([.int .i64 y_3.1.Source, .str y_3.1.Host, .int .i64 y_3.1.Machine, .int .i64 y_3.1.Day, .int .i64 y_3.1.Confidence, .int .i64 y_3.1.Kind, .str y_3.1.Subject, .int .i64 y_3.1.Use.Alg, .int .i64 y_3.1.Use.Bits, .int .i64 y_3.1.Number, .str y_3.1.Text] : List C).drop 0), .elt (([.int .i64 y_3.2.Source, .str y_3.2.Host, .int .i64 y_3.2.Machine, .int .i64 y_3.2.Day, .int .i64 y_3.2.Confidence, .int .i64 y_3.2.Kind, .str y_3.2.Subject, .int .i64 y_3.2.Use.Alg, .int .i64 y_3.2.Use.Bits, .int .i64 y_3.2.Number, .str y_3.2.Text] : List C).drop 0)]), (3, .clo 30 0 [.elt (([.raw (.func (.func 35) #[] #[])] : List C).drop 0), .elt (([.int .i64 y_4.1.Source, .str y_4.1.Host, .int .i64 y_4.1.Machine, .int .i64 y_4.1.Day, .int .i64 y_4.1.Confidence, .int .i64 y_4.1.Kind, .str y_4.1.Subject, .int .i64 y_4.1.Use.Alg, .int .i64 y_4.1.Use.Bits, .int .i64 y_4.1.Number, .str y_4.1.Text] : List C).drop 0), .elt (([.int .i64 y_4.2.Source, .str y_4.2.Host, .int .i64 y_4.2.Machine, .int .i64 y_4.2.Day, .int .i64 y_4.2.Confidence, .int .i64 y_4.2.Kind, .str y_4.2.Subject, .int .i64 y_4.2.Use.Alg, .int .i64 y_4.2.Use.Bits, .int .i64 y_4.2.Number, .str y_4.2.Text] : List C).drop 0)]), (4, .clo 27 0 [.elt (([.raw (.func (.func 36) #[] #[])] : List C).drop 0), .elt (([.int .i64 y_5.1.Source, .str y_5.1.Host, .int .i64 y_5.1.Machine, .int .i64 y_5.1.Day, .int .i64 y_5.1.Confidence, .int .i64 y_5.1.Kind, .str y_5.1.Subject, .int .i64 y_5.1.Use.Alg, .int .i64 y_5.1.Use.Bits, .int .i64 y_5.1.Number, .str y_5.1.Text] : List C).drop 0), .elt (([.int .i64 y_5.2.Source, .str y_5.2.Host, .int .i64 y_5.2.Machine, .int .i64 y_5.2.Day, .int .i64 y_5.2.Confidence, .int .i64 y_5.2.Kind, .str y_5.2.Subject, .int .i64 y_5.2.Use.Alg, .int .i64 y_5.2.Use.Bits, .int .i64 y_5.2.Number, .str y_5.2.Text] : List C).drop 0)]), (5, .clo 27 0 [.elt (([.raw (.func (.func 37) #[] #[])] : List C).drop 0), .elt (([.int .i64 y_6.1.Source, .str y_6.1.Host, .int .i64 y_6.1.Machine, .int .i64 y_6.1.Day, .int .i64 y_6.1.Confidence, .int .i64 y_6.1.Kind, .str y_6.1.Subject, .int .i64 y_6.1.Use.Alg, .int .i64 y_6.1.Use.Bits, .int .i64 y_6.1.Number, .str y_6.1.Text] : List C).drop 0), .elt (([.int .i64 y_6.2.Source, .str y_6.2.Host, .int .i64 y_6.2.Machine, .int .i64 y_6.2.Day, .int .i64 y_6.2.Confidence, .int .i64 y_6.2.Kind, .str y_6.2.Subject, .int .i64 y_6.2.Use.Alg, .int .i64 y_6.2.Use.Bits, .int .i64 y_6.2.Number, .str y_6.2.Text] : List C).drop 0)]), (6, .clo 27 0 [.elt (([.raw (.func (.func 38) #[] #[])] : List C).drop 0), .elt (([.int .i64 y_7.1.Source, .str y_7.1.Host, .int .i64 y_7.1.Machine, .int .i64 y_7.1.Day, .int .i64 y_7.1.Confidence, .int .i64 y_7.1.Kind, .str y_7.1.Subject, .int .i64 y_7.1.Use.Alg, .int .i64 y_7.1.Use.Bits, .int .i64 y_7.1.Number, .str y_7.1.Text] : List C).drop 0), .elt (([.int .i64 y_7.2.Source, .str y_7.2.Host, .int .i64 y_7.2.Machine, .int .i64 y_7.2.Day, .int .i64 y_7.2.Confidence, .int .i64 y_7.2.Kind, .str y_7.2.Subject, .int .i64 y_7.2.Use.Alg, .int .i64 y_7.2.Use.Bits, .int .i64 y_7.2.Number, .str y_7.2.Text] : List C).drop 0)]), (7, .clo 27 0 [.elt (([.raw (.func (.func 39) #[] #[])] : List C).drop 0), .elt (([.int .i64 y_8.1.Source, .str y_8.1.Host, .int .i64 y_8.1.Machine, .int .i64 y_8.1.Day, .int .i64 y_8.1.Confidence, .int .i64 y_8.1.Kind, .str y_8.1.Subject, .int .i64 y_8.1.Use.Alg, .int .i64 y_8.1.Use.Bits, .int .i64 y_8.1.Number, .str y_8.1.Text] : List C).drop 0), .elt (([.int .i64 y_8.2.Source, .str y_8.2.Host, .int .i64 y_8.2.Machine, .int .i64 y_8.2.Day, .int .i64 y_8.2.Confidence, .int .i64 y_8.2.Kind, .str y_8.2.Subject, .int .i64 y_8.2.Use.Alg, .int .i64 y_8.2.Use.Bits, .int .i64 y_8.2.Number, .str y_8.2.Text] : List C).drop 0)]), (8, .clo 30 0 [.elt (([.raw (.func (.func 40) #[] #[])] : List C).drop 0), .elt (([.int .i64 y_9.1.Source, .str y_9.1.Host, .int .i64 y_9.1.Machine, .int .i64 y_9.1.Day, .int .i64 y_9.1.Confidence, .int .i64 y_9.1.Kind, .str y_9.1.Subject, .int .i64 y_9.1.Use.Alg, .int .i64 y_9.1.Use.Bits, .int .i64 y_9.1.Number, .str y_9.1.Text] : List C).drop 0), .elt (([.int .i64 y_9.2.Source, .str y_9.2.Host, .int .i64 y_9.2.Machine, .int .i64 y_9.2.Day, .int .i64 y_9.2.Confidence, .int .i64 y_9.2.Kind, .str y_9.2.Subject, .int .i64 y_9.2.Use.Alg, .int .i64 y_9.2.Use.Bits, .int .i64 y_9.2.Number, .str y_9.2.Text] : List C).drop 0)]), (9, .clo 27 0 [.elt (([.raw (.func (.func 41) #[] #[])] : List C).drop 0), .elt (([.int .i64 y_10.1.Source, .str y_10.1.Host, .int .i64 y_10.1.Machine, .int .i64 y_10.1.Day, .int .i64 y_10.1.Confidence, .int .i64 y_10.1.Kind, .str y_10.1.Subject, .int .i64 y_10.1.Use.Alg, .int .i64 y_10.1.Use.Bits, .int .i64 y_10.1.Number, .str y_10.1.Text] : List C).drop 0), .elt (([.int .i64 y_10.2.Source, .str y_10.2.Host, .int .i64 y_10.2.Machine, .int .i64 y_10.2.Day, .int .i64 y_10.2.Confidence, .int .i64 y_10.2.Kind, .str y_10.2.Subject, .int .i64 y_10.2.Use.Alg, .int .i64 y_10.2.Use.Bits, .int .i64 y_10.2.Number, .str y_10.2.Text] : List C).drop 0)])]) (pi := 10) Qr qJ (by decide) (by kernel_rfl) rfl (by decide) rfl) rfl rfl (fun _ => ⟨_, rfl⟩) ?_
 rintro _ rfl
 refine I3 (rd := [208]) rfl rfl (.lenV Qr) rfl rfl (fun _ => ⟨_, rfl⟩) ?_
 rintro _ rfl
 refine Al ?_
 refine Ai fun hU => ?_
 refine A4 ?_
 refine Xw 13 ?_
 refine R9 ?_
 refine Bn 232 240 hU ?_
 refine Al ?_
 refine Ai fun hU => ?_
 refine Ah ?_
 refine Gz rfl (fun h => ?_) (fun h => ?_)
 ·refine Aq ?_
  repeat first | refine Cw ?_ | refine Cz ?_
  refine Ah ?_
  refine A4 ?_
  refine Bn 240 264 hU ?_
  refine I3 (rd := [208]) rfl rfl (.idxV (j := 0) Qr rfl (Nat.le_of_ble_eq_true rfl)) rfl rfl (fun _ => ⟨_, rfl⟩) ?_
  rintro _ rfl
  refine I3 (rd := [208]) rfl rfl (.loadV Rz rfl) rfl rfl (fun _ => ⟨_, rfl⟩) ?_
  rintro _ rfl
  refine Al ?_
  refine Ai fun hU => ?_
  refine Bn 264 288 hU ?_
  refine Al ?_
  obtain ⟨y_12, hy_12, hg⟩ := Ac hg
  refine Ck (rd := []) (ps := []) (gs := []) false rfl rfl (Lr _ _ _ hy_12) rfl rfl (.cons .elt (.cons .elt (.cons .elt .nil))) rfl rfl (by intro h; cases h) rfl rfl rfl rfl ?_
  refine Al ?_
  refine Ai fun hU => ?_
  refine Bn 288 304 hU ?_
  refine Al ?_
  refine Ai fun hU => ?_
  refine C4 rfl hg (fun h9 hg => ?_) fun h9 hg => ?_
  ·refine Ah ?_
   refine Ad (Bo _ _ []) 304 320 hU rfl rfl ?_
   refine Al ?_
   refine Ai fun hU => ?_
   refine Bj ?_
   obtain rfl := oi_ hg
   exact Bi [] ⟨rfl, rfl⟩
  ·refine Aq ?_
   repeat first | refine Cw ?_ | refine Cz ?_
   refine Ad (Bo _ _ []) 304 320 hU rfl rfl ?_
   refine Ca rfl rfl (K8 (z := 1) (by decide)) rfl rfl ?_
   refine Al ?_
   refine Ai fun hU => ?_
   refine R9 ?_
   refine Bn 320 328 hU ?_
   refine Al ?_
   refine Ai fun hU => ?_
   refine Ah ?_
   refine Gz rfl (fun h => ?_) (fun h => ?_)
   ·refine Aq ?_
    repeat first | refine Cw ?_ | refine Cz ?_
    refine Ah ?_
    refine A4 ?_
    refine Bn 328 352 hU ?_
    refine I3 (rd := [208]) rfl rfl (.idxV (j := 1) Qr rfl (Nat.le_of_ble_eq_true rfl)) rfl rfl (fun _ => ⟨_, rfl⟩) ?_
    rintro _ rfl
    refine I3 (rd := [208]) rfl rfl (.loadV Rz rfl) rfl rfl (fun _ => ⟨_, rfl⟩) ?_
    rintro _ rfl
    refine Al ?_
    refine Ai fun hU => ?_
    refine Bn 352 376 hU ?_
    refine Al ?_
    obtain ⟨y_13, hy_13, hg⟩ := Ac hg
    refine Ck (rd := []) (ps := []) (gs := []) false rfl rfl (Lj _ _ _ hy_13) rfl rfl (.cons .elt (.cons .elt (.cons .elt .nil))) rfl rfl (by intro h; cases h) rfl rfl rfl rfl ?_
    refine Al ?_
    refine Ai fun hU => ?_
    refine Bn 376 392 hU ?_
    refine Al ?_
    refine Ai fun hU => ?_
    refine C4 rfl hg (fun h16 hg => ?_) fun h16 hg => ?_
    ·refine Ah ?_
     refine Ad (Bo _ _ []) 392 408 hU rfl rfl ?_
     refine Al ?_
     refine Ai fun hU => ?_
     refine Bj ?_
     obtain rfl := oi_ hg
     exact Bi [] ⟨rfl, rfl⟩
    ·refine Aq ?_
     repeat first | refine Cw ?_ | refine Cz ?_
     refine Ad (Bo _ _ []) 392 408 hU rfl rfl ?_
     refine Ca rfl rfl (K8 (z := 2) (by decide)) rfl rfl ?_
     refine Al ?_
     refine Ai fun hU => ?_
     refine R9 ?_
     refine Bn 408 416 hU ?_
     refine Al ?_
     refine Ai fun hU => ?_
     refine Ah ?_
     refine Gz rfl (fun h => ?_) (fun h => ?_)
     ·refine Aq ?_
      repeat first | refine Cw ?_ | refine Cz ?_
      refine Ah ?_
      refine A4 ?_
      refine Bn 416 440 hU ?_
      refine I3 (rd := [208]) rfl rfl (.idxV (j := 2) Qr rfl (Nat.le_of_ble_eq_true rfl)) rfl rfl (fun _ => ⟨_, rfl⟩) ?_
      rintro _ rfl
      refine I3 (rd := [208]) rfl rfl (.loadV Rz rfl) rfl rfl (fun _ => ⟨_, rfl⟩) ?_
      rintro _ rfl
      refine Al ?_
      refine Ai fun hU => ?_
      refine Bn 440 464 hU ?_
      refine Al ?_
      obtain ⟨y_14, hy_14, hg⟩ := Ac hg
      refine Ck (rd := []) (ps := []) (gs := []) false rfl rfl (Ln _ _ _ hy_14) rfl rfl (.cons .elt (.cons .elt (.cons .elt .nil))) rfl rfl (by intro h; cases h) rfl rfl rfl rfl ?_
      refine Al ?_
      refine Ai fun hU => ?_
      refine Bn 464 480 hU ?_
      refine Al ?_
      refine Ai fun hU => ?_
      refine C4 rfl hg (fun h23 hg => ?_) fun h23 hg => ?_
      ·refine Ah ?_
       refine Ad (Bo _ _ []) 480 496 hU rfl rfl ?_
       refine Al ?_
       refine Ai fun hU => ?_
       refine Bj ?_
       obtain rfl := oi_ hg
       exact Bi [] ⟨rfl, rfl⟩
      ·refine Aq ?_
       repeat first | refine Cw ?_ | refine Cz ?_
       refine Ad (Bo _ _ []) 480 496 hU rfl rfl ?_
       refine Ca rfl rfl (K8 (z := 3) (by decide)) rfl rfl ?_
       refine Al ?_
       refine Ai fun hU => ?_
       refine R9 ?_
       refine Bn 496 504 hU ?_
       refine Al ?_
       refine Ai fun hU => ?_
       refine Ah ?_
       refine Gz rfl (fun h => ?_) (fun h => ?_)
       ·refine Aq ?_
        repeat first | refine Cw ?_ | refine Cz ?_
        refine Ah ?_
        refine A4 ?_
        refine Bn 504 528 hU ?_
        refine I3 (rd := [208]) rfl rfl (.idxV (j := 3) Qr rfl (Nat.le_of_ble_eq_true rfl)) rfl rfl (fun _ => ⟨_, rfl⟩) ?_
        rintro _ rfl
        refine I3 (rd := [208]) rfl rfl (.loadV Rz rfl) rfl rfl (fun _ => ⟨_, rfl⟩) ?_
        rintro _ rfl
        refine Al ?_
        refine Ai fun hU => ?_
        refine Bn 528 552 hU ?_
        refine Al ?_
        obtain ⟨y_15, hy_15, hg⟩ := Ac hg
        refine Ck (rd := []) (ps := []) (gs := []) false rfl rfl (Lh _ _ _ hy_15) rfl rfl (.cons .elt (.cons .elt (.cons .elt .nil))) rfl rfl (by intro h; cases h) rfl rfl rfl rfl ?_
        refine Al ?_
        refine Ai fun hU => ?_
        refine Bn 552 568 hU ?_
        refine Al ?_
        refine Ai fun hU => ?_
        refine C4 rfl hg (fun h30 hg => ?_) fun h30 hg => ?_
        ·refine Ah ?_
         refine Ad (Bo _ _ []) 568 584 hU rfl rfl ?_
         refine Al ?_
         refine Ai fun hU => ?_
         refine Bj ?_
         obtain rfl := oi_ hg
         exact Bi [] ⟨rfl, rfl⟩
        ·refine Aq ?_
         repeat first | refine Cw ?_ | refine Cz ?_
         refine Ad (Bo _ _ []) 568 584 hU rfl rfl ?_
         refine Ca rfl rfl (K8 (z := 4) (by decide)) rfl rfl ?_
         refine Al ?_
         refine Ai fun hU => ?_
         refine R9 ?_
         refine Bn 584 592 hU ?_
         refine Al ?_
         refine Ai fun hU => ?_
         refine Ah ?_
         refine Gz rfl (fun h => ?_) (fun h => ?_)
         ·refine Aq ?_
          repeat first | refine Cw ?_ | refine Cz ?_
          refine Ah ?_
          refine A4 ?_
          refine Bn 592 616 hU ?_
          refine I3 (rd := [208]) rfl rfl (.idxV (j := 4) Qr rfl (Nat.le_of_ble_eq_true rfl)) rfl rfl (fun _ => ⟨_, rfl⟩) ?_
          rintro _ rfl
          refine I3 (rd := [208]) rfl rfl (.loadV Rz rfl) rfl rfl (fun _ => ⟨_, rfl⟩) ?_
          rintro _ rfl
          refine Al ?_
          refine Ai fun hU => ?_
          refine Bn 616 640 hU ?_
          refine Al ?_
          obtain ⟨y_16, hy_16, hg⟩ := Ac hg
          refine Ck (rd := []) (ps := []) (gs := []) false rfl rfl (Lk _ _ _ hy_16) rfl rfl (.cons .elt (.cons .elt (.cons .elt .nil))) rfl rfl (by intro h; cases h) rfl rfl rfl rfl ?_
          refine Al ?_
          refine Ai fun hU => ?_
          refine Bn 640 656 hU ?_
          refine Al ?_
          refine Ai fun hU => ?_
          refine C4 rfl hg (fun h37 hg => ?_) fun h37 hg => ?_
          ·refine Ah ?_
           refine Ad (Bo _ _ []) 656 672 hU rfl rfl ?_
           refine Al ?_
           refine Ai fun hU => ?_
           refine Bj ?_
           obtain rfl := oi_ hg
           exact Bi [] ⟨rfl, rfl⟩
          ·refine Aq ?_
           repeat first | refine Cw ?_ | refine Cz ?_
           refine Ad (Bo _ _ []) 656 672 hU rfl rfl ?_
           refine Ca rfl rfl (K8 (z := 5) (by decide)) rfl rfl ?_
           refine Al ?_
           refine Ai fun hU => ?_
           refine R9 ?_
           refine Bn 672 680 hU ?_
           refine Al ?_
           refine Ai fun hU => ?_
           refine Ah ?_
           refine Gz rfl (fun h => ?_) (fun h => ?_)
           ·refine Aq ?_
            repeat first | refine Cw ?_ | refine Cz ?_
            refine Ah ?_
            refine A4 ?_
            refine Bn 680 704 hU ?_
            refine I3 (rd := [208]) rfl rfl (.idxV (j := 5) Qr rfl (Nat.le_of_ble_eq_true rfl)) rfl rfl (fun _ => ⟨_, rfl⟩) ?_
            rintro _ rfl
            refine I3 (rd := [208]) rfl rfl (.loadV Rz rfl) rfl rfl (fun _ => ⟨_, rfl⟩) ?_
            rintro _ rfl
            refine Al ?_
            refine Ai fun hU => ?_
            refine Bn 704 728 hU ?_
            refine Al ?_
            obtain ⟨y_17, hy_17, hg⟩ := Ac hg
            refine Ck (rd := []) (ps := []) (gs := []) false rfl rfl (Lm _ _ _ hy_17) rfl rfl (.cons .elt (.cons .elt (.cons .elt .nil))) rfl rfl (by intro h; cases h) rfl rfl rfl rfl ?_
            refine Al ?_
            refine Ai fun hU => ?_
            refine Bn 728 744 hU ?_
            refine Al ?_
            refine Ai fun hU => ?_
            refine C4 rfl hg (fun h44 hg => ?_) fun h44 hg => ?_
            ·refine Ah ?_
             refine Ad (Bo _ _ []) 744 760 hU rfl rfl ?_
             refine Al ?_
             refine Ai fun hU => ?_
             refine Bj ?_
             obtain rfl := oi_ hg
             exact Bi [] ⟨rfl, rfl⟩
            ·refine Aq ?_
             repeat first | refine Cw ?_ | refine Cz ?_
             refine Ad (Bo _ _ []) 744 760 hU rfl rfl ?_
             refine Ca rfl rfl (K8 (z := 6) (by decide)) rfl rfl ?_
             refine Al ?_
             refine Ai fun hU => ?_
             refine R9 ?_
             refine Bn 760 768 hU ?_
             refine Al ?_
             refine Ai fun hU => ?_
             refine Ah ?_
             refine Gz rfl (fun h => ?_) (fun h => ?_)
             ·refine Aq ?_
              repeat first | refine Cw ?_ | refine Cz ?_
              refine Ah ?_
              refine A4 ?_
              refine Bn 768 792 hU ?_
              refine I3 (rd := [208]) rfl rfl (.idxV (j := 6) Qr rfl (Nat.le_of_ble_eq_true rfl)) rfl rfl (fun _ => ⟨_, rfl⟩) ?_
              rintro _ rfl
              refine I3 (rd := [208]) rfl rfl (.loadV Rz rfl) rfl rfl (fun _ => ⟨_, rfl⟩) ?_
              rintro _ rfl
              refine Al ?_
              refine Ai fun hU => ?_
              refine Bn 792 816 hU ?_
              refine Al ?_
              obtain ⟨y_18, hy_18, hg⟩ := Ac hg
              refine Ck (rd := []) (ps := []) (gs := []) false rfl rfl (Li _ _ _ hy_18) rfl rfl (.cons .elt (.cons .elt (.cons .elt .nil))) rfl rfl (by intro h; cases h) rfl rfl rfl rfl ?_
              refine Al ?_
              refine Ai fun hU => ?_
              refine Bn 816 832 hU ?_
              refine Al ?_
              refine Ai fun hU => ?_
              refine C4 rfl hg (fun h51 hg => ?_) fun h51 hg => ?_
              ·refine Ah ?_
               refine Ad (Bo _ _ []) 832 848 hU rfl rfl ?_
               refine Al ?_
               refine Ai fun hU => ?_
               refine Bj ?_
               obtain rfl := oi_ hg
               exact Bi [] ⟨rfl, rfl⟩
              ·refine Aq ?_
               repeat first | refine Cw ?_ | refine Cz ?_
               refine Ad (Bo _ _ []) 832 848 hU rfl rfl ?_
               refine Ca rfl rfl (K8 (z := 7) (by decide)) rfl rfl ?_
               refine Al ?_
               refine Ai fun hU => ?_
               refine R9 ?_
               refine Bn 848 856 hU ?_
               refine Al ?_
               refine Ai fun hU => ?_
               refine Ah ?_
               refine Gz rfl (fun h => ?_) (fun h => ?_)
               ·refine Aq ?_
                repeat first | refine Cw ?_ | refine Cz ?_
                refine Ah ?_
                refine A4 ?_
                refine Bn 856 880 hU ?_
                refine I3 (rd := [208]) rfl rfl (.idxV (j := 7) Qr rfl (Nat.le_of_ble_eq_true rfl)) rfl rfl (fun _ => ⟨_, rfl⟩) ?_
                rintro _ rfl
                refine I3 (rd := [208]) rfl rfl (.loadV Rz rfl) rfl rfl (fun _ => ⟨_, rfl⟩) ?_
                rintro _ rfl
                refine Al ?_
                refine Ai fun hU => ?_
                refine Bn 880 904 hU ?_
                refine Al ?_
                obtain ⟨y_19, hy_19, hg⟩ := Ac hg
                refine Ck (rd := []) (ps := []) (gs := []) false rfl rfl (Lq _ _ _ hy_19) rfl rfl (.cons .elt (.cons .elt (.cons .elt .nil))) rfl rfl (by intro h; cases h) rfl rfl rfl rfl ?_
                refine Al ?_
                refine Ai fun hU => ?_
                refine Bn 904 920 hU ?_
                refine Al ?_
                refine Ai fun hU => ?_
                refine C4 rfl hg (fun h58 hg => ?_) fun h58 hg => ?_
                ·refine Ah ?_
                 refine Ad (Bo _ _ []) 920 936 hU rfl rfl ?_
                 refine Al ?_
                 refine Ai fun hU => ?_
                 refine Bj ?_
                 obtain rfl := oi_ hg
                 exact Bi [] ⟨rfl, rfl⟩
                ·refine Aq ?_
                 repeat first | refine Cw ?_ | refine Cz ?_
                 refine Ad (Bo _ _ []) 920 936 hU rfl rfl ?_
                 refine Ca rfl rfl (K8 (z := 8) (by decide)) rfl rfl ?_
                 refine Al ?_
                 refine Ai fun hU => ?_
                 refine R9 ?_
                 refine Bn 936 944 hU ?_
                 refine Al ?_
                 refine Ai fun hU => ?_
                 refine Ah ?_
                 refine Gz rfl (fun h => ?_) (fun h => ?_)
                 ·refine Aq ?_
                  repeat first | refine Cw ?_ | refine Cz ?_
                  refine Ah ?_
                  refine A4 ?_
                  refine Bn 944 968 hU ?_
                  refine I3 (rd := [208]) rfl rfl (.idxV (j := 8) Qr rfl (Nat.le_of_ble_eq_true rfl)) rfl rfl (fun _ => ⟨_, rfl⟩) ?_
                  rintro _ rfl
                  refine I3 (rd := [208]) rfl rfl (.loadV Rz rfl) rfl rfl (fun _ => ⟨_, rfl⟩) ?_
                  rintro _ rfl
                  refine Al ?_
                  refine Ai fun hU => ?_
                  refine Bn 968 992 hU ?_
                  refine Al ?_
                  obtain ⟨y_20, hy_20, hg⟩ := Ac hg
                  refine Ck (rd := []) (ps := []) (gs := []) false rfl rfl (Lg _ _ _ hy_20) rfl rfl (.cons .elt (.cons .elt (.cons .elt .nil))) rfl rfl (by intro h; cases h) rfl rfl rfl rfl ?_
                  refine Al ?_
                  refine Ai fun hU => ?_
                  refine Bn 992 1008 hU ?_
                  refine Al ?_
                  refine Ai fun hU => ?_
                  refine C4 rfl hg (fun h65 hg => ?_) fun h65 hg => ?_
                  ·refine Ah ?_
                   refine Ad (Bo _ _ []) 1008 1024 hU rfl rfl ?_
                   refine Al ?_
                   refine Ai fun hU => ?_
                   refine Bj ?_
                   obtain rfl := oi_ hg
                   exact Bi [] ⟨rfl, rfl⟩
                  ·refine Aq ?_
                   repeat first | refine Cw ?_ | refine Cz ?_
                   refine Ad (Bo _ _ []) 1008 1024 hU rfl rfl ?_
                   refine Ca rfl rfl (K8 (z := 9) (by decide)) rfl rfl ?_
                   refine Al ?_
                   refine Ai fun hU => ?_
                   refine R9 ?_
                   refine Bn 1024 1032 hU ?_
                   refine Al ?_
                   refine Ai fun hU => ?_
                   refine Ah ?_
                   refine Gz rfl (fun h => ?_) (fun h => ?_)
                   ·refine Aq ?_
                    repeat first | refine Cw ?_ | refine Cz ?_
                    refine Ah ?_
                    refine A4 ?_
                    refine Bn 1032 1056 hU ?_
                    refine I3 (rd := [208]) rfl rfl (.idxV (j := 9) Qr rfl (Nat.le_of_ble_eq_true rfl)) rfl rfl (fun _ => ⟨_, rfl⟩) ?_
                    rintro _ rfl
                    refine I3 (rd := [208]) rfl rfl (.loadV Rz rfl) rfl rfl (fun _ => ⟨_, rfl⟩) ?_
                    rintro _ rfl
                    refine Al ?_
                    refine Ai fun hU => ?_
                    refine Bn 1056 1080 hU ?_
                    refine Al ?_
                    obtain ⟨y_21, hy_21, hg⟩ := Ac hg
                    refine Ck (rd := []) (ps := []) (gs := []) false rfl rfl (Lf _ _ _ hy_21) rfl rfl (.cons .elt (.cons .elt (.cons .elt .nil))) rfl rfl (by intro h; cases h) rfl rfl rfl rfl ?_
                    refine Al ?_
                    refine Ai fun hU => ?_
                    refine Bn 1080 1096 hU ?_
                    refine Al ?_
                    refine Ai fun hU => ?_
                    refine C4 rfl hg (fun h72 hg => ?_) fun h72 hg => ?_
                    ·refine Ah ?_
                     refine Ad (Bo _ _ []) 1096 1112 hU rfl rfl ?_
                     refine Al ?_
                     refine Ai fun hU => ?_
                     refine Bj ?_
                     obtain rfl := oi_ hg
                     exact Bi [] ⟨rfl, rfl⟩
                    ·refine Aq ?_
                     repeat first | refine Cw ?_ | refine Cz ?_
                     refine Ad (Bo _ _ []) 1096 1112 hU rfl rfl ?_
                     refine Ca rfl rfl (K8 (z := 10) (by decide)) rfl rfl ?_
                     refine Al ?_
                     refine Ai fun hU => ?_
                     refine R9 ?_
                     refine Bn 1112 1120 hU ?_
                     refine Al ?_
                     refine Ai fun hU => ?_
                     refine Ah ?_
                     refine Gz rfl (fun h => ?_) (fun h => ?_)
                     ·refine Aq ?_
                      repeat first | refine Cw ?_ | refine Cz ?_
                      refine Ah ?_
                      refine A4 ?_
                      refine Bn 1120 1144 hU ?_
                      refine I3 (rd := [208]) rfl rfl (.idxV (j := 10) Qr rfl (Nat.le_of_ble_eq_true rfl)) rfl rfl (fun _ => ⟨_, rfl⟩) ?_
                      rintro _ rfl
                      refine I3 (rd := [208]) rfl rfl (.loadV Rz rfl) rfl rfl (fun _ => ⟨_, rfl⟩) ?_
                      rintro _ rfl
                      refine Al ?_
                      refine Ai fun hU => ?_
                      refine Bn 1144 1168 hU ?_
                      refine Al ?_
                      obtain ⟨y_22, hy_22, hg⟩ := Ac hg
                      refine Ck (rd := []) (ps := []) (gs := []) false rfl rfl (Ls _ _ _ hy_22) rfl rfl (.cons .elt (.cons .elt (.cons .elt .nil))) rfl rfl (by intro h; cases h) rfl rfl rfl rfl ?_
                      refine Al ?_
                      refine Ai fun hU => ?_
                      refine Bn 1168 1184 hU ?_
                      refine Al ?_
                      refine Ai fun hU => ?_
                      refine C4 rfl hg (fun h79 hg => ?_) fun h79 hg => ?_
                      ·refine Ah ?_
                       refine Ad (Bo _ _ []) 1184 1200 hU rfl rfl ?_
                       refine Al ?_
                       refine Ai fun hU => ?_
                       refine Bj ?_
                       obtain rfl := oi_ hg
                       exact Bi [] ⟨rfl, rfl⟩
                      ·refine Aq ?_
                       repeat first | refine Cw ?_ | refine Cz ?_
                       refine Ad (Bo _ _ []) 1184 1200 hU rfl rfl ?_
                       refine Ca rfl rfl (K8 (z := 11) (by decide)) rfl rfl ?_
                       refine Al ?_
                       refine Ai fun hU => ?_
                       refine R9 ?_
                       refine Bn 1200 1208 hU ?_
                       refine Al ?_
                       refine Ai fun hU => ?_
                       refine Ah ?_
                       refine Gz rfl (fun h => ?_) (fun h => ?_)
                       ·exact absurd h (by first | decide | exact fun h => nomatch (show false = true from h) | exact fun h => nomatch (show true = false from h))
                       ·refine Cb ?_
                        repeat first | refine Cw ?_ | refine Cz ?_
                        refine Bn 1208 1216 hU ?_
                        refine Al ?_
                        refine Ai fun hU => ?_
                        refine Bj ?_
                        obtain rfl := oi_ hg
                        exact Bi [] ⟨rfl, rfl⟩
                     ·exact absurd h (by first | decide | exact fun h => nomatch (show false = true from h) | exact fun h => nomatch (show true = false from h))
                   ·exact absurd h (by first | decide | exact fun h => nomatch (show false = true from h) | exact fun h => nomatch (show true = false from h))
                 ·exact absurd h (by first | decide | exact fun h => nomatch (show false = true from h) | exact fun h => nomatch (show true = false from h))
               ·exact absurd h (by first | decide | exact fun h => nomatch (show false = true from h) | exact fun h => nomatch (show true = false from h))
             ·exact absurd h (by first | decide | exact fun h => nomatch (show false = true from h) | exact fun h => nomatch (show true = false from h))
           ·exact absurd h (by first | decide | exact fun h => nomatch (show false = true from h) | exact fun h => nomatch (show true = false from h))
         ·exact absurd h (by first | decide | exact fun h => nomatch (show false = true from h) | exact fun h => nomatch (show true = false from h))
       ·exact absurd h (by first | decide | exact fun h => nomatch (show false = true from h) | exact fun h => nomatch (show true = false from h))
     ·exact absurd h (by first | decide | exact fun h => nomatch (show false = true from h) | exact fun h => nomatch (show true = false from h))
   ·exact absurd h (by first | decide | exact fun h => nomatch (show false = true from h) | exact fun h => nomatch (show true = false from h))
 ·exact absurd h (by first | decide | exact fun h => nomatch (show false = true from h) | exact fun h => nomatch (show true = false from h))
end Go.Proofs.Ytjomajedgbcngaa
