import Derived.Test.YtjomajedgbcngaaT1
import Derived.Test.YtjomajedgbcngaaA1
import Derived.Test.YtjomajedgbcngaaA2
import Derived.Test.YtjomajedgbcngaaA3
import Derived.Test.YtjomajedgbcngaaA5
set_option linter.unusedVariables false
set_option linter.unusedSimpArgs false
set_option maxRecDepth 100000
set_option maxHeartbeats 1600000
namespace Go.Proofs.Ytjomajedgbcngaa
open Go.RowKit
theorem Ii (l : (List Aa)) (r : (List Aa) × Int) (hg : B4 l = some r) : Fn Try.prog 11 0 [.sl 11 (Az Aa.enc l)] [] (fun d' b' => d' = .tup [.sl 11 (Az Aa.enc r.1), .val (.int .i64 r.2)] /\ b' = []) := by
 unfold B4 at hg
 refine Fn.of Try.func11 rfl rfl rfl fun w0 I ρ0 => ?_
 show Ci _ ⟨w0, I, ρ0, 0, 0, 30⟩ _ _ _
 refine Bn 0 16 Bg ?_
 refine Al ?_
 refine Ai fun hU => ?_
 refine Ah ?_
 refine Bn 16 40 hU ?_
 refine Al ?_
 refine Ai fun hU => ?_
 refine A4 ?_
 refine Ll (fun (x10_1 : Int) => mk [(0, .sl 11 (Az Aa.enc l)), (8, .sl 11 (Az Aa.enc l)), (9, .val (.int .i64 (l.length : Int))), (10, .val (.int .i64 x10_1))] [] 0) hg (Ba []) ?_
 rintro x10_1 m1 o1 hg hn1
 replace hg : B4.l1 l x10_1 = some o1 := hg
 show Ci _ _ _ _ (mk _ _ _)
 unfold B4.l1 at hg
 refine Bn 0 8 Bg ?_
 refine Al ?_
 refine Ai fun hU => ?_
 refine Ah ?_
 refine C4 rfl hg (fun h4 hg => ?_) fun h4 hg => ?_
 ·refine Aq ?_
  repeat first | refine Cw ?_ | refine Cz ?_
  refine Ah ?_
  refine A4 ?_
  refine Bn 8 40 hU ?_
  obtain ⟨e, he, hg⟩ := Ac hg
  refine Al ?_
  refine Ca rfl rfl (Cd Cg (Bd Aa.enc_len (Ao he) (o := 0) (m := 11) (cs := [.int .i64 e.Source, .str e.Host, .int .i64 e.Machine, .int .i64 e.Day, .int .i64 e.Confidence, .int .i64 e.Kind, .str e.Subject, .int .i64 e.Use.Alg, .int .i64 e.Use.Bits, .int .i64 e.Number, .str e.Text]) rfl (by decide) rfl) (Ap Aa.enc_len (Ao he) (o := 0) (m := 11) (by decide) rfl)) rfl rfl ?_
  refine Al ?_
  refine Ai fun hU => ?_
  refine Bn 40 64 hU ?_
  refine Al ?_
  obtain ⟨y, hy, hg⟩ := Ac hg
  refine E5 (H7 _ _ hy) ?_
  refine Al ?_
  refine Ai fun hU => ?_
  refine Bn 64 80 hU ?_
  refine Al ?_
  refine Ai fun hU => ?_
  refine C4 rfl hg (fun h8 hg => ?_) fun h8 hg => ?_
  ·refine Ah ?_
   refine Ad (Bo _ _ []) 80 104 hU rfl rfl ?_
   refine Al ?_
   refine Ai fun hU => ?_
   refine Bj ?_
   replace hg := C3 hg hn1
   obtain rfl := oi_ hg
   exact Bi [] ⟨rfl, rfl⟩
  ·refine Aq ?_
   repeat first | refine Cw ?_ | refine Cz ?_
   refine Ad (Bo _ _ []) 80 96 hU rfl rfl ?_
   refine Al ?_
   refine Ai fun hU => ?_
   obtain rfl := oi_ hg
   exact ⟨(W (x10_1 + 1), m1), Nat.lt_succ_self _, hn1, Ba []⟩
 ·refine Cb ?_
  repeat first | refine Cw ?_ | refine Cz ?_
  replace hg := C3 hg hn1
  refine Bn 8 32 hU ?_
  refine Al ?_
  obtain ⟨y_2, hy_2, hg⟩ := Ac hg
  refine Gh (rd := []) (ps := []) (gs := []) false rfl (Jd _ _ hy_2) rfl rfl (.cons .sl .nil) rfl rfl (by intro h; cases h) rfl (by intro h; first | (cases h; done) | exact ⟨_, _, ⟨rfl, rfl⟩, by simp, by simp⟩) ?_
  rintro _ _ ⟨rfl, rfl⟩
  refine Al ?_
  refine Ai fun hU => ?_
  refine Bn 32 48 hU ?_
  refine Al ?_
  obtain ⟨y_3, hy_3, hg⟩ := Ac hg
  refine Hr [16] [16] [] false (Hi y_2 (fun x0 x1 => Df x0 x1) (fun x0 x1 y h => El x0 x1 y h) _ hy_3) ?_
  refine Ai fun hU => ?_
  refine Bn 48 72 hU ?_
  refine Al ?_
  obtain ⟨y_4, hy_4, hg⟩ := Ac hg
  refine Gh (rd := [16]) (ps := []) (gs := [16]) false rfl (It _ _ hy_4) rfl rfl (.cons (.rowK rfl) .nil) ⟨_, _, _, rfl, .head _, rfl, rfl⟩ rfl (by intro h; cases h) rfl (by intro h; first | (cases h; done) | exact ⟨_, _, ⟨rfl, rfl⟩, by simp, by simp⟩) ?_
  rintro _ _ ⟨rfl, rfl⟩
  refine Al ?_
  refine Ai fun hU => ?_
  refine Ah ?_
  refine Bn 72 96 hU ?_
  refine Al ?_
  refine Ai fun hU => ?_
  refine C4 rfl hg (fun h15 hg => ?_) fun h15 hg => ?_
  ·refine Ah ?_
   refine Ad (Bo _ _ []) 96 112 hU rfl rfl ?_
   refine Al ?_
   refine Ai fun hU => ?_
   refine Bj ?_
   obtain rfl := oi_ hg
   exact Bi [] ⟨rfl, rfl⟩
  ·refine Aq ?_
   repeat first | refine Cw ?_ | refine Cz ?_
   refine Bn 96 120 hU ?_
   refine Al ?_
   refine Ai fun hU => ?_
   refine Bj ?_
   obtain rfl := oi_ hg
   exact Bi [] ⟨rfl, rfl⟩
theorem Pf (at' : Aa) (l : (List Ce)) (r : (List Aa) × Int) (hg : B6 at' l = some r) : Fn Try.prog 22 0 [.agg (Aa.dv at'), .sl 6 (Az Ce.enc l)] [] (fun d' b' => d' = .tup [.sl 11 (Az Aa.enc r.1), .val (.int .i64 r.2)] /\ b' = []) := by
 unfold B6 at hg
 refine Fn.of Try.func22 rfl rfl rfl fun w0 I ρ0 => ?_
 show Ci _ ⟨w0, I, ρ0, 0, 0, 42⟩ _ _ _
 refine Bn 0 24 Bg ?_
 refine Al ?_
 refine Ai fun hU => ?_
 refine Bn 24 80 hU ?_
 refine Al ?_
 obtain ⟨y, hy, hg⟩ := Ac hg
 refine Gh (rd := []) (ps := []) (gs := []) false rfl (Tf _ _ hy) rfl rfl (.cons (.agg (.cons .val (.cons .val (.cons .val (.cons .val (.cons .val (.cons .val (.cons .val (.cons .val (.cons .val (.cons .val (.cons .val .nil)))))))))))) .nil) rfl rfl (by intro h; cases h) rfl (by intro h; first | (cases h; done) | exact ⟨_, _, ⟨rfl, rfl⟩, by simp, by simp⟩) ?_
 rintro _ _ ⟨rfl, rfl⟩
 refine Al ?_
 refine Ai fun hU => ?_
 refine By (ι := Int) (fun (errno_1 : Int) => mk [(1, .sl 6 (Az Ce.enc l)), (6, .ptr 0 0), (7, .val (.int .i64 errno_1))] [(0, .box [.val (.int .i64 y.1.at_.Source), .val (.string y.1.at_.Host), .val (.int .i64 y.1.at_.Machine), .val (.int .i64 y.1.at_.Day), .val (.int .i64 y.1.at_.Confidence), .val (.int .i64 y.1.at_.Kind), .val (.string y.1.at_.Subject), .val (.int .i64 y.1.at_.Use.Alg), .val (.int .i64 y.1.at_.Use.Bits), .val (.int .i64 y.1.at_.Number), .val (.string y.1.at_.Text), .row 1] 76), (1, .row 30 11 (Az Aa.enc y.1.l))] 2) (fun (errno_1 : Int) => B6.j1 l y errno_1 = some r) ?_ ?_
 ·refine Ah ?_
  refine Ad (Bo _ _ []) 80 96 hU rfl rfl ?_
  refine Al ?_
  refine Ai fun hU => ?_
  refine C4 rfl hg (fun h4 hg => ?_) fun h4 hg => ?_
  ·refine Ad (Bo _ _ []) 96 120 hU rfl rfl ?_
   refine Al ?_
   obtain ⟨y_2, hy_2, hg⟩ := Ac hg
   refine E5 (Q2 _ _ hy_2) ?_
   refine Al ?_
   refine Ai fun hU => ?_
   exact ⟨y_2, hg, Ba [(0, 32), (1, 33)]⟩
  ·refine Aq ?_
   repeat first | refine Cw ?_ | refine Cz ?_
   exact ⟨y.2, hg, Ba [(0, 32), (1, 33)]⟩
 ·rintro errno_1 hg
  replace hg : B6.j1 l y errno_1 = some r := hg
  show Ci _ _ _ _ (mk _ _ _)
  unfold B6.j1 at hg
  refine Ah ?_
  refine Bn 2 18 Bg ?_
  refine Al ?_
  refine Ai fun hU => ?_
  refine C4 rfl hg (fun h7 hg => ?_) fun h7 hg => ?_
  ·refine Ah ?_
   refine Ad (Bo _ _ []) 18 42 hU rfl rfl ?_
   refine Al ?_
   refine Ai fun hU => ?_
   refine Bj ?_
   obtain rfl := oi_ hg
   exact Bi [] ⟨rfl, rfl⟩
  ·refine Aq ?_
   repeat first | refine Cw ?_ | refine Cz ?_
   refine Ah ?_
   refine Bn 18 42 hU ?_
   refine Al ?_
   refine Ai fun hU => ?_
   refine A4 ?_
   refine Ll (fun ((x24_2, p_2, p_2_2, p_2_3, p_2_4, p_2_5, p_2_6, p_2_7, p_2_8, p_2_9, p_2_10, p_2_11, l_2) : Int × Int × ByteArray × Int × Int × Int × Int × ByteArray × Int × Int × Int × ByteArray × List Aa) => mk [(6, .ptr 0 0), (22, .sl 6 (Az Ce.enc l)), (23, .val (.int .i64 (l.length : Int))), (24, .val (.int .i64 x24_2))] [(0, .box [.val (.int .i64 p_2), .val (.string p_2_2), .val (.int .i64 p_2_3), .val (.int .i64 p_2_4), .val (.int .i64 p_2_5), .val (.int .i64 p_2_6), .val (.string p_2_7), .val (.int .i64 p_2_8), .val (.int .i64 p_2_9), .val (.int .i64 p_2_10), .val (.string p_2_11), .row 1] 76), (1, .row 30 11 (Az Aa.enc l_2))] 2) hg (Ba [(0, 0), (1, 1)]) ?_
   rintro ⟨x24_2, p_2, p_2_2, p_2_3, p_2_4, p_2_5, p_2_6, p_2_7, p_2_8, p_2_9, p_2_10, p_2_11, l_2⟩ m2 o2 hg hn2
   replace hg : B6.l2 l x24_2 p_2 p_2_2 p_2_3 p_2_4 p_2_5 p_2_6 p_2_7 p_2_8 p_2_9 p_2_10 p_2_11 l_2 = some o2 := hg
   show Ci _ _ _ _ (mk _ _ _)
   unfold B6.l2 at hg
   refine Bn 2 10 Bg ?_
   refine Al ?_
   refine Ai fun hU => ?_
   refine Ah ?_
   refine C4 rfl hg (fun h11 hg => ?_) fun h11 hg => ?_
   ·refine Aq ?_
    repeat first | refine Cw ?_ | refine Cz ?_
    refine Ah ?_
    refine A4 ?_
    refine Bn 10 42 hU ?_
    obtain ⟨e, he, hg⟩ := Ac hg
    refine Al ?_
    refine Ca rfl rfl (Cd lC (Bd Ce.enc_len (Ao he) (o := 0) (m := 6) (cs := [.str e.Alias, .int .i64 e.Key.Alg, .int .i64 e.Key.Bits, .int .i64 e.KeyId, .bool e.Secret, .sl 15 (Az Bc.enc e.Chain)]) rfl (by decide) rfl) (Ap Ce.enc_len (Ao he) (o := 0) (m := 6) (by decide) rfl)) rfl rfl ?_
    refine Al ?_
    refine Ai fun hU => ?_
    refine Ad (Bo _ _ []) 42 90 hU rfl rfl ?_
    refine Al ?_
    obtain ⟨y_3, hy_3, hg⟩ := Ac hg
    refine Gh (rd := [0, 1]) (ps := [0]) (gs := [1]) false rfl (Pv _ _ _ _ _ hy_3) rfl rfl (.cons (.ptr rfl) (.cons .val (.cons (.agg (.cons .val (.cons .val .nil))) (.cons .val .nil)))) ⟨_, _, _, rfl, .head _, ⟨_, rfl, (by repeat' (first | exact Le.nil | apply Le.cons | exact Ag.val | exact Ag.sl | exact Ag.nils | exact Ag.ptr rfl | exact Ag.rowK rfl))⟩, ⟨_, _, _, rfl, .tail _ (.head _), rfl, rfl⟩⟩ rfl (by intro h; cases h) rfl (by intro h; first | (cases h; done) | exact ⟨_, _, ⟨rfl, rfl⟩, by simp, by simp⟩) ?_
    rintro _ _ ⟨rfl, rfl⟩
    refine Ai fun hU => ?_
    refine Ad (Bo _ _ []) 90 106 hU rfl rfl ?_
    refine Al ?_
    refine Ai fun hU => ?_
    obtain rfl := oi_ hg
    exact ⟨((W (x24_2 + 1), y_3.at_.Source, y_3.at_.Host, y_3.at_.Machine, y_3.at_.Day, y_3.at_.Confidence, y_3.at_.Kind, y_3.at_.Subject, y_3.at_.Use.Alg, y_3.at_.Use.Bits, y_3.at_.Number, y_3.at_.Text, y_3.l), m2), Nat.lt_succ_self _, hn2, Ba [(0, 0), (1, 82)]⟩
   ·refine Cb ?_
    repeat first | refine Cw ?_ | refine Cz ?_
    replace hg := C3 hg hn2
    refine Ah ?_
    refine Em (σ' := mk [(6, .ptr 0 0)] [(0, .box [.val (.int .i64 p_2), .val (.string p_2_2), .val (.int .i64 p_2_3), .val (.int .i64 p_2_4), .val (.int .i64 p_2_5), .val (.int .i64 p_2_6), .val (.string p_2_7), .val (.int .i64 p_2_8), .val (.int .i64 p_2_9), .val (.int .i64 p_2_10), .val (.string p_2_11), .sl 11 (Az Aa.enc l_2)] 76)] 1) (Ba [(0, 0)]) ?_
    refine Ad (Bo _ _ []) 1 73 Bg rfl rfl ?_
    refine Al ?_
    obtain ⟨y_4, hy_4, hg⟩ := Ac hg
    refine E5 (Ii _ _ hy_4) ?_
    refine Al ?_
    refine Ai fun hU => ?_
    refine Bj ?_
    obtain rfl := oi_ hg
    exact Bi [] ⟨rfl, rfl⟩
theorem He  (r : Bool) (hg : Eh = some r) : Fn Try.prog 7 0 [] [] (fun d' b' => d' = .val (.bool r) /\ b' = []) := by
 unfold Eh at hg
 refine Fn.of Try.func7 rfl rfl rfl fun w0 I ρ0 => ?_
 show Ci _ ⟨w0, I, ρ0, 0, 0, 45⟩ _ _ _
 refine Bn 0 8 Bg ?_
 refine Al ?_
 refine Ai fun hU => ?_
 refine Bn 8 32 hU ?_
 refine Ca rfl rfl (.build (r := [.val (.int .i64 5), .val (.int .i64 2048)]) Mr Tg Yl (by kernel_rfl) rfl) rfl rfl ?_
 refine Al ?_
 refine Ai fun hU => ?_
 refine Bn 32 56 hU ?_
 refine Ca rfl rfl (.build (r := [.val (.int .i64 2), .val (.string (⟨#[97]⟩ : ByteArray)), .val (.int .i64 0), .val (.int .i64 3), .val (.int .i64 90), .val (.int .i64 0), .val (.string (⟨#[115]⟩ : ByteArray)), .val (.int .i64 0), .val (.int .i64 0), .val (.int .i64 0), .val (.string (⟨#[]⟩ : ByteArray))]) Nn oO Yy (by kernel_rfl) rfl) rfl rfl ?_
 refine Al ?_
 refine Ai fun hU => ?_
 refine Ah ?_
 refine Ad (Bo _ _ [96]) 56 152 hU rfl rfl ?_
 refine Al ?_
 refine Ca rfl rfl (.build (r := [.val (.string (⟨#[120]⟩ : ByteArray)), .val (.int .i64 5), .val (.int .i64 2048), .val (.int .i64 7), .val (.bool false), .val (.slice none 0 0)]) Uv oN oW (by kernel_rfl) rfl) rfl rfl ?_
 refine Al ?_
 refine Ca rfl rfl (.build (r := [.val (.string (⟨#[121]⟩ : ByteArray)), .val (.int .i64 5), .val (.int .i64 2048), .val (.int .i64 7), .val (.bool false), .val (.slice none 0 0)]) Uv oN oW (by kernel_rfl) rfl) rfl rfl ?_
 refine Mi (rd := []) rfl rfl (Bb oS oW (by decide) rfl rfl rfl rfl pN (cs := [.str (⟨#[120]⟩ : ByteArray), .int .i64 5, .int .i64 2048, .int .i64 7, .bool false, .sl 15 (Az Bc.enc []), .str (⟨#[121]⟩ : ByteArray), .int .i64 5, .int .i64 2048, .int .i64 7, .bool false, .sl 15 (Az Bc.enc [])]) (.cons .str (.cons .int (.cons .int (.cons .int (.cons .bool (.cons .nil (.cons .str (.cons .int (.cons .int (.cons .int (.cons .bool (.cons .nil .nil)))))))))))) rfl (l := ([(Ce.mk (⟨#[120]⟩ : ByteArray) (Bk.mk 5 2048) 7 false ([] : (List Bc))), (Ce.mk (⟨#[121]⟩ : ByteArray) (Bk.mk 5 2048) 7 false ([] : (List Bc)))] : List Ce)) (f := Ce.enc) rfl) rfl rfl rfl ?_
 obtain ⟨y, hy, hg⟩ := Ac hg
 refine E5 (Pf _ _ _ hy) ?_
 refine Al ?_
 refine Ai fun hU => ?_
 refine Bn 152 384 hU ?_
 refine Al ?_
 rcases Ea hg with ⟨h5, hg⟩ | ⟨h5, hg⟩
 ·refine Al ?_
  rcases Ea hg with ⟨h6, hg⟩ | ⟨h6, hg⟩
  ·refine Al ?_
   obtain ⟨e, he, hg⟩ := Ac hg
   refine Al ?_
   refine Ca (B7 rfl rfl h6) rfl (Mm dQ T7 (by decide) (Q5 Aa.enc_len (Ao he) (o := 9) (by decide) rfl)) rfl rfl ?_
   refine Ca (B7 rfl rfl h6) rfl (Ch T7 (D6 Aa.enc_len (Ao he) (o := 9) (c := .int .i64 e.Number) rfl rfl)) rfl rfl ?_
   refine Al ?_
   rcases Ea hg with ⟨h7, hg⟩ | ⟨h7, hg⟩
   ·refine Al ?_
    refine Ca (B7 rfl rfl h7) rfl (Mm aH T7 (by decide) (Q5 Aa.enc_len (Ao he) (o := 5) (by decide) rfl)) rfl rfl ?_
    refine Ca (B7 rfl rfl h7) rfl (Ch T7 (D6 Aa.enc_len (Ao he) (o := 5) (c := .int .i64 e.Kind) rfl rfl)) rfl rfl ?_
    refine Al ?_
    rcases Ea hg with ⟨h8, hg⟩ | ⟨h8, hg⟩
    ·refine Al ?_
     refine Ca (B7 rfl rfl h8) rfl (Cd Cg (Bd Aa.enc_len (Ao he) (o := 0) (m := 11) (cs := [.int .i64 e.Source, .str e.Host, .int .i64 e.Machine, .int .i64 e.Day, .int .i64 e.Confidence, .int .i64 e.Kind, .str e.Subject, .int .i64 e.Use.Alg, .int .i64 e.Use.Bits, .int .i64 e.Number, .str e.Text]) rfl (by decide) rfl) (Ap Aa.enc_len (Ao he) (o := 0) (m := 11) (by decide) rfl)) rfl rfl ?_
     obtain ⟨y_2, hy_2, hg⟩ := Ac hg
     refine E5 (H7 _ _ hy_2) ?_
     refine Al ?_
     refine Ai fun hU => ?_
     refine Bj ?_
     obtain rfl := oi_ hg
     exact Bi [] ⟨rfl, rfl⟩
    ·refine Al ?_
     refine Ai fun hU => ?_
     refine Bj ?_
     obtain rfl := oi_ hg
     exact Bi [] ⟨rfl, rfl⟩
   ·refine Al ?_
    refine Ai fun hU => ?_
    refine Bj ?_
    obtain rfl := oi_ hg
    exact Bi [] ⟨rfl, rfl⟩
  ·refine Al ?_
   refine Ai fun hU => ?_
   refine Bj ?_
   obtain rfl := oi_ hg
   exact Bi [] ⟨rfl, rfl⟩
 ·refine Al ?_
  refine Ai fun hU => ?_
  refine Bj ?_
  obtain rfl := oi_ hg
  exact Bi [] ⟨rfl, rfl⟩
theorem Oe (l : (List Int)) (r : Aj) (hg : Ib l = some r) : Fn Try.prog 8 0 [.sl 1 (Az eI l)] [] (fun d' b' => d' = .ptr 0 0 /\ b' = [.box [.sl 1 (Az eI r.L), .val (.int .i64 r.At)] 49]) := by
 unfold Ib at hg
 refine Fn.of Try.func8 rfl rfl rfl fun w0 I ρ0 => ?_
 show Ci _ ⟨w0, I, ρ0, 0, 0, 6⟩ _ _ _
 refine Bn 0 8 Bg ?_
 refine Al ?_
 refine Ai fun hU => ?_
 refine Bn 8 40 hU ?_
 refine Al ?_
 refine Ca rfl rfl (.build (r := [.sl 1 (Az eI l), .val (.int .i64 0)]) aY qD qG (by kernel_rfl) rfl) rfl rfl ?_
 refine Al ?_
 refine Ai fun hU => ?_
 refine Bj ?_
 obtain rfl := oi_ hg
 exact Bi [(0, 24)] ⟨rfl, rfl⟩
theorem Xi (n : Int) (k : Int) (r : Int) (hg : Kt n k = some r) : Fn Try.prog 58 0 [.val (.int .i64 n), .val (.int .i64 k)] [] (fun d' b' => d' = .val (.int .i64 r) /\ b' = []) := by
 unfold Kt at hg
 refine Fn.of Try.func58 rfl rfl rfl fun w0 I ρ0 => ?_
 show Ci _ ⟨w0, I, ρ0, 0, 0, 14⟩ _ _ _
 refine Bn 0 8 Bg ?_
 refine Al ?_
 refine Ai fun hU => ?_
 refine Ah ?_
 refine Bn 8 24 hU ?_
 refine Al ?_
 refine Ai fun hU => ?_
 refine C4 rfl hg (fun h3 hg => ?_) fun h3 hg => ?_
 ·refine Ah ?_
  refine Ad (Bo _ _ []) 24 32 hU rfl rfl ?_
  refine Al ?_
  refine Ai fun hU => ?_
  refine Bj ?_
  obtain rfl := oi_ hg
  exact Bi [] ⟨rfl, rfl⟩
 ·refine Aq ?_
  repeat first | refine Cw ?_ | refine Cz ?_
  refine Bn 24 88 hU ?_
  refine Al ?_
  obtain ⟨q, hq, hg⟩ := Ac hg
  refine Ca rfl rfl (hH hq) rfl rfl ?_
  refine Al ?_
  obtain ⟨q_2, hq_2, hg⟩ := Ac hg
  refine Ca rfl rfl (hH hq_2) rfl rfl ?_
  refine Al ?_
  refine Ai fun hU => ?_
  refine Bj ?_
  obtain rfl := oi_ hg
  exact Bi [] ⟨rfl, rfl⟩
theorem Dd (d : Aj) (n : Int) (r : Int × Aj) (hg : Cp d n = some r) : Fn Try.prog 23 1 [.ptr 0 0, .val (.int .i64 n)] [.box [.sl 1 (Az eI d.L), .val (.int .i64 d.At)] 49] (fun d' b' => d' = .val (.int .i64 r.1) /\ b' = [.box [.sl 1 (Az eI r.2.L), .val (.int .i64 r.2.At)] 49]) := by
 unfold Cp at hg
 refine Fn.of Try.func23 rfl rfl rfl fun w0 I ρ0 => ?_
 show Ci _ ⟨w0, I, ρ0, 1, 1, 35⟩ _ _ _
 refine Bn 1 9 Bg ?_
 refine Al ?_
 refine Ai fun hU => ?_
 refine Ah ?_
 refine Ah ?_
 refine Bv (Bo _ _ []) (by kernel_rfl) [0, 1, 3, 7, 0, 16, 48, 112, 240, 511] 9 89 hU rfl rfl (by kernel_rfl) ?_
 refine Al ?_
 refine Ai fun hU => ?_
 refine C4 rfl hg (fun h3 hg => ?_) fun h3 hg => ?_
 ·refine Ah ?_
  refine Ad (Bo _ _ []) 89 97 hU rfl rfl ?_
  refine Al ?_
  refine Ai fun hU => ?_
  refine Bj ?_
  obtain rfl := oi_ hg
  exact Bi [(0, 0)] ⟨rfl, rfl⟩
 ·refine Aq ?_
  repeat first | refine Cw ?_ | refine Cz ?_
  refine Bn 89 153 hU ?_
  refine Al ?_
  refine Ai fun hU => ?_
  refine Ah ?_
  refine Bv (Bo _ _ []) (by kernel_rfl) [0, 1, 3, 7, 0, 16, 48, 112, 240, 511, 1023, 0, 4095, 8191] 153 265 hU rfl rfl (by kernel_rfl) ?_
  refine Al ?_
  obtain ⟨e, he, hg⟩ := Ac hg
  refine Al ?_
  refine Ca rfl rfl (Ch T7 (D6 H0 (Ao he) (o := 0) (c := .int .i64 e) rfl rfl)) rfl rfl ?_
  refine Al ?_
  obtain ⟨y, hy, hg⟩ := Ac hg
  refine E5 (Xi _ _ _ hy) ?_
  refine Al ?_
  refine Ai fun hU => ?_
  refine Bj ?_
  obtain rfl := oi_ hg
  exact Bi [(0, 0)] ⟨rfl, rfl⟩
theorem G1 (d : Aj) (l : (List ByteArray)) (r : ByteArray × Aj) (hg : D3 d l = some r) : Fn Try.prog 24 1 [.ptr 0 0, .sl 1 (Az eS l)] [.box [.sl 1 (Az eI d.L), .val (.int .i64 d.At)] 49] (fun d' b' => d' = .val (.string r.1) /\ b' = [.box [.sl 1 (Az eI r.2.L), .val (.int .i64 r.2.At)] 49]) := by
 unfold D3 at hg
 refine Fn.of Try.func24 rfl rfl rfl fun w0 I ρ0 => ?_
 show Ci _ ⟨w0, I, ρ0, 1, 1, 12⟩ _ _ _
 refine Bn 1 9 Bg ?_
 refine Al ?_
 refine Ai fun hU => ?_
 refine Bn 9 73 hU ?_
 refine Al ?_
 obtain ⟨y, hy, hg⟩ := Ac hg
 refine Hr [0] [0] [] false (Dd _ _ _ hy) ?_
 obtain ⟨e, he, hg⟩ := Ac hg
 refine Al ?_
 refine Ca rfl rfl (Ch mE (D6 Vy (Ao he) (o := 0) (c := .str e) rfl rfl)) rfl rfl ?_
 refine Al ?_
 refine Ai fun hU => ?_
 refine Bj ?_
 obtain rfl := oi_ hg
 exact Bi [(0, 0)] ⟨rfl, rfl⟩
theorem D1 (d : Aj) (l : (List Int)) (r : Int × Aj) (hg : Dg d l = some r) : Fn Try.prog 25 1 [.ptr 0 0, .sl 1 (Az eI l)] [.box [.sl 1 (Az eI d.L), .val (.int .i64 d.At)] 49] (fun d' b' => d' = .val (.int .i64 r.1) /\ b' = [.box [.sl 1 (Az eI r.2.L), .val (.int .i64 r.2.At)] 49]) := by
 unfold Dg at hg
 refine Fn.of Try.func25 rfl rfl rfl fun w0 I ρ0 => ?_
 show Ci _ ⟨w0, I, ρ0, 1, 1, 12⟩ _ _ _
 refine Bn 1 9 Bg ?_
 refine Al ?_
 refine Ai fun hU => ?_
 refine Bn 9 73 hU ?_
 refine Al ?_
 obtain ⟨y, hy, hg⟩ := Ac hg
 refine Hr [0] [0] [] false (Dd _ _ _ hy) ?_
 obtain ⟨e, he, hg⟩ := Ac hg
 refine Al ?_
 refine Ca rfl rfl (Ch T7 (D6 H0 (Ao he) (o := 0) (c := .int .i64 e) rfl rfl)) rfl rfl ?_
 refine Al ?_
 refine Ai fun hU => ?_
 refine Bj ?_
 obtain rfl := oi_ hg
 exact Bi [(0, 0)] ⟨rfl, rfl⟩
theorem Gx (d : Aj) (r : Aa × Aj) (hg : Bm d = some r) : Fn Try.prog 9 1 [.ptr 0 0] [.box [.sl 1 (Az eI d.L), .val (.int .i64 d.At)] 49] (fun d' b' => d' = .agg (Aa.dv r.1) /\ b' = [.box [.sl 1 (Az eI r.2.L), .val (.int .i64 r.2.At)] 49]) := by
 unfold Bm at hg
 refine Fn.of Try.func9 rfl rfl rfl fun w0 I ρ0 => ?_
 show Ci _ ⟨w0, I, ρ0, 1, 1, 76⟩ _ _ _
 refine Bn 1 9 Bg ?_
 refine Al ?_
 refine Ai fun hU => ?_
 refine Ah ?_
 refine Ad (Bo _ _ [41, 65, 105, 153]) 9 193 hU rfl rfl ?_
 refine Al ?_
 obtain ⟨y, hy, hg⟩ := Ac hg
 refine Hr [0] [0] [] false (Dd _ _ _ hy) ?_
 refine Al ?_
 refine Mi (rd := []) rfl rfl (Bb Zu z9 (by decide) rfl rfl rfl rfl mL (cs := [.str (⟨#[97]⟩ : ByteArray), .str (⟨#[98]⟩ : ByteArray), .str (⟨#[99]⟩ : ByteArray)]) (.cons .str (.cons .str (.cons .str .nil))) rfl (l := ([(⟨#[97]⟩ : ByteArray), (⟨#[98]⟩ : ByteArray), (⟨#[99]⟩ : ByteArray)] : List ByteArray)) (f := eS) rfl) rfl rfl rfl ?_
 obtain ⟨y_2, hy_2, hg⟩ := Ac hg
 refine Hr [0] [0] [] false (G1 _ _ _ hy_2) ?_
 refine Al ?_
 refine Mi (rd := []) rfl rfl (Bb E7 z3 (by decide) rfl rfl rfl rfl Ju (cs := [.int .i64 0, .int .i64 1, .int .i64 2, .int .i64 0, .int .i64 3]) (.cons .int (.cons .int (.cons .int (.cons .int (.cons .int .nil))))) rfl (l := ([0, 1, 2, 0, 3] : List Int)) (f := eI) rfl) rfl rfl rfl ?_
 obtain ⟨y_3, hy_3, hg⟩ := Ac hg
 refine Hr [0] [0] [] false (D1 _ _ _ hy_3) ?_
 refine Al ?_
 obtain ⟨y_4, hy_4, hg⟩ := Ac hg
 refine Hr [0] [0] [] false (Dd _ _ _ hy_4) ?_
 refine Al ?_
 refine Mi (rd := []) rfl rfl (Bb E7 z3 (by decide) rfl rfl rfl rfl Ju (cs := [.int .i64 90, .int .i64 50, .int .i64 100, .int .i64 1]) (.cons .int (.cons .int (.cons .int (.cons .int .nil)))) rfl (l := ([90, 50, 100, 1] : List Int)) (f := eI) rfl) rfl rfl rfl ?_
 obtain ⟨y_5, hy_5, hg⟩ := Ac hg
 refine Hr [0] [0] [] false (D1 _ _ _ hy_5) ?_
 refine Al ?_
 obtain ⟨y_6, hy_6, hg⟩ := Ac hg
 refine Hr [0] [0] [] false (Dd _ _ _ hy_6) ?_
 refine Al ?_
 refine Mi (rd := []) rfl rfl (Bb Zu z9 (by decide) rfl rfl rfl rfl mL (cs := [.str (⟨#[115]⟩ : ByteArray), .str (⟨#[116]⟩ : ByteArray)]) (.cons .str (.cons .str .nil)) rfl (l := ([(⟨#[115]⟩ : ByteArray), (⟨#[116]⟩ : ByteArray)] : List ByteArray)) (f := eS) rfl) rfl rfl rfl ?_
 obtain ⟨y_7, hy_7, hg⟩ := Ac hg
 refine Hr [0] [0] [] false (G1 _ _ _ hy_7) ?_
 refine Ca rfl rfl (.build (r := [.val (.int .i64 (W (1 + y.1))), .val (.string y_2.1), .val (.int .i64 y_3.1), .val (.int .i64 y_4.1), .val (.int .i64 y_5.1), .val (.int .i64 (W (1 + y_6.1))), .val (.string y_7.1), .val (.int .i64 0), .val (.int .i64 0), .val (.int .i64 0), .val (.string (⟨#[]⟩ : ByteArray))]) Nn oO Yy (by kernel_rfl) rfl) rfl rfl ?_
 refine Al ?_
 refine Ai fun hU => ?_
 refine By (ι := Aj × Aa) (fun ((b_3, f_3) : Aj × Aa) => mk [(2, .ptr 1 0), (3, .ptr 2 0)] [(0, .box [.sl 1 (Az eI b_3.L), .val (.int .i64 b_3.At)] 49), (1, .box [.val (.int .i64 0), .val (.string (⟨#[]⟩ : ByteArray)), .val (.int .i64 0), .val (.int .i64 0), .val (.int .i64 0), .val (.int .i64 0), .val (.string (⟨#[]⟩ : ByteArray)), .val (.int .i64 0), .val (.int .i64 0), .val (.int .i64 0), .val (.string (⟨#[]⟩ : ByteArray))] 30), (2, .box (Aa.dv f_3) 30)] 3) (fun ((b_3, f_3) : Aj × Aa) => Bm.j3 b_3 f_3 = some r) ?_ ?_
 ·refine Ah ?_
  refine Ad (Bo _ _ []) 193 209 hU rfl rfl ?_
  refine Al ?_
  refine Ai fun hU => ?_
  refine A4 ?_
  refine By (ι := Bool) (fun (x27_1 : Bool) => mk [(0, .ptr 0 0), (2, .ptr 1 0), (3, .ptr 2 0), (26, .val (.int .i64 (W (1 + y_6.1)))), (27, .val (.bool x27_1))] [(0, .box [.sl 1 (Az eI y_7.2.L), .val (.int .i64 y_7.2.At)] 49), (1, .box [.val (.int .i64 0), .val (.string (⟨#[]⟩ : ByteArray)), .val (.int .i64 0), .val (.int .i64 0), .val (.int .i64 0), .val (.int .i64 0), .val (.string (⟨#[]⟩ : ByteArray)), .val (.int .i64 0), .val (.int .i64 0), .val (.int .i64 0), .val (.string (⟨#[]⟩ : ByteArray))] 30), (2, .box [.val (.int .i64 (W (1 + y.1))), .val (.string y_2.1), .val (.int .i64 y_3.1), .val (.int .i64 y_4.1), .val (.int .i64 y_5.1), .val (.int .i64 (W (1 + y_6.1))), .val (.string y_7.1), .val (.int .i64 0), .val (.int .i64 0), .val (.int .i64 0), .val (.string (⟨#[]⟩ : ByteArray))] 30)] 3) (fun (x27_1 : Bool) => Bm.j1 y y_2 y_3 y_4 y_5 y_6 y_7 x27_1 = some r) ?_ ?_
  ·refine Ah ?_
   refine Ad (Bo _ _ []) 209 225 hU rfl rfl ?_
   refine Al ?_
   refine Ai fun hU => ?_
   refine C4 rfl hg (fun h5 hg => ?_) fun h5 hg => ?_
   ·refine Aq ?_
    repeat first | refine Cw ?_ | refine Cz ?_
    exact ⟨decide ((W (1 + y_6.1)) = 1), hg, Ba [(0, 0), (1, 1), (2, 177)]⟩
   ·refine Ad (Bo _ _ []) 225 241 hU rfl rfl ?_
    refine Al ?_
    refine Ai fun hU => ?_
    exact ⟨decide ((W (1 + y_6.1)) = 8), hg, Ba [(0, 0), (1, 1), (2, 177)]⟩
  ·rintro x27_1 hg
   replace hg : Bm.j1 y y_2 y_3 y_4 y_5 y_6 y_7 x27_1 = some r := hg
   show Ci _ _ _ _ (mk _ _ _)
   unfold Bm.j1 at hg
   refine C4 rfl hg (fun h7 hg => ?_) fun h7 hg => ?_
   ·refine Ad (Bo _ _ []) 3 91 Bg rfl rfl ?_
    refine Ca rfl rfl (.build (r := [.val (.int .i64 1), .val (.int .i64 0)]) Mr Tg Yl (by kernel_rfl) rfl) rfl rfl ?_
    refine Ca rfl rfl (.build (r := [.val (.int .i64 2), .val (.int .i64 0)]) Mr Tg Yl (by kernel_rfl) rfl) rfl rfl ?_
    refine Ca rfl rfl (.build (r := [.val (.int .i64 5), .val (.int .i64 1024)]) Mr Tg Yl (by kernel_rfl) rfl) rfl rfl ?_
    refine Ca rfl rfl (.build (r := [.val (.int .i64 14), .val (.int .i64 128)]) Mr Tg Yl (by kernel_rfl) rfl) rfl rfl ?_
    refine Ca rfl rfl (Bb nO Yl (by decide) rfl rfl rfl rfl pC (cs := [.int .i64 1, .int .i64 0, .int .i64 2, .int .i64 0, .int .i64 5, .int .i64 1024, .int .i64 14, .int .i64 128]) (.cons .int (.cons .int (.cons .int (.cons .int (.cons .int (.cons .int (.cons .int (.cons .int .nil)))))))) rfl (l := ([(Bk.mk 1 0), (Bk.mk 2 0), (Bk.mk 5 1024), (Bk.mk 14 128)] : List Bk)) (f := Bk.enc) rfl) rfl rfl ?_
    refine Al ?_
    obtain ⟨y_8, hy_8, hg⟩ := Ac hg
    refine Hr [0] [0] [] false (Dd _ _ _ hy_8) ?_
    obtain ⟨e, he, hg⟩ := Ac hg
    refine Al ?_
    refine Cu (rd := [35]) rfl rfl (Bt fE (Bd Bk.enc_len (Ao he) (o := 0) (m := 2) (cs := [.int .i64 e.Alg, .int .i64 e.Bits]) rfl (by decide) rfl) (Ap Bk.enc_len (Ao he) (o := 0) (m := 2) (by decide) rfl)) rfl rfl ?_
    refine Al ?_
    refine Ai fun hU => ?_
    exact ⟨(y_8.2, (Aa.mk (W (1 + y.1)) y_2.1 y_3.1 y_4.1 y_5.1 (W (1 + y_6.1)) y_7.1 e 0 (⟨#[]⟩ : ByteArray))), hg, Ba [(0, 0), (1, 1), (2, 2)]⟩
   ·refine Ah ?_
    refine Ad (Bo _ _ []) 3 19 Bg rfl rfl ?_
    refine Al ?_
    refine Ai fun hU => ?_
    refine C4 rfl hg (fun h10 hg => ?_) fun h10 hg => ?_
    ·refine Ad (Bo _ _ []) 19 59 hU rfl rfl ?_
     refine Al ?_
     obtain ⟨y_9, hy_9, hg⟩ := Ac hg
     refine Hr [0] [0] [] false (Dd _ _ _ hy_9) ?_
     refine Al ?_
     refine Ai fun hU => ?_
     exact ⟨(y_9.2, (Aa.mk (W (1 + y.1)) y_2.1 y_3.1 y_4.1 y_5.1 (W (1 + y_6.1)) y_7.1 (Bk.mk 0 0) (W (1 + y_9.1)) (⟨#[]⟩ : ByteArray))), hg, Ba [(0, 0), (1, 1), (2, 2)]⟩
    ·refine Ah ?_
     refine Ad (Bo _ _ []) 19 35 hU rfl rfl ?_
     refine Al ?_
     refine Ai fun hU => ?_
     refine C4 rfl hg (fun h13 hg => ?_) fun h13 hg => ?_
     ·refine Ad (Bo _ _ [43]) 35 123 hU rfl rfl ?_
      refine Al ?_
      refine Mi (rd := []) rfl rfl (Bb E7 z3 (by decide) rfl rfl rfl rfl Ju (cs := [.int .i64 1024, .int .i64 2048]) (.cons .int (.cons .int .nil)) rfl (l := ([1024, 2048] : List Int)) (f := eI) rfl) rfl rfl rfl ?_
      obtain ⟨y_10, hy_10, hg⟩ := Ac hg
      refine Hr [0] [0] [] false (D1 _ _ _ hy_10) ?_
      refine Ca rfl rfl (.build (r := [.val (.int .i64 5), .val (.int .i64 y_10.1)]) Mr Tg Yl (by kernel_rfl) rfl) rfl rfl ?_
      refine Al ?_
      obtain ⟨y_11, hy_11, hg⟩ := Ac hg
      refine Hr [0] [0] [] false (Dd _ _ _ hy_11) ?_
      refine Al ?_
      refine Ai fun hU => ?_
      exact ⟨(y_11.2, (Aa.mk (W (1 + y.1)) y_2.1 y_3.1 y_4.1 y_5.1 (W (1 + y_6.1)) y_7.1 (Bk.mk 5 y_10.1) (W (100 + y_11.1)) (⟨#[]⟩ : ByteArray))), hg, Ba [(0, 0), (1, 1), (2, 2)]⟩
     ·refine By (ι := Bool) (fun (x57_2 : Bool) => mk [(0, .ptr 0 0), (2, .ptr 1 0), (3, .ptr 2 0), (26, .val (.int .i64 (W (1 + y_6.1)))), (57, .val (.bool x57_2))] [(0, .box [.sl 1 (Az eI y_7.2.L), .val (.int .i64 y_7.2.At)] 49), (1, .box [.val (.int .i64 0), .val (.string (⟨#[]⟩ : ByteArray)), .val (.int .i64 0), .val (.int .i64 0), .val (.int .i64 0), .val (.int .i64 0), .val (.string (⟨#[]⟩ : ByteArray)), .val (.int .i64 0), .val (.int .i64 0), .val (.int .i64 0), .val (.string (⟨#[]⟩ : ByteArray))] 30), (2, .box [.val (.int .i64 (W (1 + y.1))), .val (.string y_2.1), .val (.int .i64 y_3.1), .val (.int .i64 y_4.1), .val (.int .i64 y_5.1), .val (.int .i64 (W (1 + y_6.1))), .val (.string y_7.1), .val (.int .i64 0), .val (.int .i64 0), .val (.int .i64 0), .val (.string (⟨#[]⟩ : ByteArray))] 30)] 3) (fun (x57_2 : Bool) => Bm.j2 y y_2 y_3 y_4 y_5 y_6 y_7 x57_2 = some r) ?_ ?_
      ·refine Ah ?_
       refine Ad (Bo _ _ []) 35 51 hU rfl rfl ?_
       refine Al ?_
       refine Ai fun hU => ?_
       refine C4 rfl hg (fun h16 hg => ?_) fun h16 hg => ?_
       ·refine Aq ?_
        repeat first | refine Cw ?_ | refine Cz ?_
        exact ⟨decide ((W (1 + y_6.1)) = 4), hg, Ba [(0, 0), (1, 1), (2, 2)]⟩
       ·refine Ad (Bo _ _ []) 51 67 hU rfl rfl ?_
        refine Al ?_
        refine Ai fun hU => ?_
        exact ⟨decide ((W (1 + y_6.1)) = 5), hg, Ba [(0, 0), (1, 1), (2, 2)]⟩
      ·rintro x57_2 hg
       replace hg : Bm.j2 y y_2 y_3 y_4 y_5 y_6 y_7 x57_2 = some r := hg
       show Ci _ _ _ _ (mk _ _ _)
       unfold Bm.j2 at hg
       refine C4 rfl hg (fun h18 hg => ?_) fun h18 hg => ?_
       ·refine Ad (Bo _ _ []) 3 43 Bg rfl rfl ?_
        refine Al ?_
        obtain ⟨y_12, hy_12, hg⟩ := Ac hg
        refine Hr [0] [0] [] false (Dd _ _ _ hy_12) ?_
        refine Al ?_
        refine Ai fun hU => ?_
        exact ⟨(y_12.2, (Aa.mk (W (1 + y.1)) y_2.1 y_3.1 y_4.1 y_5.1 (W (1 + y_6.1)) y_7.1 (Bk.mk 0 0) (W (1 + y_12.1)) (⟨#[]⟩ : ByteArray))), hg, Ba [(0, 0), (1, 1), (2, 2)]⟩
       ·refine Ah ?_
        refine Ad (Bo _ _ []) 3 19 Bg rfl rfl ?_
        refine Al ?_
        refine Ai fun hU => ?_
        refine C4 rfl hg (fun h21 hg => ?_) fun h21 hg => ?_
        ·refine Ad (Bo _ _ []) 19 51 hU rfl rfl ?_
         refine Al ?_
         obtain ⟨y_13, hy_13, hg⟩ := Ac hg
         refine Hr [0] [0] [] false (Dd _ _ _ hy_13) ?_
         refine Al ?_
         refine Ai fun hU => ?_
         exact ⟨(y_13.2, (Aa.mk (W (1 + y.1)) y_2.1 y_3.1 y_4.1 y_5.1 (W (1 + y_6.1)) y_7.1 (Bk.mk 0 0) y_13.1 (⟨#[]⟩ : ByteArray))), hg, Ba [(0, 0), (1, 1), (2, 2)]⟩
        ·refine Ah ?_
         refine Ad (Bo _ _ []) 19 35 hU rfl rfl ?_
         refine Al ?_
         refine Ai fun hU => ?_
         refine C4 rfl hg (fun h24 hg => ?_) fun h24 hg => ?_
         ·refine Ad (Bo _ _ [43]) 35 75 hU rfl rfl ?_
          refine Al ?_
          refine Mi (rd := []) rfl rfl (Bb Zu z9 (by decide) rfl rfl rfl rfl mL (cs := [.str (⟨#[97]⟩ : ByteArray), .str (⟨#[98]⟩ : ByteArray)]) (.cons .str (.cons .str .nil)) rfl (l := ([(⟨#[97]⟩ : ByteArray), (⟨#[98]⟩ : ByteArray)] : List ByteArray)) (f := eS) rfl) rfl rfl rfl ?_
          obtain ⟨y_14, hy_14, hg⟩ := Ac hg
          refine Hr [0] [0] [] false (G1 _ _ _ hy_14) ?_
          refine Al ?_
          refine Ai fun hU => ?_
          exact ⟨(y_14.2, (Aa.mk (W (1 + y.1)) y_2.1 y_3.1 y_4.1 y_5.1 (W (1 + y_6.1)) y_7.1 (Bk.mk 0 0) 0 y_14.1)), hg, Ba [(0, 0), (1, 1), (2, 2)]⟩
         ·refine Aq ?_
          repeat first | refine Cw ?_ | refine Cz ?_
          exact ⟨(y_7.2, (Aa.mk (W (1 + y.1)) y_2.1 y_3.1 y_4.1 y_5.1 (W (1 + y_6.1)) y_7.1 (Bk.mk 0 0) 0 (⟨#[]⟩ : ByteArray))), hg, Ba [(0, 0), (1, 1), (2, 2)]⟩
 ·rintro ⟨b_3, f_3⟩ hg
  replace hg : Bm.j3 b_3 f_3 = some r := hg
  show Ci _ _ _ _ (mk _ _ _)
  unfold Bm.j3 at hg
  refine Bn 3 19 Bg ?_
  refine Al ?_
  refine Ai fun hU => ?_
  refine Bj ?_
  obtain rfl := oi_ hg
  exact Bi [(0, 0)] ⟨rfl, rfl⟩
theorem Nz (l : (List Int)) (r : Bool) (hg : Bq l = some r) : Fn Try.prog 3 0 [.sl 1 (Az eI l)] [] (fun d' b' => d' = .val (.bool r) /\ b' = []) := by
 unfold Bq at hg
 refine Fn.of Try.func3 rfl rfl rfl fun w0 I ρ0 => ?_
 show Ci _ ⟨w0, I, ρ0, 0, 0, 101⟩ _ _ _
 refine Bn 0 8 Bg ?_
 refine Al ?_
 refine Ai fun hU => ?_
 refine Ah ?_
 refine Bn 8 32 hU ?_
 refine Al ?_
 obtain ⟨y, hy, hg⟩ := Ac hg
 refine E5 (M1 _ _ hy) ?_
 refine Al ?_
 refine Ai fun hU => ?_
 refine C4 rfl hg (fun h3 hg => ?_) fun h3 hg => ?_
 ·refine Ah ?_
  refine Ad (Bo _ _ []) 32 48 hU rfl rfl ?_
  obtain ⟨y_2, hy_2, hg⟩ := Ac hg
  refine E5 (He _ hy_2) ?_
  refine Al ?_
  refine Ai fun hU => ?_
  refine Bj ?_
  obtain rfl := oi_ hg
  exact Bi [] ⟨rfl, rfl⟩
 ·refine Aq ?_
  repeat first | refine Cw ?_ | refine Cz ?_
  refine Bn 32 56 hU ?_
  refine Al ?_
  obtain ⟨y_3, hy_3, hg⟩ := Ac hg
  refine Gh (rd := []) (ps := []) (gs := []) false rfl (Oe _ _ hy_3) rfl rfl (.cons .sl .nil) rfl rfl (by intro h; cases h) rfl (by intro h; first | (cases h; done) | exact ⟨_, _, ⟨rfl, rfl⟩, by simp, by simp⟩) ?_
  rintro _ _ ⟨rfl, rfl⟩
  refine Al ?_
  refine Ai fun hU => ?_
  refine Bn 56 152 hU ?_
  refine Al ?_
  obtain ⟨y_4, hy_4, hg⟩ := Ac hg
  refine Hr [40] [40] [] false (Gx _ _ hy_4) ?_
  refine Al ?_
  obtain ⟨y_5, hy_5, hg⟩ := Ac hg
  refine Hr [40] [40] [] false (Gx _ _ hy_5) ?_
  refine Al ?_
  obtain ⟨y_6, hy_6, hg⟩ := Ac hg
  refine Hr [40] [40] [] false (Gx _ _ hy_6) ?_
  refine Al ?_
  refine Ai fun hU => ?_
  refine Ah ?_
  refine Bv (Bo _ _ []) (by kernel_rfl) [0, 0, 3, 0, 0, 31, 0, 0, 255, 511, 1023, 2047] 152 248 hU rfl rfl (by kernel_rfl) ?_
  refine Al ?_
  obtain ⟨y_7, hy_7, hg⟩ := Ac hg
  refine E5 (El _ _ _ hy_7) ?_
  refine Al ?_
  obtain ⟨y_8, hy_8, hg⟩ := Ac hg
  refine E5 (El _ _ _ hy_8) ?_
  refine Al ?_
  obtain ⟨y_9, hy_9, hg⟩ := Ac hg
  refine E5 (El _ _ _ hy_9) ?_
  refine Al ?_
  refine Ai fun hU => ?_
  refine Ah ?_
  refine By (ι := Bool) (fun (x59_1 : Bool) => mk [(4, .ptr 0 0), (5, .ptr 1 0), (6, .ptr 2 0), (59, .val (.bool x59_1))] [(0, .box (Aa.dv y_4.1) 30), (1, .box (Aa.dv y_5.1) 30), (2, .box (Aa.dv y_6.1) 30)] 3) (fun (x59_1 : Bool) => Bq.j1 y_4 y_5 y_6 x59_1 = some r) ?_ ?_
  ·refine Ad (Bo _ _ []) 248 456 hU rfl rfl ?_
   refine Al ?_
   obtain ⟨y_10, hy_10, hg⟩ := Ac hg
   refine E5 (El _ _ _ hy_10) ?_
   refine Ca rfl rfl nC rfl rfl ?_
   refine Al ?_
   rcases Ea hg with ⟨h8, hg⟩ | ⟨h8, hg⟩
   ·refine Al ?_
    refine Ai fun hU => ?_
    exact ⟨true, hg, Ba [(0, 104), (1, 112), (2, 120)]⟩
   ·refine Al ?_
    rcases Ea hg with ⟨h10, hg⟩ | ⟨h10, hg⟩
    ·refine Al ?_
     rcases Ea hg with ⟨h11, hg⟩ | ⟨h11, hg⟩
     ·refine Al ?_
      rcases Ea hg with ⟨h12, hg⟩ | ⟨h12, hg⟩
      ·refine Al ?_
       refine Ai fun hU => ?_
       exact ⟨true, hg, Ba [(0, 104), (1, 112), (2, 120)]⟩
      ·refine Al ?_
       refine Ca (B7 rfl rfl h12) rfl (Lc y_4.1 y_5.1) rfl rfl ?_
       refine Ca (B7 rfl rfl h12) rfl (Xf jS) rfl rfl ?_
       refine Al ?_
       refine Ai fun hU => ?_
       exact ⟨!decide ((decide (y_7 = 0)) = (decide (y_4.1 = y_5.1))), hg, Ba [(0, 104), (1, 112), (2, 120)]⟩
     ·refine Al ?_
      refine Ca (B7 rfl rfl rfl) rfl (Lc y_4.1 y_5.1) rfl rfl ?_
      refine Ca (B7 rfl rfl rfl) rfl (Xf jS) rfl rfl ?_
      refine Al ?_
      refine Ai fun hU => ?_
      exact ⟨!decide ((decide (y_7 = 0)) = (decide (y_4.1 = y_5.1))), hg, Ba [(0, 104), (1, 112), (2, 120)]⟩
    ·refine Al ?_
     refine Ca (B7 rfl rfl rfl) rfl (Lc y_4.1 y_5.1) rfl rfl ?_
     refine Ca (B7 rfl rfl rfl) rfl (Xf jS) rfl rfl ?_
     refine Al ?_
     refine Ai fun hU => ?_
     exact ⟨!decide ((decide (y_7 = 0)) = (decide (y_4.1 = y_5.1))), hg, Ba [(0, 104), (1, 112), (2, 120)]⟩
  ·rintro x59_1 hg
   replace hg : Bq.j1 y_4 y_5 y_6 x59_1 = some r := hg
   show Ci _ _ _ _ (mk _ _ _)
   unfold Bq.j1 at hg
   refine C4 rfl hg (fun h17 hg => ?_) fun h17 hg => ?_
   ·refine Ah ?_
    refine Ad (Bo _ _ []) 3 11 Bg rfl rfl ?_
    refine Al ?_
    refine Ai fun hU => ?_
    refine Bj ?_
    obtain rfl := oi_ hg
    exact Bi [] ⟨rfl, rfl⟩
   ·refine Aq ?_
    repeat first | refine Cw ?_ | refine Cz ?_
    refine Ah ?_
    refine Ad (Bo _ _ [35]) 3 91 Bg rfl rfl ?_
    refine Al ?_
    refine Mi (rd := []) rfl rfl (Bb Ha Yy (by decide) rfl rfl rfl rfl G3 (cs := [.int .i64 y_4.1.Source, .str y_4.1.Host, .int .i64 y_4.1.Machine, .int .i64 y_4.1.Day, .int .i64 y_4.1.Confidence, .int .i64 y_4.1.Kind, .str y_4.1.Subject, .int .i64 y_4.1.Use.Alg, .int .i64 y_4.1.Use.Bits, .int .i64 y_4.1.Number, .str y_4.1.Text, .int .i64 y_5.1.Source, .str y_5.1.Host, .int .i64 y_5.1.Machine, .int .i64 y_5.1.Day, .int .i64 y_5.1.Confidence, .int .i64 y_5.1.Kind, .str y_5.1.Subject, .int .i64 y_5.1.Use.Alg, .int .i64 y_5.1.Use.Bits, .int .i64 y_5.1.Number, .str y_5.1.Text, .int .i64 y_6.1.Source, .str y_6.1.Host, .int .i64 y_6.1.Machine, .int .i64 y_6.1.Day, .int .i64 y_6.1.Confidence, .int .i64 y_6.1.Kind, .str y_6.1.Subject, .int .i64 y_6.1.Use.Alg, .int .i64 y_6.1.Use.Bits, .int .i64 y_6.1.Number, .str y_6.1.Text, .int .i64 y_4.1.Source, .str y_4.1.Host, .int .i64 y_4.1.Machine, .int .i64 y_4.1.Day, .int .i64 y_4.1.Confidence, .int .i64 y_4.1.Kind, .str y_4.1.Subject, .int .i64 y_4.1.Use.Alg, .int .i64 y_4.1.Use.Bits, .int .i64 y_4.1.Number, .str y_4.1.Text]) (.cons .int (.cons .str (.cons .int (.cons .int (.cons .int (.cons .int (.cons .str (.cons .int (.cons .int (.cons .int (.cons .str (.cons .int (.cons .str (.cons .int (.cons .int (.cons .int (.cons .int (.cons .str (.cons .int (.cons .int (.cons .int (.cons .str (.cons .int (.cons .str (.cons .int (.cons .int (.cons .int (.cons .int (.cons .str (.cons .int (.cons .int (.cons .int (.cons .str (.cons .int (.cons .str (.cons .int (.cons .int (.cons .int (.cons .int (.cons .str (.cons .int (.cons .int (.cons .int (.cons .str .nil)))))))))))))))))))))))))))))))))))))))))))) rfl (l := ([y_4.1, y_5.1, y_6.1, y_4.1] : List Aa)) (f := Aa.enc) rfl) rfl rfl rfl ?_
    obtain ⟨y_11, hy_11, hg⟩ := Ac hg
    refine E5 (Ii _ _ hy_11) ?_
    refine Al ?_
    refine Ai fun hU => ?_
    refine Ah ?_
    refine Bn 91 99 hU ?_
    refine Al ?_
    refine Ai fun hU => ?_
    refine A4 ?_
    refine Ll (fun (i_2 : Int) => mk [(10, .sl 11 (Az Aa.enc y_11.1)), (11, .val (.int .i64 y_11.2)), (12, .val (.int .i64 i_2))] [] 0) hg (Ba []) ?_
    rintro i_2 m2 o2 hg hn2
    replace hg : Bq.l2 y_11 i_2 = some o2 := hg
    show Ci _ _ _ _ (mk _ _ _)
    unfold Bq.l2 at hg
    refine Ah ?_
    refine Bn 0 32 Bg ?_
    refine Al ?_
    refine Ai fun hU => ?_
    refine C4 rfl hg (fun h22 hg => ?_) fun h22 hg => ?_
    ·refine Aq ?_
     repeat first | refine Cw ?_ | refine Cz ?_
     refine Ah ?_
     refine A4 ?_
     refine Ah ?_
     refine Bv (Bo _ _ []) (by kernel_rfl) [0, 0, 2, 7, 15, 0, 0, 96, 224, 511, 1023] 32 120 hU rfl rfl (by kernel_rfl) ?_
     refine Al ?_
     obtain ⟨e, he, hg⟩ := Ac hg
     refine Al ?_
     refine Ca rfl rfl (Cd Cg (Bd Aa.enc_len (Ao he) (o := 0) (m := 11) (cs := [.int .i64 e.Source, .str e.Host, .int .i64 e.Machine, .int .i64 e.Day, .int .i64 e.Confidence, .int .i64 e.Kind, .str e.Subject, .int .i64 e.Use.Alg, .int .i64 e.Use.Bits, .int .i64 e.Number, .str e.Text]) rfl (by decide) rfl) (Ap Aa.enc_len (Ao he) (o := 0) (m := 11) (by decide) rfl)) rfl rfl ?_
     refine Al ?_
     obtain ⟨e_2, he_2, hg⟩ := Ac hg
     refine Al ?_
     refine Ca rfl rfl (Cd Cg (Bd Aa.enc_len (Ao he_2) (o := 0) (m := 11) (cs := [.int .i64 e_2.Source, .str e_2.Host, .int .i64 e_2.Machine, .int .i64 e_2.Day, .int .i64 e_2.Confidence, .int .i64 e_2.Kind, .str e_2.Subject, .int .i64 e_2.Use.Alg, .int .i64 e_2.Use.Bits, .int .i64 e_2.Number, .str e_2.Text]) rfl (by decide) rfl) (Ap Aa.enc_len (Ao he_2) (o := 0) (m := 11) (by decide) rfl)) rfl rfl ?_
     obtain ⟨y_12, hy_12, hg⟩ := Ac hg
     refine E5 (El _ _ _ hy_12) ?_
     refine Al ?_
     refine Ai fun hU => ?_
     refine C4 rfl hg (fun h24 hg => ?_) fun h24 hg => ?_
     ·refine Ah ?_
      refine Ad (Bo _ _ []) 120 128 hU rfl rfl ?_
      refine Al ?_
      refine Ai fun hU => ?_
      refine Bj ?_
      replace hg := C3 hg hn2
      obtain rfl := oi_ hg
      exact Bi [] ⟨rfl, rfl⟩
     ·refine Aq ?_
      repeat first | refine Cw ?_ | refine Cz ?_
      refine Ad (Bo _ _ []) 120 144 hU rfl rfl ?_
      refine Al ?_
      refine Ai fun hU => ?_
      obtain rfl := oi_ hg
      exact ⟨(W (i_2 + 1), m2), Nat.lt_succ_self _, hn2, Ba []⟩
    ·refine Cb ?_
     repeat first | refine Cw ?_ | refine Cz ?_
     replace hg := C3 hg hn2
     refine Bn 32 160 hU ?_
     refine Al ?_
     rcases Ea hg with ⟨h27, hg⟩ | ⟨h27, hg⟩
     ·refine Al ?_
      rcases Ea hg with ⟨h28, hg⟩ | ⟨h28, hg⟩
      ·refine Al ?_
       rcases Ea hg with ⟨h29, hg⟩ | ⟨h29, hg⟩
       ·obtain ⟨y_13, hy_13, hg⟩ := Ac hg
        refine E5 (He _ hy_13) ?_
        refine Al ?_
        refine Ai fun hU => ?_
        refine Bj ?_
        obtain rfl := oi_ hg
        exact Bi [] ⟨rfl, rfl⟩
       ·refine Al ?_
        refine Ai fun hU => ?_
        refine Bj ?_
        obtain rfl := oi_ hg
        exact Bi [] ⟨rfl, rfl⟩
      ·refine Al ?_
       refine Ai fun hU => ?_
       refine Bj ?_
       obtain rfl := oi_ hg
       exact Bi [] ⟨rfl, rfl⟩
     ·refine Al ?_
      refine Ai fun hU => ?_
      refine Bj ?_
      obtain rfl := oi_ hg
      exact Bi [] ⟨rfl, rfl⟩
theorem M0 (s : ByteArray) (r : Bool) (hg : B3 s = some r) : Fn Try.prog 50 0 [.val (.string s)] [] (fun d' b' => d' = .val (.bool r) /\ b' = []) := by
 unfold B3 at hg
 refine Fn.of Try.func50 rfl rfl rfl fun w0 I ρ0 => ?_
 show Ci _ ⟨w0, I, ρ0, 0, 0, 28⟩ _ _ _
 refine Bn 0 8 Bg ?_
 refine Al ?_
 refine Ai fun hU => ?_
 refine Ah ?_
 refine By (ι := Bool) (fun (x11_1 : Bool) => mk [(0, .val (.string s)), (11, .val (.bool x11_1))] [] 0) (fun (x11_1 : Bool) => B3.j1 s x11_1 = some r) ?_ ?_
 ·refine Ad (Bo _ _ []) 8 72 hU rfl rfl ?_
  refine Al ?_
  refine Ca rfl rfl (S3 Vw) rfl rfl ?_
  refine Al ?_
  rcases Ea hg with ⟨h2, hg⟩ | ⟨h2, hg⟩
  ·refine Al ?_
   refine Ai fun hU => ?_
   exact ⟨true, hg, Ba []⟩
  ·refine Al ?_
   refine Ca (B7 rfl rfl h2) rfl (S3 Vw) rfl rfl ?_
   refine Al ?_
   refine Ai fun hU => ?_
   exact ⟨decide (32 < (s.size : Int)), hg, Ba []⟩
 ·rintro x11_1 hg
  replace hg : B3.j1 s x11_1 = some r := hg
  show Ci _ _ _ _ (mk _ _ _)
  unfold B3.j1 at hg
  refine C4 rfl hg (fun h5 hg => ?_) fun h5 hg => ?_
  ·refine Ah ?_
   refine Ad (Bo _ _ []) 0 8 Bg rfl rfl ?_
   refine Al ?_
   refine Ai fun hU => ?_
   refine Bj ?_
   obtain rfl := oi_ hg
   exact Bi [] ⟨rfl, rfl⟩
  ·refine Aq ?_
   repeat first | refine Cw ?_ | refine Cz ?_
   refine Ah ?_
   refine Bn 0 8 Bg ?_
   refine Al ?_
   refine Ai fun hU => ?_
   refine A4 ?_
   refine Ll (fun (i_2 : Int) => mk [(0, .val (.string s)), (3, .val (.int .i64 i_2))] [] 0) hg (Ba []) ?_
   rintro i_2 m2 o2 hg hn2
   replace hg : B3.l2 s i_2 = some o2 := hg
   show Ci _ _ _ _ (mk _ _ _)
   unfold B3.l2 at hg
   refine Ah ?_
   refine Bn 0 32 Bg ?_
   refine Al ?_
   refine Ca rfl rfl (S3 Vw) rfl rfl ?_
   refine Al ?_
   refine Ai fun hU => ?_
   refine C4 rfl hg (fun h9 hg => ?_) fun h9 hg => ?_
   ·refine Aq ?_
    repeat first | refine Cw ?_ | refine Cz ?_
    refine Ah ?_
    refine A4 ?_
    refine By (ι := Bool) (fun (x27_3 : Bool) => mk [(0, .val (.string s)), (3, .val (.int .i64 i_2)), (27, .val (.bool x27_3))] [] 0) (fun (x27_3 : Bool) => B3.j3 i_2 x27_3 = some o2) ?_ ?_
    ·refine Ad (Bo _ _ []) 32 112 hU rfl rfl ?_
     refine Al ?_
     obtain ⟨c, hc, hg⟩ := Ac hg
     refine Ca rfl rfl (Xs Vw hc) rfl rfl ?_
     refine Al ?_
     rcases Ea hg with ⟨h10, hg⟩ | ⟨h10, hg⟩
     ·refine Al ?_
      refine Ai fun hU => ?_
      exact ⟨true, hg, Ba []⟩
     ·refine Al ?_
      obtain ⟨c_2, hc_2, hg⟩ := Ac hg
      refine Ca (B7 rfl rfl h10) rfl (Xs Vw hc_2) rfl rfl ?_
      refine Al ?_
      refine Ai fun hU => ?_
      exact ⟨decide (126 < (c_2.toNat : Int)), hg, Ba []⟩
    ·rintro x27_3 hg
     replace hg : B3.j3 i_2 x27_3 = some o2 := hg
     show Ci _ _ _ _ (mk _ _ _)
     unfold B3.j3 at hg
     refine C4 rfl hg (fun h13 hg => ?_) fun h13 hg => ?_
     ·refine Ah ?_
      refine Ad (Bo _ _ []) 0 8 Bg rfl rfl ?_
      refine Al ?_
      refine Ai fun hU => ?_
      refine Bj ?_
      replace hg := C3 hg hn2
      obtain rfl := oi_ hg
      exact Bi [] ⟨rfl, rfl⟩
     ·refine Aq ?_
      repeat first | refine Cw ?_ | refine Cz ?_
      refine Ad (Bo _ _ []) 0 24 Bg rfl rfl ?_
      refine Al ?_
      refine Ai fun hU => ?_
      obtain rfl := oi_ hg
      exact ⟨(W (i_2 + 1), m2), Nat.lt_succ_self _, hn2, Ba []⟩
   ·refine Cb ?_
    repeat first | refine Cw ?_ | refine Cz ?_
    replace hg := C3 hg hn2
    refine Bn 32 40 hU ?_
    refine Al ?_
    refine Ai fun hU => ?_
    refine Bj ?_
    obtain rfl := oi_ hg
    exact Bi [] ⟨rfl, rfl⟩
theorem R7 (b : Int) (r : Int) (hg : C2 b = some r) : Fn Try.prog 82 0 [.val (.int .i64 b)] [] (fun d' b' => d' = .val (.int .i64 r) /\ b' = []) := by
 unfold C2 at hg
 refine Fn.of Try.func82 rfl rfl rfl fun w0 I ρ0 => ?_
 show Ci _ ⟨w0, I, ρ0, 0, 0, 25⟩ _ _ _
 refine Bn 0 8 Bg ?_
 refine Al ?_
 refine Ai fun hU => ?_
 refine Ah ?_
 refine A4 ?_
 refine By (ι := Bool) (fun (x3_1 : Bool) => mk [(0, .val (.int .i64 b)), (3, .val (.bool x3_1))] [] 0) (fun (x3_1 : Bool) => C2.j1 b x3_1 = some r) ?_ ?_
 ·refine Ad (Bo _ _ []) 8 64 hU rfl rfl ?_
  refine Al ?_
  rcases Ea hg with ⟨h2, hg⟩ | ⟨h2, hg⟩
  ·refine Al ?_
   refine Ai fun hU => ?_
   exact ⟨true, hg, Ba []⟩
  ·refine Al ?_
   refine Ai fun hU => ?_
   exact ⟨decide (16384 < b), hg, Ba []⟩
 ·rintro x3_1 hg
  replace hg : C2.j1 b x3_1 = some r := hg
  show Ci _ _ _ _ (mk _ _ _)
  unfold C2.j1 at hg
  refine C4 rfl hg (fun h5 hg => ?_) fun h5 hg => ?_
  ·refine Ah ?_
   refine Ad (Bo _ _ []) 0 8 Bg rfl rfl ?_
   refine Al ?_
   refine Ai fun hU => ?_
   refine Bj ?_
   obtain rfl := oi_ hg
   exact Bi [] ⟨rfl, rfl⟩
  ·refine Ah ?_
   refine Ad (Bo _ _ []) 0 24 Bg rfl rfl ?_
   refine Al ?_
   refine Ai fun hU => ?_
   refine C4 rfl hg (fun h8 hg => ?_) fun h8 hg => ?_
   ·refine Ah ?_
    refine Ad (Bo _ _ []) 24 32 hU rfl rfl ?_
    refine Al ?_
    refine Ai fun hU => ?_
    refine Bj ?_
    obtain rfl := oi_ hg
    exact Bi [] ⟨rfl, rfl⟩
   ·refine Ah ?_
    refine Ad (Bo _ _ []) 24 48 hU rfl rfl ?_
    refine Al ?_
    refine Ai fun hU => ?_
    refine C4 rfl hg (fun h11 hg => ?_) fun h11 hg => ?_
    ·refine Ah ?_
     refine Ad (Bo _ _ []) 48 56 hU rfl rfl ?_
     refine Al ?_
     refine Ai fun hU => ?_
     refine Bj ?_
     obtain rfl := oi_ hg
     exact Bi [] ⟨rfl, rfl⟩
    ·refine Ah ?_
     refine Ad (Bo _ _ []) 48 72 hU rfl rfl ?_
     refine Al ?_
     refine Ai fun hU => ?_
     refine C4 rfl hg (fun h14 hg => ?_) fun h14 hg => ?_
     ·refine Ah ?_
      refine Ad (Bo _ _ []) 72 80 hU rfl rfl ?_
      refine Al ?_
      refine Ai fun hU => ?_
      refine Bj ?_
      obtain rfl := oi_ hg
      exact Bi [] ⟨rfl, rfl⟩
     ·refine Ah ?_
      refine Ad (Bo _ _ []) 72 96 hU rfl rfl ?_
      refine Al ?_
      refine Ai fun hU => ?_
      refine C4 rfl hg (fun h17 hg => ?_) fun h17 hg => ?_
      ·refine Ah ?_
       refine Ad (Bo _ _ []) 96 104 hU rfl rfl ?_
       refine Al ?_
       refine Ai fun hU => ?_
       refine Bj ?_
       obtain rfl := oi_ hg
       exact Bi [] ⟨rfl, rfl⟩
      ·refine Ah ?_
       refine Ad (Bo _ _ []) 96 120 hU rfl rfl ?_
       refine Al ?_
       refine Ai fun hU => ?_
       refine C4 rfl hg (fun h20 hg => ?_) fun h20 hg => ?_
       ·refine Ah ?_
        refine Ad (Bo _ _ []) 120 128 hU rfl rfl ?_
        refine Al ?_
        refine Ai fun hU => ?_
        refine Bj ?_
        obtain rfl := oi_ hg
        exact Bi [] ⟨rfl, rfl⟩
       ·refine Aq ?_
        repeat first | refine Cw ?_ | refine Cz ?_
        refine Bn 120 128 hU ?_
        refine Al ?_
        refine Ai fun hU => ?_
        refine Bj ?_
        obtain rfl := oi_ hg
        exact Bi [] ⟨rfl, rfl⟩
theorem Hf (b : Int) (sizes : (List Int)) (strengths : (List Int)) (r : Int) (hg : Bs b sizes strengths = some r) : Fn Try.prog 83 0 [.val (.int .i64 b), .sl 1 (Az eI sizes), .sl 1 (Az eI strengths)] [] (fun d' b' => d' = .val (.int .i64 r) /\ b' = []) := by
 unfold Bs at hg
 refine Fn.of Try.func83 rfl rfl rfl fun w0 I ρ0 => ?_
 show Ci _ ⟨w0, I, ρ0, 0, 0, 24⟩ _ _ _
 refine Bn 0 8 Bg ?_
 refine Al ?_
 refine Ai fun hU => ?_
 refine Ah ?_
 refine Bn 8 16 hU ?_
 refine Al ?_
 refine Ai fun hU => ?_
 refine A4 ?_
 refine Ll (fun (i_1 : Int) => mk [(0, .val (.int .i64 b)), (1, .sl 1 (Az eI sizes)), (2, .sl 1 (Az eI strengths)), (7, .val (.int .i64 i_1))] [] 0) hg (Ba []) ?_
 rintro i_1 m1 o1 hg hn1
 replace hg : Bs.l1 b sizes strengths i_1 = some o1 := hg
 show Ci _ _ _ _ (mk _ _ _)
 unfold Bs.l1 at hg
 refine Ah ?_
 refine Bn 0 32 Bg ?_
 refine Al ?_
 refine Ai fun hU => ?_
 refine C4 rfl hg (fun h4 hg => ?_) fun h4 hg => ?_
 ·refine Aq ?_
  repeat first | refine Cw ?_ | refine Cz ?_
  refine Ah ?_
  refine A4 ?_
  refine Bn 32 80 hU ?_
  refine Al ?_
  obtain ⟨e, he, hg⟩ := Ac hg
  refine Al ?_
  refine Ca rfl rfl (Ch T7 (D6 H0 (Ao he) (o := 0) (c := .int .i64 e) rfl rfl)) rfl rfl ?_
  refine Al ?_
  refine Ai fun hU => ?_
  refine C4 rfl hg (fun h6 hg => ?_) fun h6 hg => ?_
  ·refine Ah ?_
   refine Ad (Bo _ _ []) 80 120 hU rfl rfl ?_
   refine Al ?_
   obtain ⟨e_2, he_2, hg⟩ := Ac hg
   refine Al ?_
   refine Ca rfl rfl (Ch T7 (D6 H0 (Ao he_2) (o := 0) (c := .int .i64 e_2) rfl rfl)) rfl rfl ?_
   refine Al ?_
   refine Ai fun hU => ?_
   refine Bj ?_
   replace hg := C3 hg hn1
   obtain rfl := oi_ hg
   exact Bi [] ⟨rfl, rfl⟩
  ·refine Aq ?_
   repeat first | refine Cw ?_ | refine Cz ?_
   refine Ad (Bo _ _ []) 80 104 hU rfl rfl ?_
   refine Al ?_
   refine Ai fun hU => ?_
   obtain rfl := oi_ hg
   exact ⟨(W (i_1 + 1), m1), Nat.lt_succ_self _, hn1, Ba []⟩
 ·refine Cb ?_
  repeat first | refine Cw ?_ | refine Cz ?_
  replace hg := C3 hg hn1
  refine Bn 32 40 hU ?_
  refine Al ?_
  refine Ai fun hU => ?_
  refine Bj ?_
  obtain rfl := oi_ hg
  exact Bi [] ⟨rfl, rfl⟩
theorem Tq (alg : Int) (r : Int) (hg : Ct alg = some r) : Fn Try.prog 84 0 [.val (.int .i64 alg)] [] (fun d' b' => d' = .val (.int .i64 r) /\ b' = []) := by
 unfold Ct at hg
 refine Fn.of Try.func84 rfl rfl rfl fun w0 I ρ0 => ?_
 show Ci _ ⟨w0, I, ρ0, 0, 0, 21⟩ _ _ _
 refine Bn 0 8 Bg ?_
 refine Al ?_
 refine Ai fun hU => ?_
 refine Ah ?_
 refine Bn 8 16 hU ?_
 refine Al ?_
 refine Ai fun hU => ?_
 refine A4 ?_
 refine Bn 16 32 hU ?_
 refine Al ?_
 refine Ai fun hU => ?_
 refine C4 rfl hg (fun h4 hg => ?_) fun h4 hg => ?_
 ·refine Ah ?_
  refine Ad (Bo _ _ []) 32 40 hU rfl rfl ?_
  refine Al ?_
  refine Ai fun hU => ?_
  refine Bj ?_
  obtain rfl := oi_ hg
  exact Bi [] ⟨rfl, rfl⟩
 ·refine Ah ?_
  refine Ad (Bo _ _ []) 32 48 hU rfl rfl ?_
  refine Al ?_
  refine Ai fun hU => ?_
  refine C4 rfl hg (fun h7 hg => ?_) fun h7 hg => ?_
  ·refine Ah ?_
   refine Ad (Bo _ _ []) 48 56 hU rfl rfl ?_
   refine Al ?_
   refine Ai fun hU => ?_
   refine Bj ?_
   obtain rfl := oi_ hg
   exact Bi [] ⟨rfl, rfl⟩
  ·refine By (ι := Bool) (fun (x8_1 : Bool) => mk [(3, .val (.int .i64 alg)), (8, .val (.bool x8_1))] [] 0) (fun (x8_1 : Bool) => Ct.j1 alg x8_1 = some r) ?_ ?_
   ·refine Ah ?_
    refine Ad (Bo _ _ []) 48 64 hU rfl rfl ?_
    refine Al ?_
    refine Ai fun hU => ?_
    refine C4 rfl hg (fun h10 hg => ?_) fun h10 hg => ?_
    ·refine Aq ?_
     repeat first | refine Cw ?_ | refine Cz ?_
     exact ⟨decide (alg = 3), hg, Ba []⟩
    ·refine Ah ?_
     refine Ad (Bo _ _ []) 64 80 hU rfl rfl ?_
     refine Al ?_
     refine Ai fun hU => ?_
     refine C4 rfl hg (fun h12 hg => ?_) fun h12 hg => ?_
     ·refine Aq ?_
      repeat first | refine Cw ?_ | refine Cz ?_
      exact ⟨decide (alg = 8), hg, Ba []⟩
     ·refine Ad (Bo _ _ []) 80 96 hU rfl rfl ?_
      refine Al ?_
      refine Ai fun hU => ?_
      exact ⟨decide (alg = 21), hg, Ba []⟩
   ·rintro x8_1 hg
    replace hg : Ct.j1 alg x8_1 = some r := hg
    show Ci _ _ _ _ (mk _ _ _)
    unfold Ct.j1 at hg
    refine C4 rfl hg (fun h14 hg => ?_) fun h14 hg => ?_
    ·refine Ah ?_
     refine Ad (Bo _ _ []) 0 8 Bg rfl rfl ?_
     refine Al ?_
     refine Ai fun hU => ?_
     refine Bj ?_
     obtain rfl := oi_ hg
     exact Bi [] ⟨rfl, rfl⟩
    ·refine Ah ?_
     refine Ad (Bo _ _ []) 0 16 Bg rfl rfl ?_
     refine Al ?_
     refine Ai fun hU => ?_
     refine C4 rfl hg (fun h17 hg => ?_) fun h17 hg => ?_
     ·refine Ah ?_
      refine Ad (Bo _ _ []) 16 24 hU rfl rfl ?_
      refine Al ?_
      refine Ai fun hU => ?_
      refine Bj ?_
      obtain rfl := oi_ hg
      exact Bi [] ⟨rfl, rfl⟩
     ·refine By (ι := Bool) (fun (x14_2 : Bool) => mk [(3, .val (.int .i64 alg)), (14, .val (.bool x14_2))] [] 0) (fun (x14_2 : Bool) => Ct.j2 alg x14_2 = some r) ?_ ?_
      ·refine Ah ?_
       refine Ad (Bo _ _ []) 16 32 hU rfl rfl ?_
       refine Al ?_
       refine Ai fun hU => ?_
       refine C4 rfl hg (fun h20 hg => ?_) fun h20 hg => ?_
       ·refine Aq ?_
        repeat first | refine Cw ?_ | refine Cz ?_
        exact ⟨decide (alg = 18), hg, Ba []⟩
       ·refine Ad (Bo _ _ []) 32 48 hU rfl rfl ?_
        refine Al ?_
        refine Ai fun hU => ?_
        exact ⟨decide (alg = 22), hg, Ba []⟩
      ·rintro x14_2 hg
       replace hg : Ct.j2 alg x14_2 = some r := hg
       show Ci _ _ _ _ (mk _ _ _)
       unfold Ct.j2 at hg
       refine C4 rfl hg (fun h22 hg => ?_) fun h22 hg => ?_
       ·refine Ah ?_
        refine Ad (Bo _ _ []) 0 8 Bg rfl rfl ?_
        refine Al ?_
        refine Ai fun hU => ?_
        refine Bj ?_
        obtain rfl := oi_ hg
        exact Bi [] ⟨rfl, rfl⟩
       ·refine Ah ?_
        refine Ad (Bo _ _ []) 0 16 Bg rfl rfl ?_
        refine Al ?_
        refine Ai fun hU => ?_
        refine C4 rfl hg (fun h25 hg => ?_) fun h25 hg => ?_
        ·refine Ah ?_
         refine Ad (Bo _ _ []) 16 24 hU rfl rfl ?_
         refine Al ?_
         refine Ai fun hU => ?_
         refine Bj ?_
         obtain rfl := oi_ hg
         exact Bi [] ⟨rfl, rfl⟩
        ·refine Ah ?_
         refine Ad (Bo _ _ []) 16 32 hU rfl rfl ?_
         refine Al ?_
         refine Ai fun hU => ?_
         refine C4 rfl hg (fun h28 hg => ?_) fun h28 hg => ?_
         ·refine Ah ?_
          refine Ad (Bo _ _ []) 32 40 hU rfl rfl ?_
          refine Al ?_
          refine Ai fun hU => ?_
          refine Bj ?_
          obtain rfl := oi_ hg
          exact Bi [] ⟨rfl, rfl⟩
         ·refine Aq ?_
          repeat first | refine Cw ?_ | refine Cz ?_
          refine Bn 32 40 hU ?_
          refine Al ?_
          refine Ai fun hU => ?_
          refine Bj ?_
          obtain rfl := oi_ hg
          exact Bi [] ⟨rfl, rfl⟩
end Go.Proofs.Ytjomajedgbcngaa
