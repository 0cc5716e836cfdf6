import Derived.Test.YtjomajedgbcngaaT1
import Derived.Test.YtjomajedgbcngaaA2
import Derived.Test.YtjomajedgbcngaaA3
set_option linter.unusedVariables false
set_option linter.unusedSimpArgs false
set_option maxRecDepth 100000
set_option maxHeartbeats 1600000
namespace Go.Proofs.Ytjomajedgbcngaa
open Go.RowKit
theorem F4 (data : List Aa) (a : Int) (b : Int) (cmp : Aa -> Aa -> Option (Int)) (hf_cmp : ∀ (x0 : Aa) (x1 : Aa) (y : Int), cmp x0 x1 = some y -> Fn Try.prog 10 0 [.agg (Aa.dv x0), .agg (Aa.dv x1)] [] (fun d' b' => d' = .val (.int .i64 y) /\ b' = [])) (r : (List Aa)) (hg : Am data a b cmp = some r) : Fn Try.prog 70 1 [.row 0, .val (.int .i64 a), .val (.int .i64 b), .clo 10 0 []] [.row 30 11 (Az Aa.enc data)] (fun d' b' => d' = .tup [] /\ b' = [.row 30 11 (Az Aa.enc r)]) := by
 unfold Am at hg
 refine Fn.of Try.func70 rfl rfl rfl fun w0 I ρ0 => ?_
 show Ci _ ⟨w0, I, ρ0, 1, 1, 53⟩ _ _ _
 refine Bn 1 25 Bg ?_
 refine Al ?_
 refine Ai fun hU => ?_
 refine A4 ?_
 refine Ll (fun ((i_1, data_1) : Int × List Aa) => mk [(0, .row 0), (1, .val (.int .i64 a)), (2, .val (.int .i64 b)), (3, .clo 10 0 []), (8, .val (.int .i64 i_1))] [(0, .row 30 11 (Az Aa.enc data_1))] 1) hg (Ba [(0, 0)]) ?_
 rintro ⟨i_1, data_1⟩ m1 o1 hg hn1
 replace hg : Am.l1 a b cmp i_1 data_1 = some o1 := hg
 show Ci _ _ _ _ (mk _ _ _)
 unfold Am.l1 at hg
 refine Ah ?_
 refine Bn 1 25 Bg ?_
 refine Al ?_
 refine Ai fun hU => ?_
 refine C4 rfl hg (fun h3 hg => ?_) fun h3 hg => ?_
 ·refine Aq ?_
  repeat first | refine Cw ?_ | refine Cz ?_
  refine Ah ?_
  refine A4 ?_
  refine Bn 25 41 hU ?_
  refine Al ?_
  refine Ai fun hU => ?_
  refine A4 ?_
  refine Ll (fun ((j_2, data_2) : Int × List Aa) => mk [(0, .row 0), (1, .val (.int .i64 a)), (2, .val (.int .i64 b)), (3, .clo 10 0 []), (8, .val (.int .i64 i_1)), (9, .val (.int .i64 j_2))] [(0, .row 30 11 (Az Aa.enc data_2))] 1) hg (Ba [(0, 0)]) ?_
  rintro ⟨j_2, data_2⟩ m2 o2 hg hn2
  replace hg : Am.l2 a cmp i_1 j_2 data_2 = some o2 := hg
  show Ci _ _ _ _ (mk _ _ _)
  unfold Am.l2 at hg
  refine Ah ?_
  refine By (ι := Bool) (fun (x34_3 : Bool) => mk [(0, .row 0), (1, .val (.int .i64 a)), (2, .val (.int .i64 b)), (3, .clo 10 0 []), (8, .val (.int .i64 i_1)), (9, .val (.int .i64 j_2)), (34, .val (.bool x34_3))] [(0, .row 30 11 (Az Aa.enc data_2))] 1) (fun (x34_3 : Bool) => Am.j3 i_1 j_2 data_2 x34_3 = some o2) ?_ ?_
  ·refine Bv (Bo _ _ []) (by kernel_rfl) [0, 0, 3, 7, 15, 15, 15, 111, 239, 15, 15, 1039, 3599, 7695, 16383, 32767, 65535] 1 137 Bg rfl rfl (by kernel_rfl) ?_
   refine Al ?_
   rcases Ea hg with ⟨h5, hg⟩ | ⟨h5, hg⟩
   ·refine Al ?_
    obtain ⟨e, he, hg⟩ := Ac hg
    refine Al ?_
    refine Cu (rd := [0]) (B7 rfl rfl h5) rfl (Bt Cg (Bd Aa.enc_len (Ao he) (o := 0) (m := 11) (cs := [.int .i64 e.Source, .str e.Host, .int .i64 e.Machine, .int .i64 e.Day, .int .i64 e.Confidence, .int .i64 e.Kind, .str e.Subject, .int .i64 e.Use.Alg, .int .i64 e.Use.Bits, .int .i64 e.Number, .str e.Text]) rfl (by decide) rfl) (Ap Aa.enc_len (Ao he) (o := 0) (m := 11) (by decide) rfl)) rfl rfl ?_
    refine Al ?_
    obtain ⟨e_2, he_2, hg⟩ := Ac hg
    refine Al ?_
    refine Cu (rd := [0]) (B7 rfl rfl h5) rfl (Bt Cg (Bd Aa.enc_len (Ao he_2) (o := 0) (m := 11) (cs := [.int .i64 e_2.Source, .str e_2.Host, .int .i64 e_2.Machine, .int .i64 e_2.Day, .int .i64 e_2.Confidence, .int .i64 e_2.Kind, .str e_2.Subject, .int .i64 e_2.Use.Alg, .int .i64 e_2.Use.Bits, .int .i64 e_2.Number, .str e_2.Text]) rfl (by decide) rfl) (Ap Aa.enc_len (Ao he_2) (o := 0) (m := 11) (by decide) rfl)) rfl rfl ?_
    obtain ⟨y, hy, hg⟩ := Ac hg
    refine Ck (rd := []) (ps := []) (gs := []) false (B7 rfl rfl h5) rfl (hf_cmp e e_2 _ hy) rfl rfl (.cons (.agg (.cons .val (.cons .val (.cons .val (.cons .val (.cons .val (.cons .val (.cons .val (.cons .val (.cons .val (.cons .val (.cons .val .nil)))))))))))) (.cons (.agg (.cons .val (.cons .val (.cons .val (.cons .val (.cons .val (.cons .val (.cons .val (.cons .val (.cons .val (.cons .val (.cons .val .nil)))))))))))) .nil)) rfl rfl (by intro h; cases h) rfl rfl rfl rfl ?_
    refine Al ?_
    refine Ai fun hU => ?_
    exact ⟨decide (y < 0), hg, Ba [(0, 0)]⟩
   ·refine Al ?_
    refine Ai fun hU => ?_
    exact ⟨false, hg, Ba [(0, 0)]⟩
  ·rintro x34_3 hg
   replace hg : Am.j3 i_1 j_2 data_2 x34_3 = some o2 := hg
   show Ci _ _ _ _ (mk _ _ _)
   unfold Am.j3 at hg
   refine C4 rfl hg (fun h8 hg => ?_) fun h8 hg => ?_
   ·refine Aq ?_
    repeat first | refine Cw ?_ | refine Cz ?_
    refine Ah ?_
    refine A4 ?_
    refine Bv (Bo _ _ []) (by kernel_rfl) [0, 0, 0, 0, 8, 0, 0, 64, 224, 480, 0, 0, 3072, 7168, 16355, 32739, 65535, 131071] 1 145 Bg rfl rfl (by kernel_rfl) ?_
    refine Al ?_
    obtain ⟨e_3, he_3, hg⟩ := Ac hg
    refine Al ?_
    refine Cu (rd := [0]) rfl rfl (Bt Cg (Bd Aa.enc_len (Ao he_3) (o := 0) (m := 11) (cs := [.int .i64 e_3.Source, .str e_3.Host, .int .i64 e_3.Machine, .int .i64 e_3.Day, .int .i64 e_3.Confidence, .int .i64 e_3.Kind, .str e_3.Subject, .int .i64 e_3.Use.Alg, .int .i64 e_3.Use.Bits, .int .i64 e_3.Number, .str e_3.Text]) rfl (by decide) rfl) (Ap Aa.enc_len (Ao he_3) (o := 0) (m := 11) (by decide) rfl)) rfl rfl ?_
    refine Al ?_
    obtain ⟨e_4, he_4, hg⟩ := Ac hg
    refine Al ?_
    refine Cu (rd := [0]) rfl rfl (Bt Cg (Bd Aa.enc_len (Ao he_4) (o := 0) (m := 11) (cs := [.int .i64 e_4.Source, .str e_4.Host, .int .i64 e_4.Machine, .int .i64 e_4.Day, .int .i64 e_4.Confidence, .int .i64 e_4.Kind, .str e_4.Subject, .int .i64 e_4.Use.Alg, .int .i64 e_4.Use.Bits, .int .i64 e_4.Number, .str e_4.Text]) rfl (by decide) rfl) (Ap Aa.enc_len (Ao he_4) (o := 0) (m := 11) (by decide) rfl)) rfl rfl ?_
    refine Al ?_
    refine Cu (rd := [0]) rfl rfl (Dh Cg rfl (Ap Aa.enc_len (Ao he_4) (o := 0) (m := 11) (by decide) rfl) G3 (cs' := [.int .i64 e_3.Source, .str e_3.Host, .int .i64 e_3.Machine, .int .i64 e_3.Day, .int .i64 e_3.Confidence, .int .i64 e_3.Kind, .str e_3.Subject, .int .i64 e_3.Use.Alg, .int .i64 e_3.Use.Bits, .int .i64 e_3.Number, .str e_3.Text]) (.cons .int (.cons .str (.cons .int (.cons .int (.cons .int (.cons .int (.cons .str (.cons .int (.cons .int (.cons .int (.cons .str .nil))))))))))) (Cm Aa.enc_len (Ao he_4) (o := 0) (x' := e_3) (Nat.le_of_ble_eq_true rfl) rfl rfl)) rfl rfl ?_
    obtain ⟨e_5, he_5, hg⟩ := Ac hg
    refine Al ?_
    refine Cu (rd := [0]) rfl rfl (Dh Cg rfl (Ap Aa.enc_len (Ao he_5) (o := 0) (m := 11) (by decide) rfl) G3 (cs' := [.int .i64 e_4.Source, .str e_4.Host, .int .i64 e_4.Machine, .int .i64 e_4.Day, .int .i64 e_4.Confidence, .int .i64 e_4.Kind, .str e_4.Subject, .int .i64 e_4.Use.Alg, .int .i64 e_4.Use.Bits, .int .i64 e_4.Number, .str e_4.Text]) (.cons .int (.cons .str (.cons .int (.cons .int (.cons .int (.cons .int (.cons .str (.cons .int (.cons .int (.cons .int (.cons .str .nil))))))))))) (Cm Aa.enc_len (Ao he_5) (o := 0) (x' := e_4) (Nat.le_of_ble_eq_true rfl) rfl rfl)) rfl rfl ?_
    refine Ai fun hU => ?_
    refine Ad (Bo _ _ []) 145 169 hU rfl rfl ?_
    refine Al ?_
    refine Ai fun hU => ?_
    obtain rfl := oi_ hg
    exact ⟨((W (j_2 - 1), Cq (Cq data_2 ((j_2).toNat) e_3) ((W (j_2 - 1)).toNat) e_4), m2), Nat.lt_succ_self _, hn2, Ba [(0, 0)]⟩
   ·refine Cb ?_
    repeat first | refine Cw ?_ | refine Cz ?_
    replace hg := C3 hg hn2
    refine Ad (Bo _ _ []) 1 25 Bg rfl rfl ?_
    refine Al ?_
    refine Ai fun hU => ?_
    obtain rfl := oi_ hg
    exact ⟨((W (i_1 + 1), data_2), m1), Nat.lt_succ_self _, hn1, Ba [(0, 0)]⟩
 ·refine Cb ?_
  repeat first | refine Cw ?_ | refine Cz ?_
  replace hg := C3 hg hn1
  obtain rfl := oi_ hg
  exact Bi [(0, 0)] ⟨rfl, rfl⟩
theorem D9 (data : List Aa) (lo : Int) (hi : Int) (first : Int) (cmp : Aa -> Aa -> Option (Int)) (hf_cmp : ∀ (x0 : Aa) (x1 : Aa) (y : Int), cmp x0 x1 = some y -> Fn Try.prog 10 0 [.agg (Aa.dv x0), .agg (Aa.dv x1)] [] (fun d' b' => d' = .val (.int .i64 y) /\ b' = [])) (r : (List Aa)) (hg : An data lo hi first cmp = some r) : Fn Try.prog 88 1 [.row 0, .val (.int .i64 lo), .val (.int .i64 hi), .val (.int .i64 first), .clo 10 0 []] [.row 30 11 (Az Aa.enc data)] (fun d' b' => d' = .tup [] /\ b' = [.row 30 11 (Az Aa.enc r)]) := by
 unfold An at hg
 refine Fn.of Try.func88 rfl rfl rfl fun w0 I ρ0 => ?_
 show Ci _ ⟨w0, I, ρ0, 1, 1, 82⟩ _ _ _
 refine Bn 1 17 Bg ?_
 refine Al ?_
 refine Ai fun hU => ?_
 refine A4 ?_
 refine Ll (fun ((root_1, data_1) : Int × List Aa) => mk [(0, .row 0), (2, .val (.int .i64 hi)), (3, .val (.int .i64 first)), (4, .clo 10 0 []), (10, .val (.int .i64 root_1))] [(0, .row 30 11 (Az Aa.enc data_1))] 1) hg (Ba [(0, 0)]) ?_
 rintro ⟨root_1, data_1⟩ m1 o1 hg hn1
 replace hg : An.l1 hi first cmp root_1 data_1 = some o1 := hg
 show Ci _ _ _ _ (mk _ _ _)
 unfold An.l1 at hg
 refine A4 ?_
 refine Bn 1 33 Bg ?_
 refine Al ?_
 refine Ai fun hU => ?_
 refine Ah ?_
 refine Bn 33 57 hU ?_
 refine Al ?_
 refine Ai fun hU => ?_
 refine C4 rfl hg (fun h4 hg => ?_) fun h4 hg => ?_
 ·refine Cb ?_
  repeat first | refine Cw ?_ | refine Cz ?_
  replace hg := C3 hg hn1
  obtain rfl := oi_ hg
  exact Bi [(0, 0)] ⟨rfl, rfl⟩
 ·refine Aq ?_
  repeat first | refine Cw ?_ | refine Cz ?_
  refine By (ι := Int) (fun (child_3 : Int) => mk [(0, .row 0), (2, .val (.int .i64 hi)), (3, .val (.int .i64 first)), (4, .clo 10 0 []), (10, .val (.int .i64 root_1)), (11, .val (.int .i64 child_3))] [(0, .row 30 11 (Az Aa.enc data_1))] 1) (fun (child_3 : Int) => An.j3 first cmp root_1 data_1 child_3 = some o1) ?_ ?_
  ·refine By (ι := Bool) (fun (x40_2 : Bool) => mk [(0, .row 0), (2, .val (.int .i64 hi)), (3, .val (.int .i64 first)), (4, .clo 10 0 []), (10, .val (.int .i64 root_1)), (11, .val (.int .i64 (W ((W (2 * root_1)) + 1)))), (40, .val (.bool x40_2))] [(0, .row 30 11 (Az Aa.enc data_1))] 1) (fun (x40_2 : Bool) => An.j2 first cmp root_1 data_1 x40_2 = some o1) ?_ ?_
   ·refine Bv (Bo _ _ []) (by kernel_rfl) [0, 1, 0, 7, 15, 31, 31, 31, 31, 415, 991, 2015, 31, 31, 31, 24607, 57375, 127007, 258079, 524287, 1048575, 2097151] 57 233 hU rfl rfl (by kernel_rfl) ?_
    refine Al ?_
    rcases Ea hg with ⟨h5, hg⟩ | ⟨h5, hg⟩
    ·refine Al ?_
     obtain ⟨e, he, hg⟩ := Ac hg
     refine Al ?_
     refine Cu (rd := [0]) (B7 rfl rfl h5) rfl (Bt Cg (Bd Aa.enc_len (Ao he) (o := 0) (m := 11) (cs := [.int .i64 e.Source, .str e.Host, .int .i64 e.Machine, .int .i64 e.Day, .int .i64 e.Confidence, .int .i64 e.Kind, .str e.Subject, .int .i64 e.Use.Alg, .int .i64 e.Use.Bits, .int .i64 e.Number, .str e.Text]) rfl (by decide) rfl) (Ap Aa.enc_len (Ao he) (o := 0) (m := 11) (by decide) rfl)) rfl rfl ?_
     refine Al ?_
     obtain ⟨e_2, he_2, hg⟩ := Ac hg
     refine Al ?_
     refine Cu (rd := [0]) (B7 rfl rfl h5) rfl (Bt Cg (Bd Aa.enc_len (Ao he_2) (o := 0) (m := 11) (cs := [.int .i64 e_2.Source, .str e_2.Host, .int .i64 e_2.Machine, .int .i64 e_2.Day, .int .i64 e_2.Confidence, .int .i64 e_2.Kind, .str e_2.Subject, .int .i64 e_2.Use.Alg, .int .i64 e_2.Use.Bits, .int .i64 e_2.Number, .str e_2.Text]) rfl (by decide) rfl) (Ap Aa.enc_len (Ao he_2) (o := 0) (m := 11) (by decide) rfl)) rfl rfl ?_
     obtain ⟨y, hy, hg⟩ := Ac hg
     refine Ck (rd := []) (ps := []) (gs := []) false (B7 rfl rfl h5) rfl (hf_cmp e e_2 _ hy) rfl rfl (.cons (.agg (.cons .val (.cons .val (.cons .val (.cons .val (.cons .val (.cons .val (.cons .val (.cons .val (.cons .val (.cons .val (.cons .val .nil)))))))))))) (.cons (.agg (.cons .val (.cons .val (.cons .val (.cons .val (.cons .val (.cons .val (.cons .val (.cons .val (.cons .val (.cons .val (.cons .val .nil)))))))))))) .nil)) rfl rfl (by intro h; cases h) rfl rfl rfl rfl ?_
     refine Al ?_
     refine Ai fun hU => ?_
     exact ⟨decide (y < 0), hg, Ba [(0, 0)]⟩
    ·refine Al ?_
     refine Ai fun hU => ?_
     exact ⟨false, hg, Ba [(0, 0)]⟩
   ·rintro x40_2 hg
    replace hg : An.j2 first cmp root_1 data_1 x40_2 = some o1 := hg
    show Ci _ _ _ _ (mk _ _ _)
    unfold An.j2 at hg
    refine C4 rfl hg (fun h8 hg => ?_) fun h8 hg => ?_
    ·refine Ad (Bo _ _ []) 1 25 Bg rfl rfl ?_
     refine Al ?_
     refine Ai fun hU => ?_
     exact ⟨W ((W ((W (2 * root_1)) + 1)) + 1), hg, Ba [(0, 0)]⟩
    ·refine Aq ?_
     repeat first | refine Cw ?_ | refine Cz ?_
     exact ⟨W ((W (2 * root_1)) + 1), hg, Ba [(0, 0)]⟩
  ·rintro child_3 hg
   replace hg : An.j3 first cmp root_1 data_1 child_3 = some o1 := hg
   show Ci _ _ _ _ (mk _ _ _)
   unfold An.j3 at hg
   refine Ah ?_
   refine Ah ?_
   refine Bv (Bo _ _ []) (by kernel_rfl) [0, 0, 0, 0, 12, 30, 62, 0, 0, 0, 768, 1920, 3968, 8191, 16383, 32767] 1 129 Bg rfl rfl (by kernel_rfl) ?_
   refine Al ?_
   obtain ⟨e_3, he_3, hg⟩ := Ac hg
   refine Al ?_
   refine Cu (rd := [0]) rfl rfl (Bt Cg (Bd Aa.enc_len (Ao he_3) (o := 0) (m := 11) (cs := [.int .i64 e_3.Source, .str e_3.Host, .int .i64 e_3.Machine, .int .i64 e_3.Day, .int .i64 e_3.Confidence, .int .i64 e_3.Kind, .str e_3.Subject, .int .i64 e_3.Use.Alg, .int .i64 e_3.Use.Bits, .int .i64 e_3.Number, .str e_3.Text]) rfl (by decide) rfl) (Ap Aa.enc_len (Ao he_3) (o := 0) (m := 11) (by decide) rfl)) rfl rfl ?_
   refine Al ?_
   obtain ⟨e_4, he_4, hg⟩ := Ac hg
   refine Al ?_
   refine Cu (rd := [0]) rfl rfl (Bt Cg (Bd Aa.enc_len (Ao he_4) (o := 0) (m := 11) (cs := [.int .i64 e_4.Source, .str e_4.Host, .int .i64 e_4.Machine, .int .i64 e_4.Day, .int .i64 e_4.Confidence, .int .i64 e_4.Kind, .str e_4.Subject, .int .i64 e_4.Use.Alg, .int .i64 e_4.Use.Bits, .int .i64 e_4.Number, .str e_4.Text]) rfl (by decide) rfl) (Ap Aa.enc_len (Ao he_4) (o := 0) (m := 11) (by decide) rfl)) rfl rfl ?_
   obtain ⟨y_2, hy_2, hg⟩ := Ac hg
   refine Ck (rd := []) (ps := []) (gs := []) false rfl rfl (hf_cmp e_3 e_4 _ hy_2) rfl rfl (.cons (.agg (.cons .val (.cons .val (.cons .val (.cons .val (.cons .val (.cons .val (.cons .val (.cons .val (.cons .val (.cons .val (.cons .val .nil)))))))))))) (.cons (.agg (.cons .val (.cons .val (.cons .val (.cons .val (.cons .val (.cons .val (.cons .val (.cons .val (.cons .val (.cons .val (.cons .val .nil)))))))))))) .nil)) rfl rfl (by intro h; cases h) rfl rfl rfl rfl ?_
   refine Al ?_
   refine Ai fun hU => ?_
   refine C4 rfl hg (fun h11 hg => ?_) fun h11 hg => ?_
   ·refine Vu ?_
    repeat first | refine Cw ?_ | refine Cz ?_
    replace hg := C3 hg hn1
    obtain rfl := oi_ hg
    exact Bi [(0, 0)] ⟨rfl, rfl⟩
   ·refine Aq ?_
    repeat first | refine Cw ?_ | refine Cz ?_
    refine Ah ?_
    refine Bv (Bo _ _ []) (by kernel_rfl) [0, 0, 0, 6, 0, 0, 0, 96, 0, 0, 0, 1536, 3840, 7936, 0, 0, 0, 98304, 245760, 507904, 1048335, 2096911, 4194303, 8388607] 129 321 hU rfl rfl (by kernel_rfl) ?_
    refine Al ?_
    refine Cu (rd := [0]) rfl rfl (Bt Cg (Bd Aa.enc_len (Ao he_4) (o := 0) (m := 11) (cs := [.int .i64 e_4.Source, .str e_4.Host, .int .i64 e_4.Machine, .int .i64 e_4.Day, .int .i64 e_4.Confidence, .int .i64 e_4.Kind, .str e_4.Subject, .int .i64 e_4.Use.Alg, .int .i64 e_4.Use.Bits, .int .i64 e_4.Number, .str e_4.Text]) rfl (by decide) rfl) (Ap Aa.enc_len (Ao he_4) (o := 0) (m := 11) (by decide) rfl)) rfl rfl ?_
    refine Al ?_
    refine Cu (rd := [0]) rfl rfl (Bt Cg (Bd Aa.enc_len (Ao he_3) (o := 0) (m := 11) (cs := [.int .i64 e_3.Source, .str e_3.Host, .int .i64 e_3.Machine, .int .i64 e_3.Day, .int .i64 e_3.Confidence, .int .i64 e_3.Kind, .str e_3.Subject, .int .i64 e_3.Use.Alg, .int .i64 e_3.Use.Bits, .int .i64 e_3.Number, .str e_3.Text]) rfl (by decide) rfl) (Ap Aa.enc_len (Ao he_3) (o := 0) (m := 11) (by decide) rfl)) rfl rfl ?_
    refine Al ?_
    refine Cu (rd := [0]) rfl rfl (Dh Cg rfl (Ap Aa.enc_len (Ao he_3) (o := 0) (m := 11) (by decide) rfl) G3 (cs' := [.int .i64 e_4.Source, .str e_4.Host, .int .i64 e_4.Machine, .int .i64 e_4.Day, .int .i64 e_4.Confidence, .int .i64 e_4.Kind, .str e_4.Subject, .int .i64 e_4.Use.Alg, .int .i64 e_4.Use.Bits, .int .i64 e_4.Number, .str e_4.Text]) (.cons .int (.cons .str (.cons .int (.cons .int (.cons .int (.cons .int (.cons .str (.cons .int (.cons .int (.cons .int (.cons .str .nil))))))))))) (Cm Aa.enc_len (Ao he_3) (o := 0) (x' := e_4) (Nat.le_of_ble_eq_true rfl) rfl rfl)) rfl rfl ?_
    obtain ⟨e_5, he_5, hg⟩ := Ac hg
    refine Al ?_
    refine Cu (rd := [0]) rfl rfl (Dh Cg rfl (Ap Aa.enc_len (Ao he_5) (o := 0) (m := 11) (by decide) rfl) G3 (cs' := [.int .i64 e_3.Source, .str e_3.Host, .int .i64 e_3.Machine, .int .i64 e_3.Day, .int .i64 e_3.Confidence, .int .i64 e_3.Kind, .str e_3.Subject, .int .i64 e_3.Use.Alg, .int .i64 e_3.Use.Bits, .int .i64 e_3.Number, .str e_3.Text]) (.cons .int (.cons .str (.cons .int (.cons .int (.cons .int (.cons .int (.cons .str (.cons .int (.cons .int (.cons .int (.cons .str .nil))))))))))) (Cm Aa.enc_len (Ao he_5) (o := 0) (x' := e_3) (Nat.le_of_ble_eq_true rfl) rfl rfl)) rfl rfl ?_
    refine Ai fun hU => ?_
    refine Ad (Bo _ _ []) 321 337 hU rfl rfl ?_
    refine Al ?_
    refine Ai fun hU => ?_
    obtain rfl := oi_ hg
    exact ⟨((child_3, Cq (Cq data_1 ((W (first + root_1)).toNat) e_4) ((W (first + child_3)).toNat) e_3), m1), Nat.lt_succ_self _, hn1, Ba [(0, 0)]⟩
theorem Gu (data : List Aa) (a : Int) (b : Int) (cmp : Aa -> Aa -> Option (Int)) (hf_cmp : ∀ (x0 : Aa) (x1 : Aa) (y : Int), cmp x0 x1 = some y -> Fn Try.prog 10 0 [.agg (Aa.dv x0), .agg (Aa.dv x1)] [] (fun d' b' => d' = .val (.int .i64 y) /\ b' = [])) (r : (List Aa)) (hg : Aw data a b cmp = some r) : Fn Try.prog 71 1 [.row 0, .val (.int .i64 a), .val (.int .i64 b), .clo 10 0 []] [.row 30 11 (Az Aa.enc data)] (fun d' b' => d' = .tup [] /\ b' = [.row 30 11 (Az Aa.enc r)]) := by
 unfold Aw at hg
 refine Fn.of Try.func71 rfl rfl rfl fun w0 I ρ0 => ?_
 show Ci _ ⟨w0, I, ρ0, 1, 1, 60⟩ _ _ _
 refine Bn 1 17 Bg ?_
 refine Al ?_
 refine Ai fun hU => ?_
 refine Bn 17 25 hU ?_
 refine Al ?_
 refine Ai fun hU => ?_
 refine Bn 25 57 hU ?_
 refine Al ?_
 refine Ai fun hU => ?_
 refine Ah ?_
 refine Bn 57 89 hU ?_
 refine Al ?_
 obtain ⟨q, hq, hg⟩ := Ac hg
 refine Ca rfl rfl (Qq hq) rfl rfl ?_
 refine Al ?_
 refine Ai fun hU => ?_
 refine A4 ?_
 refine Ll (fun ((i_1, data_1) : Int × List Aa) => mk [(0, .row 0), (3, .clo 10 0 []), (8, .val (.int .i64 a)), (9, .val (.int .i64 0)), (10, .val (.int .i64 (W (b - a)))), (11, .val (.int .i64 i_1))] [(0, .row 30 11 (Az Aa.enc data_1))] 1) hg (Ba [(0, 0)]) ?_
 rintro ⟨i_1, data_1⟩ m1 o1 hg hn1
 replace hg : Aw.l1 a b cmp i_1 data_1 = some o1 := hg
 show Ci _ _ _ _ (mk _ _ _)
 unfold Aw.l1 at hg
 refine Ah ?_
 refine Bn 1 17 Bg ?_
 refine Al ?_
 refine Ai fun hU => ?_
 refine C4 rfl hg (fun h6 hg => ?_) fun h6 hg => ?_
 ·refine Aq ?_
  repeat first | refine Cw ?_ | refine Cz ?_
  refine Ah ?_
  refine A4 ?_
  refine Ad (Bo _ _ []) 17 65 hU rfl rfl ?_
  refine Al ?_
  obtain ⟨y, hy, hg⟩ := Ac hg
  refine Hr [0] [0] [] false (D9 data_1 i_1 (W (b - a)) a cmp hf_cmp _ hy) ?_
  refine Ai fun hU => ?_
  refine Ad (Bo _ _ []) 65 89 hU rfl rfl ?_
  refine Al ?_
  refine Ai fun hU => ?_
  obtain rfl := oi_ hg
  exact ⟨((W (i_1 - 1), y), m1), Nat.lt_succ_self _, hn1, Ba [(0, 0)]⟩
 ·refine Cb ?_
  repeat first | refine Cw ?_ | refine Cz ?_
  replace hg := C3 hg hn1
  refine Bn 17 41 hU ?_
  refine Al ?_
  refine Ai fun hU => ?_
  refine A4 ?_
  refine Ll (fun ((i_2, data_2) : Int × List Aa) => mk [(0, .row 0), (3, .clo 10 0 []), (8, .val (.int .i64 a)), (9, .val (.int .i64 0)), (12, .val (.int .i64 i_2))] [(0, .row 30 11 (Az Aa.enc data_2))] 1) hg (Ba [(0, 0)]) ?_
  rintro ⟨i_2, data_2⟩ m2 o2 hg hn2
  replace hg : Aw.l2 a cmp i_2 data_2 = some o2 := hg
  show Ci _ _ _ _ (mk _ _ _)
  unfold Aw.l2 at hg
  refine Ah ?_
  refine Bn 1 17 Bg ?_
  refine Al ?_
  refine Ai fun hU => ?_
  refine C4 rfl hg (fun h11 hg => ?_) fun h11 hg => ?_
  ·refine Aq ?_
   repeat first | refine Cw ?_ | refine Cz ?_
   refine Ah ?_
   refine A4 ?_
   refine Ah ?_
   refine Bv (Bo _ _ []) (by kernel_rfl) [0, 0, 0, 0, 0, 24, 0, 0, 0, 384, 960, 1984, 0, 0, 12288, 28672, 65475, 131011, 262143, 524287] 17 177 hU rfl rfl (by kernel_rfl) ?_
   refine Al ?_
   obtain ⟨e, he, hg⟩ := Ac hg
   refine Al ?_
   refine Cu (rd := [0]) rfl rfl (Bt Cg (Bd Aa.enc_len (Ao he) (o := 0) (m := 11) (cs := [.int .i64 e.Source, .str e.Host, .int .i64 e.Machine, .int .i64 e.Day, .int .i64 e.Confidence, .int .i64 e.Kind, .str e.Subject, .int .i64 e.Use.Alg, .int .i64 e.Use.Bits, .int .i64 e.Number, .str e.Text]) rfl (by decide) rfl) (Ap Aa.enc_len (Ao he) (o := 0) (m := 11) (by decide) rfl)) rfl rfl ?_
   refine Al ?_
   obtain ⟨e_2, he_2, hg⟩ := Ac hg
   refine Al ?_
   refine Cu (rd := [0]) rfl rfl (Bt Cg (Bd Aa.enc_len (Ao he_2) (o := 0) (m := 11) (cs := [.int .i64 e_2.Source, .str e_2.Host, .int .i64 e_2.Machine, .int .i64 e_2.Day, .int .i64 e_2.Confidence, .int .i64 e_2.Kind, .str e_2.Subject, .int .i64 e_2.Use.Alg, .int .i64 e_2.Use.Bits, .int .i64 e_2.Number, .str e_2.Text]) rfl (by decide) rfl) (Ap Aa.enc_len (Ao he_2) (o := 0) (m := 11) (by decide) rfl)) rfl rfl ?_
   refine Al ?_
   refine Cu (rd := [0]) rfl rfl (Dh Cg rfl (Ap Aa.enc_len (Ao he_2) (o := 0) (m := 11) (by decide) rfl) G3 (cs' := [.int .i64 e.Source, .str e.Host, .int .i64 e.Machine, .int .i64 e.Day, .int .i64 e.Confidence, .int .i64 e.Kind, .str e.Subject, .int .i64 e.Use.Alg, .int .i64 e.Use.Bits, .int .i64 e.Number, .str e.Text]) (.cons .int (.cons .str (.cons .int (.cons .int (.cons .int (.cons .int (.cons .str (.cons .int (.cons .int (.cons .int (.cons .str .nil))))))))))) (Cm Aa.enc_len (Ao he_2) (o := 0) (x' := e) (Nat.le_of_ble_eq_true rfl) rfl rfl)) rfl rfl ?_
   obtain ⟨e_3, he_3, hg⟩ := Ac hg
   refine Al ?_
   refine Cu (rd := [0]) rfl rfl (Dh Cg rfl (Ap Aa.enc_len (Ao he_3) (o := 0) (m := 11) (by decide) rfl) G3 (cs' := [.int .i64 e_2.Source, .str e_2.Host, .int .i64 e_2.Machine, .int .i64 e_2.Day, .int .i64 e_2.Confidence, .int .i64 e_2.Kind, .str e_2.Subject, .int .i64 e_2.Use.Alg, .int .i64 e_2.Use.Bits, .int .i64 e_2.Number, .str e_2.Text]) (.cons .int (.cons .str (.cons .int (.cons .int (.cons .int (.cons .int (.cons .str (.cons .int (.cons .int (.cons .int (.cons .str .nil))))))))))) (Cm Aa.enc_len (Ao he_3) (o := 0) (x' := e_2) (Nat.le_of_ble_eq_true rfl) rfl rfl)) rfl rfl ?_
   refine Ai fun hU => ?_
   refine Ad (Bo _ _ []) 177 225 hU rfl rfl ?_
   refine Al ?_
   obtain ⟨y_2, hy_2, hg⟩ := Ac hg
   refine Hr [0] [0] [] false (D9 (Cq (Cq data_2 ((a).toNat) e) ((W (a + i_2)).toNat) e_2) 0 i_2 a cmp hf_cmp _ hy_2) ?_
   refine Ai fun hU => ?_
   refine Ad (Bo _ _ []) 225 249 hU rfl rfl ?_
   refine Al ?_
   refine Ai fun hU => ?_
   obtain rfl := oi_ hg
   exact ⟨((W (i_2 - 1), y_2), m2), Nat.lt_succ_self _, hn2, Ba [(0, 0)]⟩
  ·refine Cb ?_
   repeat first | refine Cw ?_ | refine Cz ?_
   replace hg := C3 hg hn2
   obtain rfl := oi_ hg
   exact Bi [(0, 0)] ⟨rfl, rfl⟩
theorem Mj (length : Int) (r : Int) (hg : Ef length = some r) : Fn Try.prog 89 0 [.val (.int .i64 length)] [] (fun d' b' => d' = .val (.int .u64 r) /\ b' = []) := by
 unfold Ef at hg
 refine Fn.of Try.func89 rfl rfl rfl fun w0 I ρ0 => ?_
 show Ci _ ⟨w0, I, ρ0, 0, 0, 7⟩ _ _ _
 refine Bn 0 8 Bg ?_
 refine Al ?_
 refine Ai fun hU => ?_
 refine Bn 8 48 hU ?_
 refine Al ?_
 refine Ca rfl rfl (Vf Zb aX) rfl rfl ?_
 obtain ⟨y, hy, hg⟩ := Ac hg
 refine E5 (Ns _ _ hy) ?_
 obtain ⟨q, hq, hg⟩ := Ac hg
 refine Ca rfl rfl (Xb hq) rfl rfl ?_
 refine Al ?_
 refine Ai fun hU => ?_
 refine Bj ?_
 obtain rfl := oi_ hg
 exact Bi [] ⟨rfl, rfl⟩
theorem M2 (r' : Int) (r : Int × Int) (hg : Ej r' = some r) : Fn Try.prog 90 1 [.ptr 0 0] [.box [.val (.int .u64 r')] 112] (fun d' b' => d' = .val (.int .u64 r.1) /\ b' = [.box [.val (.int .u64 r.2)] 112]) := by
 unfold Ej at hg
 refine Fn.of Try.func90 rfl rfl rfl fun w0 I ρ0 => ?_
 show Ci _ ⟨w0, I, ρ0, 1, 1, 33⟩ _ _ _
 refine Bn 1 9 Bg ?_
 refine Al ?_
 refine Ai fun hU => ?_
 refine Ah ?_
 refine Bv (Bo _ _ []) (by kernel_rfl) [0, 1, 3, 0, 8, 24, 56, 127, 255, 511] 9 89 hU rfl rfl (by kernel_rfl) ?_
 refine Al ?_
 obtain ⟨q, hq, hg⟩ := Ac hg
 refine Ca rfl rfl (Xb hq) rfl rfl ?_
 refine Ca rfl rfl X0 rfl rfl ?_
 refine Al ?_
 refine Ai fun hU => ?_
 refine Ah ?_
 refine Bv (Bo _ _ []) (by kernel_rfl) [0, 1, 3, 0, 8, 24, 56, 127, 255, 511] 89 169 hU rfl rfl (by kernel_rfl) ?_
 refine Al ?_
 obtain ⟨q_2, hq_2, hg⟩ := Ac hg
 refine Ca rfl rfl (Vl hq_2) rfl rfl ?_
 refine Ca rfl rfl X0 rfl rfl ?_
 refine Al ?_
 refine Ai fun hU => ?_
 refine Ah ?_
 refine Bv (Bo _ _ []) (by kernel_rfl) [0, 1, 3, 0, 8, 24, 56, 127, 255, 511] 169 249 hU rfl rfl (by kernel_rfl) ?_
 refine Al ?_
 obtain ⟨q_3, hq_3, hg⟩ := Ac hg
 refine Ca rfl rfl (Xb hq_3) rfl rfl ?_
 refine Ca rfl rfl X0 rfl rfl ?_
 refine Al ?_
 refine Ai fun hU => ?_
 refine Bn 249 281 hU ?_
 refine Al ?_
 refine Ai fun hU => ?_
 refine Bj ?_
 obtain rfl := oi_ hg
 exact Bi [(0, 0)] ⟨rfl, rfl⟩
theorem F3 (data : List Aa) (a : Int) (b : Int) (cmp : Aa -> Aa -> Option (Int)) (hf_cmp : ∀ (x0 : Aa) (x1 : Aa) (y : Int), cmp x0 x1 = some y -> Fn Try.prog 10 0 [.agg (Aa.dv x0), .agg (Aa.dv x1)] [] (fun d' b' => d' = .val (.int .i64 y) /\ b' = [])) (r : (List Aa)) (hg : Av data a b cmp = some r) : Fn Try.prog 72 1 [.row 0, .val (.int .i64 a), .val (.int .i64 b), .clo 10 0 []] [.row 30 11 (Az Aa.enc data)] (fun d' b' => d' = .tup [] /\ b' = [.row 30 11 (Az Aa.enc r)]) := by
 unfold Av at hg
 refine Fn.of Try.func72 rfl rfl rfl fun w0 I ρ0 => ?_
 show Ci _ ⟨w0, I, ρ0, 1, 1, 67⟩ _ _ _
 refine Bn 1 33 Bg ?_
 refine Al ?_
 refine Ai fun hU => ?_
 refine Bn 33 49 hU ?_
 refine Al ?_
 refine Ai fun hU => ?_
 refine C4 rfl hg (fun h3 hg => ?_) fun h3 hg => ?_
 ·refine Ah ?_
  refine Ad (Bo _ _ []) 49 81 hU rfl rfl ?_
  refine Al ?_
  refine Ca rfl rfl (Vf Zb lB) rfl rfl ?_
  refine Al ?_
  refine Ai fun hU => ?_
  refine Bn 81 105 hU ?_
  refine Al ?_
  obtain ⟨y, hy, hg⟩ := Ac hg
  refine E5 (Mj _ _ hy) ?_
  refine Al ?_
  refine Ai fun hU => ?_
  refine Bn 105 161 hU ?_
  refine Al ?_
  obtain ⟨q, hq, hg⟩ := Ac hg
  refine Ca rfl rfl (Qq hq) rfl rfl ?_
  refine Al ?_
  refine Ai fun hU => ?_
  refine A4 ?_
  refine Ll (fun ((idx_1, data_1, random_1) : Int × List Aa × Int) => mk [(0, .row 0), (1, .val (.int .i64 a)), (8, .val (.int .i64 (W (b - a)))), (9, .ptr 1 0), (10, .val (.int .u64 y)), (11, .val (.int .i64 idx_1))] [(0, .row 30 11 (Az Aa.enc data_1)), (1, .box [.val (.int .u64 random_1)] 112)] 2) hg (Ba [(0, 0), (1, 65)]) ?_
  rintro ⟨idx_1, data_1, random_1⟩ m1 o1 hg hn1
  replace hg : Av.l1 a b y idx_1 data_1 random_1 = some o1 := hg
  show Ci _ _ _ _ (mk _ _ _)
  unfold Av.l1 at hg
  refine Ah ?_
  refine Bn 2 66 Bg ?_
  refine Al ?_
  obtain ⟨q_2, hq_2, hg⟩ := Ac hg
  refine Ca rfl rfl (Qq hq_2) rfl rfl ?_
  refine Al ?_
  refine Ai fun hU => ?_
  refine C4 rfl hg (fun h8 hg => ?_) fun h8 hg => ?_
  ·refine Aq ?_
   repeat first | refine Cw ?_ | refine Cz ?_
   refine Ah ?_
   refine A4 ?_
   refine Bn 66 114 hU ?_
   obtain ⟨y_2, hy_2, hg⟩ := Ac hg
   refine Hr [1] [1] [] false (M2 _ _ hy_2) ?_
   refine Al ?_
   refine Ca rfl rfl kV rfl rfl ?_
   refine Ca rfl rfl mD rfl rfl ?_
   refine Ca rfl rfl (Xq aX Zb) rfl rfl ?_
   refine Al ?_
   refine Ai fun hU => ?_
   refine By (ι := Int) (fun (other_2 : Int) => mk [(0, .row 0), (1, .val (.int .i64 a)), (8, .val (.int .i64 (W (b - a)))), (9, .ptr 1 0), (10, .val (.int .u64 y)), (11, .val (.int .i64 idx_1)), (12, .val (.int .i64 other_2))] [(0, .row 30 11 (Az Aa.enc data_1)), (1, .box [.val (.int .u64 y_2.2)] 112)] 2) (fun (other_2 : Int) => Av.j2 a idx_1 data_1 y_2 other_2 = some o1) ?_ ?_
   ·refine Ah ?_
    refine Ad (Bo _ _ []) 114 138 hU rfl rfl ?_
    refine Al ?_
    refine Ai fun hU => ?_
    refine C4 rfl hg (fun h11 hg => ?_) fun h11 hg => ?_
    ·refine Ad (Bo _ _ []) 138 170 hU rfl rfl ?_
     refine Al ?_
     refine Ai fun hU => ?_
     exact ⟨W ((W (Wa .u64 y_2.1 (IntKind.wrap .u64 (y - 1)))) - (W (b - a))), hg, Ba [(0, 0), (1, 1)]⟩
    ·refine Aq ?_
     repeat first | refine Cw ?_ | refine Cz ?_
     exact ⟨W (Wa .u64 y_2.1 (IntKind.wrap .u64 (y - 1))), hg, Ba [(0, 0), (1, 1)]⟩
   ·rintro other_2 hg
    replace hg : Av.j2 a idx_1 data_1 y_2 other_2 = some o1 := hg
    show Ci _ _ _ _ (mk _ _ _)
    unfold Av.j2 at hg
    refine Bv (Bo _ _ []) (by kernel_rfl) [0, 0, 0, 0, 0, 24, 0, 0, 0, 384, 960, 1984, 0, 0, 12288, 28672, 65475, 131011, 262143, 524287] 2 162 Bg rfl rfl (by kernel_rfl) ?_
    refine Al ?_
    obtain ⟨e, he, hg⟩ := Ac hg
    refine Al ?_
    refine Cu (rd := [0]) rfl rfl (Bt Cg (Bd Aa.enc_len (Ao he) (o := 0) (m := 11) (cs := [.int .i64 e.Source, .str e.Host, .int .i64 e.Machine, .int .i64 e.Day, .int .i64 e.Confidence, .int .i64 e.Kind, .str e.Subject, .int .i64 e.Use.Alg, .int .i64 e.Use.Bits, .int .i64 e.Number, .str e.Text]) rfl (by decide) rfl) (Ap Aa.enc_len (Ao he) (o := 0) (m := 11) (by decide) rfl)) rfl rfl ?_
    refine Al ?_
    obtain ⟨e_2, he_2, hg⟩ := Ac hg
    refine Al ?_
    refine Cu (rd := [0]) rfl rfl (Bt Cg (Bd Aa.enc_len (Ao he_2) (o := 0) (m := 11) (cs := [.int .i64 e_2.Source, .str e_2.Host, .int .i64 e_2.Machine, .int .i64 e_2.Day, .int .i64 e_2.Confidence, .int .i64 e_2.Kind, .str e_2.Subject, .int .i64 e_2.Use.Alg, .int .i64 e_2.Use.Bits, .int .i64 e_2.Number, .str e_2.Text]) rfl (by decide) rfl) (Ap Aa.enc_len (Ao he_2) (o := 0) (m := 11) (by decide) rfl)) rfl rfl ?_
    refine Al ?_
    refine Cu (rd := [0]) rfl rfl (Dh Cg rfl (Ap Aa.enc_len (Ao he_2) (o := 0) (m := 11) (by decide) rfl) G3 (cs' := [.int .i64 e.Source, .str e.Host, .int .i64 e.Machine, .int .i64 e.Day, .int .i64 e.Confidence, .int .i64 e.Kind, .str e.Subject, .int .i64 e.Use.Alg, .int .i64 e.Use.Bits, .int .i64 e.Number, .str e.Text]) (.cons .int (.cons .str (.cons .int (.cons .int (.cons .int (.cons .int (.cons .str (.cons .int (.cons .int (.cons .int (.cons .str .nil))))))))))) (Cm Aa.enc_len (Ao he_2) (o := 0) (x' := e) (Nat.le_of_ble_eq_true rfl) rfl rfl)) rfl rfl ?_
    obtain ⟨e_3, he_3, hg⟩ := Ac hg
    refine Al ?_
    refine Cu (rd := [0]) rfl rfl (Dh Cg rfl (Ap Aa.enc_len (Ao he_3) (o := 0) (m := 11) (by decide) rfl) G3 (cs' := [.int .i64 e_2.Source, .str e_2.Host, .int .i64 e_2.Machine, .int .i64 e_2.Day, .int .i64 e_2.Confidence, .int .i64 e_2.Kind, .str e_2.Subject, .int .i64 e_2.Use.Alg, .int .i64 e_2.Use.Bits, .int .i64 e_2.Number, .str e_2.Text]) (.cons .int (.cons .str (.cons .int (.cons .int (.cons .int (.cons .int (.cons .str (.cons .int (.cons .int (.cons .int (.cons .str .nil))))))))))) (Cm Aa.enc_len (Ao he_3) (o := 0) (x' := e_2) (Nat.le_of_ble_eq_true rfl) rfl rfl)) rfl rfl ?_
    refine Ai fun hU => ?_
    refine Ad (Bo _ _ []) 162 186 hU rfl rfl ?_
    refine Al ?_
    refine Ai fun hU => ?_
    obtain rfl := oi_ hg
    exact ⟨((W (idx_1 + 1), Cq (Cq data_1 ((idx_1).toNat) e) ((W (a + other_2)).toNat) e_2, y_2.2), m1), Nat.lt_succ_self _, hn1, Ba [(0, 0), (1, 1)]⟩
  ·refine Cb ?_
   repeat first | refine Cw ?_ | refine Cz ?_
   replace hg := C3 hg hn1
   obtain rfl := oi_ hg
   exact Bi [(0, 0)] ⟨rfl, rfl⟩
 ·refine Aq ?_
  repeat first | refine Cw ?_ | refine Cz ?_
  obtain rfl := oi_ hg
  exact Bi [(0, 0)] ⟨rfl, rfl⟩
theorem Do (data : (List Aa)) (a : Int) (b : Int) (swaps : Int) (cmp : Aa -> Aa -> Option (Int)) (hf_cmp : ∀ (x0 : Aa) (x1 : Aa) (y : Int), cmp x0 x1 = some y -> Fn Try.prog 10 0 [.agg (Aa.dv x0), .agg (Aa.dv x1)] [] (fun d' b' => d' = .val (.int .i64 y) /\ b' = [])) (r : Int × Int × Int) (hg : Cn data a b swaps cmp = some r) : Fn Try.prog 98 1 [.sl 11 (Az Aa.enc data), .val (.int .i64 a), .val (.int .i64 b), .ptr 0 0, .clo 10 0 []] [.box [.val (.int .i64 swaps)] 3] (fun d' b' => d' = .tup [.val (.int .i64 r.1), .val (.int .i64 r.2.1)] /\ b' = [.box [.val (.int .i64 r.2.2)] 3]) := by
 unfold Cn at hg
 refine Fn.of Try.func98 rfl rfl rfl fun w0 I ρ0 => ?_
 show Ci _ ⟨w0, I, ρ0, 1, 1, 32⟩ _ _ _
 refine Bn 1 17 Bg ?_
 refine Al ?_
 refine Ai fun hU => ?_
 refine Ah ?_
 refine Ah ?_
 refine Bv (Bo _ _ []) (by kernel_rfl) [0, 0, 0, 6, 14, 0, 0, 96, 224, 511, 1023] 17 105 hU rfl rfl (by kernel_rfl) ?_
 refine Al ?_
 obtain ⟨e, he, hg⟩ := Ac hg
 refine Al ?_
 refine Ca rfl rfl (Cd Cg (Bd Aa.enc_len (Ao he) (o := 0) (m := 11) (cs := [.int .i64 e.Source, .str e.Host, .int .i64 e.Machine, .int .i64 e.Day, .int .i64 e.Confidence, .int .i64 e.Kind, .str e.Subject, .int .i64 e.Use.Alg, .int .i64 e.Use.Bits, .int .i64 e.Number, .str e.Text]) rfl (by decide) rfl) (Ap Aa.enc_len (Ao he) (o := 0) (m := 11) (by decide) rfl)) rfl rfl ?_
 refine Al ?_
 obtain ⟨e_2, he_2, hg⟩ := Ac hg
 refine Al ?_
 refine Ca rfl rfl (Cd Cg (Bd Aa.enc_len (Ao he_2) (o := 0) (m := 11) (cs := [.int .i64 e_2.Source, .str e_2.Host, .int .i64 e_2.Machine, .int .i64 e_2.Day, .int .i64 e_2.Confidence, .int .i64 e_2.Kind, .str e_2.Subject, .int .i64 e_2.Use.Alg, .int .i64 e_2.Use.Bits, .int .i64 e_2.Number, .str e_2.Text]) rfl (by decide) rfl) (Ap Aa.enc_len (Ao he_2) (o := 0) (m := 11) (by decide) rfl)) rfl rfl ?_
 obtain ⟨y, hy, hg⟩ := Ac hg
 refine Ck (rd := []) (ps := []) (gs := []) false rfl rfl (hf_cmp e e_2 _ hy) rfl rfl (.cons (.agg (.cons .val (.cons .val (.cons .val (.cons .val (.cons .val (.cons .val (.cons .val (.cons .val (.cons .val (.cons .val (.cons .val .nil)))))))))))) (.cons (.agg (.cons .val (.cons .val (.cons .val (.cons .val (.cons .val (.cons .val (.cons .val (.cons .val (.cons .val (.cons .val (.cons .val .nil)))))))))))) .nil)) rfl rfl (by intro h; cases h) rfl rfl rfl rfl ?_
 refine Al ?_
 refine Ai fun hU => ?_
 refine C4 rfl hg (fun h3 hg => ?_) fun h3 hg => ?_
 ·refine Ah ?_
  refine Ad (Bo _ _ []) 105 153 hU rfl rfl ?_
  refine Al ?_
  refine Ai fun hU => ?_
  refine Bn 153 185 hU ?_
  refine Al ?_
  refine Ai fun hU => ?_
  refine Bj ?_
  obtain rfl := oi_ hg
  exact Bi [(0, 0)] ⟨rfl, rfl⟩
 ·refine Aq ?_
  repeat first | refine Cw ?_ | refine Cz ?_
  refine Bn 105 137 hU ?_
  refine Al ?_
  refine Ai fun hU => ?_
  refine Bj ?_
  obtain rfl := oi_ hg
  exact Bi [(0, 0)] ⟨rfl, rfl⟩
theorem Eg (data : (List Aa)) (a : Int) (b : Int) (c : Int) (swaps : Int) (cmp : Aa -> Aa -> Option (Int)) (hf_cmp : ∀ (x0 : Aa) (x1 : Aa) (y : Int), cmp x0 x1 = some y -> Fn Try.prog 10 0 [.agg (Aa.dv x0), .agg (Aa.dv x1)] [] (fun d' b' => d' = .val (.int .i64 y) /\ b' = [])) (r : Int × Int) (hg : C0 data a b c swaps cmp = some r) : Fn Try.prog 92 1 [.sl 11 (Az Aa.enc data), .val (.int .i64 a), .val (.int .i64 b), .val (.int .i64 c), .ptr 0 0, .clo 10 0 []] [.box [.val (.int .i64 swaps)] 3] (fun d' b' => d' = .val (.int .i64 r.1) /\ b' = [.box [.val (.int .i64 r.2)] 3]) := by
 unfold C0 at hg
 refine Fn.of Try.func92 rfl rfl rfl fun w0 I ρ0 => ?_
 show Ci _ ⟨w0, I, ρ0, 1, 1, 41⟩ _ _ _
 refine Bn 1 9 Bg ?_
 refine Al ?_
 refine Ai fun hU => ?_
 refine Bn 9 97 hU ?_
 refine Al ?_
 obtain ⟨y, hy, hg⟩ := Ac hg
 refine Hr [0] [0] [] false (Do data a b swaps cmp hf_cmp _ hy) ?_
 refine Al ?_
 refine Ai fun hU => ?_
 refine Bn 97 185 hU ?_
 refine Al ?_
 obtain ⟨y_2, hy_2, hg⟩ := Ac hg
 refine Hr [0] [0] [] false (Do data y.2.1 c y.2.2 cmp hf_cmp _ hy_2) ?_
 refine Al ?_
 refine Ai fun hU => ?_
 refine Bn 185 273 hU ?_
 refine Al ?_
 obtain ⟨y_3, hy_3, hg⟩ := Ac hg
 refine Hr [0] [0] [] false (Do data y.1 y_2.1 y_2.2.2 cmp hf_cmp _ hy_3) ?_
 refine Al ?_
 refine Ai fun hU => ?_
 refine Bn 273 289 hU ?_
 refine Al ?_
 refine Ai fun hU => ?_
 refine Bj ?_
 obtain rfl := oi_ hg
 exact Bi [(0, 0)] ⟨rfl, rfl⟩
theorem Da (data : (List Aa)) (a : Int) (swaps : Int) (cmp : Aa -> Aa -> Option (Int)) (hf_cmp : ∀ (x0 : Aa) (x1 : Aa) (y : Int), cmp x0 x1 = some y -> Fn Try.prog 10 0 [.agg (Aa.dv x0), .agg (Aa.dv x1)] [] (fun d' b' => d' = .val (.int .i64 y) /\ b' = [])) (r : Int × Int) (hg : B2 data a swaps cmp = some r) : Fn Try.prog 91 1 [.sl 11 (Az Aa.enc data), .val (.int .i64 a), .ptr 0 0, .clo 10 0 []] [.box [.val (.int .i64 swaps)] 3] (fun d' b' => d' = .val (.int .i64 r.1) /\ b' = [.box [.val (.int .i64 r.2)] 3]) := by
 unfold B2 at hg
 refine Fn.of Try.func91 rfl rfl rfl fun w0 I ρ0 => ?_
 show Ci _ ⟨w0, I, ρ0, 1, 1, 18⟩ _ _ _
 refine Bn 1 9 Bg ?_
 refine Al ?_
 refine Ai fun hU => ?_
 refine Bn 9 89 hU ?_
 refine Al ?_
 obtain ⟨y, hy, hg⟩ := Ac hg
 refine Hr [0] [0] [] false (Eg data (W (a - 1)) a (W (a + 1)) swaps cmp hf_cmp _ hy) ?_
 refine Al ?_
 refine Ai fun hU => ?_
 refine Bj ?_
 obtain rfl := oi_ hg
 exact Bi [(0, 0)] ⟨rfl, rfl⟩
theorem Gi (data : (List Aa)) (a : Int) (b : Int) (cmp : Aa -> Aa -> Option (Int)) (hf_cmp : ∀ (x0 : Aa) (x1 : Aa) (y : Int), cmp x0 x1 = some y -> Fn Try.prog 10 0 [.agg (Aa.dv x0), .agg (Aa.dv x1)] [] (fun d' b' => d' = .val (.int .i64 y) /\ b' = [])) (r : Int × Int) (hg : A1 data a b cmp = some r) : Fn Try.prog 73 0 [.sl 11 (Az Aa.enc data), .val (.int .i64 a), .val (.int .i64 b), .clo 10 0 []] [] (fun d' b' => d' = .tup [.val (.int .i64 r.1), .val (.int .i64 r.2)] /\ b' = []) := by
 unfold A1 at hg
 refine Fn.of Try.func73 rfl rfl rfl fun w0 I ρ0 => ?_
 show Ci _ ⟨w0, I, ρ0, 0, 0, 63⟩ _ _ _
 refine Bn 0 16 Bg ?_
 refine Al ?_
 refine Ai fun hU => ?_
 refine Bn 16 48 hU ?_
 refine Al ?_
 refine Ai fun hU => ?_
 refine Bn 48 56 hU ?_
 refine Al ?_
 refine Ai fun hU => ?_
 refine Bn 56 104 hU ?_
 refine Al ?_
 obtain ⟨q, hq, hg⟩ := Ac hg
 refine Ca rfl rfl (Qq hq) rfl rfl ?_
 refine Al ?_
 refine Ai fun hU => ?_
 refine Bn 104 152 hU ?_
 refine Al ?_
 obtain ⟨q_2, hq_2, hg⟩ := Ac hg
 refine Ca rfl rfl (Qq hq_2) rfl rfl ?_
 refine Al ?_
 refine Ai fun hU => ?_
 refine Bn 152 200 hU ?_
 refine Al ?_
 obtain ⟨q_3, hq_3, hg⟩ := Ac hg
 refine Ca rfl rfl (Qq hq_3) rfl rfl ?_
 refine Al ?_
 refine Ai fun hU => ?_
 refine By (ι := Int × Int) (fun ((j_2, swaps_2) : Int × Int) => mk [(11, .ptr 0 0), (13, .val (.int .i64 j_2))] [(0, .box [.val (.int .i64 swaps_2)] 3)] 1) (fun ((j_2, swaps_2) : Int × Int) => A1.j2 j_2 swaps_2 = some r) ?_ ?_
 ·refine Ah ?_
  refine Ad (Bo _ _ []) 200 216 hU rfl rfl ?_
  refine Al ?_
  refine Ai fun hU => ?_
  refine C4 rfl hg (fun h8 hg => ?_) fun h8 hg => ?_
  ·refine By (ι := Int × Int × Int × Int) (fun ((i_1, j_1, k_1, swaps_1) : Int × Int × Int × Int) => mk [(0, .sl 11 (Az Aa.enc data)), (3, .clo 10 0 []), (11, .ptr 0 0), (12, .val (.int .i64 i_1)), (13, .val (.int .i64 j_1)), (14, .val (.int .i64 k_1))] [(0, .box [.val (.int .i64 swaps_1)] 3)] 1) (fun ((i_1, j_1, k_1, swaps_1) : Int × Int × Int × Int) => A1.j1 data cmp i_1 j_1 k_1 swaps_1 = some r) ?_ ?_
   ·refine Ah ?_
    refine Ad (Bo _ _ []) 216 232 hU rfl rfl ?_
    refine Al ?_
    refine Ai fun hU => ?_
    refine C4 rfl hg (fun h10 hg => ?_) fun h10 hg => ?_
    ·refine Ah ?_
     refine Ad (Bo _ _ []) 232 272 hU rfl rfl ?_
     refine Al ?_
     obtain ⟨y, hy, hg⟩ := Ac hg
     refine Hr [48] [48] [] false (Da data (W (a + (W (q * 1)))) 0 cmp hf_cmp _ hy) ?_
     refine Al ?_
     refine Ai fun hU => ?_
     refine Bn 272 312 hU ?_
     refine Al ?_
     obtain ⟨y_2, hy_2, hg⟩ := Ac hg
     refine Hr [48] [48] [] false (Da data (W (a + (W (q_2 * 2)))) y.2 cmp hf_cmp _ hy_2) ?_
     refine Al ?_
     refine Ai fun hU => ?_
     refine Ad (Bo _ _ []) 312 352 hU rfl rfl ?_
     refine Al ?_
     obtain ⟨y_3, hy_3, hg⟩ := Ac hg
     refine Hr [48] [48] [] false (Da data (W (a + (W (q_3 * 3)))) y_2.2 cmp hf_cmp _ hy_3) ?_
     refine Al ?_
     refine Ai fun hU => ?_
     exact ⟨(y.1, y_2.1, y_3.1, y_3.2), hg, Ba [(0, 48)]⟩
    ·refine Aq ?_
     repeat first | refine Cw ?_ | refine Cz ?_
     exact ⟨(W (a + (W (q * 1))), W (a + (W (q_2 * 2))), W (a + (W (q_3 * 3))), 0), hg, Ba [(0, 48)]⟩
   ·rintro ⟨i_1, j_1, k_1, swaps_1⟩ hg
    replace hg : A1.j1 data cmp i_1 j_1 k_1 swaps_1 = some r := hg
    show Ci _ _ _ _ (mk _ _ _)
    unfold A1.j1 at hg
    refine Ad (Bo _ _ []) 1 57 Bg rfl rfl ?_
    refine Al ?_
    obtain ⟨y_4, hy_4, hg⟩ := Ac hg
    refine Hr [0] [0] [] false (Eg data i_1 j_1 k_1 swaps_1 cmp hf_cmp _ hy_4) ?_
    refine Al ?_
    refine Ai fun hU => ?_
    exact ⟨(y_4.1, y_4.2), hg, Ba [(0, 0)]⟩
  ·refine Aq ?_
   repeat first | refine Cw ?_ | refine Cz ?_
   exact ⟨(W (a + (W (q_2 * 2))), 0), hg, Ba [(0, 48)]⟩
 ·rintro ⟨j_2, swaps_2⟩ hg
  replace hg : A1.j2 j_2 swaps_2 = some r := hg
  show Ci _ _ _ _ (mk _ _ _)
  unfold A1.j2 at hg
  refine Bn 1 9 Bg ?_
  refine Al ?_
  refine Ai fun hU => ?_
  refine A4 ?_
  refine Bn 9 25 hU ?_
  refine Al ?_
  refine Ai fun hU => ?_
  refine C4 rfl hg (fun h17 hg => ?_) fun h17 hg => ?_
  ·refine Ah ?_
   refine Ad (Bo _ _ []) 25 49 hU rfl rfl ?_
   refine Al ?_
   refine Ai fun hU => ?_
   refine Bj ?_
   obtain rfl := oi_ hg
   exact Bi [] ⟨rfl, rfl⟩
  ·refine Ah ?_
   refine Ad (Bo _ _ []) 25 41 hU rfl rfl ?_
   refine Al ?_
   refine Ai fun hU => ?_
   refine C4 rfl hg (fun h20 hg => ?_) fun h20 hg => ?_
   ·refine Ah ?_
    refine Ad (Bo _ _ []) 41 65 hU rfl rfl ?_
    refine Al ?_
    refine Ai fun hU => ?_
    refine Bj ?_
    obtain rfl := oi_ hg
    exact Bi [] ⟨rfl, rfl⟩
   ·refine Ah ?_
    refine Ad (Bo _ _ []) 41 65 hU rfl rfl ?_
    refine Al ?_
    refine Ai fun hU => ?_
    refine Bj ?_
    obtain rfl := oi_ hg
    exact Bi [] ⟨rfl, rfl⟩
theorem Gd (data : List Aa) (a : Int) (b : Int) (cmp : Aa -> Aa -> Option (Int)) (hf_cmp : ∀ (x0 : Aa) (x1 : Aa) (y : Int), cmp x0 x1 = some y -> Fn Try.prog 10 0 [.agg (Aa.dv x0), .agg (Aa.dv x1)] [] (fun d' b' => d' = .val (.int .i64 y) /\ b' = [])) (r : (List Aa)) (hg : A9 data a b cmp = some r) : Fn Try.prog 74 1 [.row 0, .val (.int .i64 a), .val (.int .i64 b), .clo 10 0 []] [.row 30 11 (Az Aa.enc data)] (fun d' b' => d' = .tup [] /\ b' = [.row 30 11 (Az Aa.enc r)]) := by
 unfold A9 at hg
 refine Fn.of Try.func74 rfl rfl rfl fun w0 I ρ0 => ?_
 show Ci _ ⟨w0, I, ρ0, 1, 1, 34⟩ _ _ _
 refine Bn 1 17 Bg ?_
 refine Al ?_
 refine Ai fun hU => ?_
 refine Bn 17 41 hU ?_
 refine Al ?_
 refine Ai fun hU => ?_
 refine A4 ?_
 refine Ll (fun ((i_1, j_1, data_1) : Int × Int × List Aa) => mk [(0, .row 0), (8, .val (.int .i64 i_1)), (9, .val (.int .i64 j_1))] [(0, .row 30 11 (Az Aa.enc data_1))] 1) hg (Ba [(0, 0)]) ?_
 rintro ⟨i_1, j_1, data_1⟩ m1 o1 hg hn1
 replace hg : A9.l1 i_1 j_1 data_1 = some o1 := hg
 show Ci _ _ _ _ (mk _ _ _)
 unfold A9.l1 at hg
 refine Ah ?_
 refine Bn 1 25 Bg ?_
 refine Al ?_
 refine Ai fun hU => ?_
 refine C4 rfl hg (fun h4 hg => ?_) fun h4 hg => ?_
 ·refine Aq ?_
  repeat first | refine Cw ?_ | refine Cz ?_
  refine A4 ?_
  refine Ah ?_
  refine Bv (Bo _ _ []) (by kernel_rfl) [0, 0, 0, 0, 0, 0, 48, 112, 0, 0, 768, 1792, 4083, 8179, 16383, 32767] 25 153 hU rfl rfl (by kernel_rfl) ?_
  refine Al ?_
  obtain ⟨e, he, hg⟩ := Ac hg
  refine Al ?_
  refine Cu (rd := [0]) rfl rfl (Bt Cg (Bd Aa.enc_len (Ao he) (o := 0) (m := 11) (cs := [.int .i64 e.Source, .str e.Host, .int .i64 e.Machine, .int .i64 e.Day, .int .i64 e.Confidence, .int .i64 e.Kind, .str e.Subject, .int .i64 e.Use.Alg, .int .i64 e.Use.Bits, .int .i64 e.Number, .str e.Text]) rfl (by decide) rfl) (Ap Aa.enc_len (Ao he) (o := 0) (m := 11) (by decide) rfl)) rfl rfl ?_
  refine Al ?_
  obtain ⟨e_2, he_2, hg⟩ := Ac hg
  refine Al ?_
  refine Cu (rd := [0]) rfl rfl (Bt Cg (Bd Aa.enc_len (Ao he_2) (o := 0) (m := 11) (cs := [.int .i64 e_2.Source, .str e_2.Host, .int .i64 e_2.Machine, .int .i64 e_2.Day, .int .i64 e_2.Confidence, .int .i64 e_2.Kind, .str e_2.Subject, .int .i64 e_2.Use.Alg, .int .i64 e_2.Use.Bits, .int .i64 e_2.Number, .str e_2.Text]) rfl (by decide) rfl) (Ap Aa.enc_len (Ao he_2) (o := 0) (m := 11) (by decide) rfl)) rfl rfl ?_
  refine Al ?_
  refine Cu (rd := [0]) rfl rfl (Dh Cg rfl (Ap Aa.enc_len (Ao he_2) (o := 0) (m := 11) (by decide) rfl) G3 (cs' := [.int .i64 e.Source, .str e.Host, .int .i64 e.Machine, .int .i64 e.Day, .int .i64 e.Confidence, .int .i64 e.Kind, .str e.Subject, .int .i64 e.Use.Alg, .int .i64 e.Use.Bits, .int .i64 e.Number, .str e.Text]) (.cons .int (.cons .str (.cons .int (.cons .int (.cons .int (.cons .int (.cons .str (.cons .int (.cons .int (.cons .int (.cons .str .nil))))))))))) (Cm Aa.enc_len (Ao he_2) (o := 0) (x' := e) (Nat.le_of_ble_eq_true rfl) rfl rfl)) rfl rfl ?_
  obtain ⟨e_3, he_3, hg⟩ := Ac hg
  refine Al ?_
  refine Cu (rd := [0]) rfl rfl (Dh Cg rfl (Ap Aa.enc_len (Ao he_3) (o := 0) (m := 11) (by decide) rfl) G3 (cs' := [.int .i64 e_2.Source, .str e_2.Host, .int .i64 e_2.Machine, .int .i64 e_2.Day, .int .i64 e_2.Confidence, .int .i64 e_2.Kind, .str e_2.Subject, .int .i64 e_2.Use.Alg, .int .i64 e_2.Use.Bits, .int .i64 e_2.Number, .str e_2.Text]) (.cons .int (.cons .str (.cons .int (.cons .int (.cons .int (.cons .int (.cons .str (.cons .int (.cons .int (.cons .int (.cons .str .nil))))))))))) (Cm Aa.enc_len (Ao he_3) (o := 0) (x' := e_2) (Nat.le_of_ble_eq_true rfl) rfl rfl)) rfl rfl ?_
  refine Ai fun hU => ?_
  refine Bn 153 177 hU ?_
  refine Al ?_
  refine Ai fun hU => ?_
  refine Ad (Bo _ _ []) 177 201 hU rfl rfl ?_
  refine Al ?_
  refine Ai fun hU => ?_
  obtain rfl := oi_ hg
  exact ⟨((W (i_1 + 1), W (j_1 - 1), Cq (Cq data_1 ((i_1).toNat) e) ((j_1).toNat) e_2), m1), Nat.lt_succ_self _, hn1, Ba [(0, 0)]⟩
 ·refine Cb ?_
  repeat first | refine Cw ?_ | refine Cz ?_
  replace hg := C3 hg hn1
  obtain rfl := oi_ hg
  exact Bi [(0, 0)] ⟨rfl, rfl⟩
theorem E4 (data : List Aa) (a : Int) (b : Int) (cmp : Aa -> Aa -> Option (Int)) (hf_cmp : ∀ (x0 : Aa) (x1 : Aa) (y : Int), cmp x0 x1 = some y -> Fn Try.prog 10 0 [.agg (Aa.dv x0), .agg (Aa.dv x1)] [] (fun d' b' => d' = .val (.int .i64 y) /\ b' = [])) (r : Bool × (List Aa)) (hg : Ab data a b cmp = some r) : Fn Try.prog 75 1 [.row 0, .val (.int .i64 a), .val (.int .i64 b), .clo 10 0 []] [.row 30 11 (Az Aa.enc data)] (fun d' b' => d' = .val (.bool r.1) /\ b' = [.row 30 11 (Az Aa.enc r.2)]) := by
 unfold Ab at hg
 refine Fn.of Try.func75 rfl rfl rfl fun w0 I ρ0 => ?_
 show Ci _ ⟨w0, I, ρ0, 1, 1, 141⟩ _ _ _
 refine Bn 1 9 Bg ?_
 refine Al ?_
 refine Ai fun hU => ?_
 refine Bn 9 33 hU ?_
 refine Al ?_
 refine Ai fun hU => ?_
 refine Ah ?_
 refine Bn 33 41 hU ?_
 refine Al ?_
 refine Ai fun hU => ?_
 refine A4 ?_
 refine Ll (fun ((i_1, j_1, data_1) : Int × Int × List Aa) => mk [(0, .row 0), (1, .val (.int .i64 a)), (2, .val (.int .i64 b)), (3, .clo 10 0 []), (9, .val (.int .i64 i_1)), (10, .val (.int .i64 j_1))] [(0, .row 30 11 (Az Aa.enc data_1))] 1) hg (Ba [(0, 0)]) ?_
 rintro ⟨i_1, j_1, data_1⟩ m1 o1 hg hn1
 replace hg : Ab.l1 a b cmp i_1 j_1 data_1 = some o1 := hg
 show Ci _ _ _ _ (mk _ _ _)
 unfold Ab.l1 at hg
 refine Ah ?_
 refine Bn 1 17 Bg ?_
 refine Al ?_
 refine Ai fun hU => ?_
 refine C4 rfl hg (fun h5 hg => ?_) fun h5 hg => ?_
 ·refine Aq ?_
  repeat first | refine Cw ?_ | refine Cz ?_
  refine By (ι := Int × List Aa) (fun ((i_7, data_7) : Int × List Aa) => mk [(0, .row 0), (1, .val (.int .i64 a)), (2, .val (.int .i64 b)), (3, .clo 10 0 []), (9, .val (.int .i64 i_7)), (10, .val (.int .i64 j_1))] [(0, .row 30 11 (Az Aa.enc data_7))] 1) (fun ((i_7, data_7) : Int × List Aa) => Ab.j7 j_1 i_7 data_7 = some o1) ?_ ?_
  ·refine A4 ?_
   refine Ah ?_
   refine A4 ?_
   refine Ll (fun (i_2 : Int) => mk [(0, .row 0), (1, .val (.int .i64 a)), (2, .val (.int .i64 b)), (3, .clo 10 0 []), (9, .val (.int .i64 i_2)), (10, .val (.int .i64 j_1))] [(0, .row 30 11 (Az Aa.enc data_1))] 1) hg (Ba [(0, 0)]) ?_
   rintro i_2 m2 o2 hg hn2
   replace hg : Ab.l2 a b cmp j_1 data_1 i_2 = some o2 := hg
   show Ci _ _ _ _ (mk _ _ _)
   unfold Ab.l2 at hg
   refine Ah ?_
   refine By (ι := Bool) (fun (x36_3 : Bool) => mk [(0, .row 0), (1, .val (.int .i64 a)), (2, .val (.int .i64 b)), (3, .clo 10 0 []), (9, .val (.int .i64 i_2)), (10, .val (.int .i64 j_1)), (36, .val (.bool x36_3))] [(0, .row 30 11 (Az Aa.enc data_1))] 1) (fun (x36_3 : Bool) => Ab.j3 a b cmp j_1 data_1 i_2 x36_3 = some o2) ?_ ?_
   ·refine Bv (Bo _ _ []) (by kernel_rfl) [0, 0, 3, 7, 15, 15, 15, 111, 239, 15, 15, 1039, 3599, 7695, 16383, 32767, 65535, 131071] 1 145 Bg rfl rfl (by kernel_rfl) ?_
    refine Al ?_
    rcases Ea hg with ⟨h6, hg⟩ | ⟨h6, hg⟩
    ·refine Al ?_
     obtain ⟨e, he, hg⟩ := Ac hg
     refine Al ?_
     refine Cu (rd := [0]) (B7 rfl rfl h6) rfl (Bt Cg (Bd Aa.enc_len (Ao he) (o := 0) (m := 11) (cs := [.int .i64 e.Source, .str e.Host, .int .i64 e.Machine, .int .i64 e.Day, .int .i64 e.Confidence, .int .i64 e.Kind, .str e.Subject, .int .i64 e.Use.Alg, .int .i64 e.Use.Bits, .int .i64 e.Number, .str e.Text]) rfl (by decide) rfl) (Ap Aa.enc_len (Ao he) (o := 0) (m := 11) (by decide) rfl)) rfl rfl ?_
     refine Al ?_
     obtain ⟨e_2, he_2, hg⟩ := Ac hg
     refine Al ?_
     refine Cu (rd := [0]) (B7 rfl rfl h6) rfl (Bt Cg (Bd Aa.enc_len (Ao he_2) (o := 0) (m := 11) (cs := [.int .i64 e_2.Source, .str e_2.Host, .int .i64 e_2.Machine, .int .i64 e_2.Day, .int .i64 e_2.Confidence, .int .i64 e_2.Kind, .str e_2.Subject, .int .i64 e_2.Use.Alg, .int .i64 e_2.Use.Bits, .int .i64 e_2.Number, .str e_2.Text]) rfl (by decide) rfl) (Ap Aa.enc_len (Ao he_2) (o := 0) (m := 11) (by decide) rfl)) rfl rfl ?_
     obtain ⟨y, hy, hg⟩ := Ac hg
     refine Ck (rd := []) (ps := []) (gs := []) false (B7 rfl rfl h6) rfl (hf_cmp e e_2 _ hy) rfl rfl (.cons (.agg (.cons .val (.cons .val (.cons .val (.cons .val (.cons .val (.cons .val (.cons .val (.cons .val (.cons .val (.cons .val (.cons .val .nil)))))))))))) (.cons (.agg (.cons .val (.cons .val (.cons .val (.cons .val (.cons .val (.cons .val (.cons .val (.cons .val (.cons .val (.cons .val (.cons .val .nil)))))))))))) .nil)) rfl rfl (by intro h; cases h) rfl rfl rfl rfl ?_
     refine Al ?_
     refine Ai fun hU => ?_
     exact ⟨!(decide (y < 0)), hg, Ba [(0, 0)]⟩
    ·refine Al ?_
     refine Ai fun hU => ?_
     exact ⟨false, hg, Ba [(0, 0)]⟩
   ·rintro x36_3 hg
    replace hg : Ab.j3 a b cmp j_1 data_1 i_2 x36_3 = some o2 := hg
    show Ci _ _ _ _ (mk _ _ _)
    unfold Ab.j3 at hg
    refine C4 rfl hg (fun h9 hg => ?_) fun h9 hg => ?_
    ·refine Aq ?_
     repeat first | refine Cw ?_ | refine Cz ?_
     refine A4 ?_
     refine Ad (Bo _ _ []) 1 25 Bg rfl rfl ?_
     refine Al ?_
     refine Ai fun hU => ?_
     obtain rfl := oi_ hg
     exact ⟨(W (i_2 + 1), m2), Nat.lt_succ_self _, hn2, Ba [(0, 0)]⟩
    ·refine Cb ?_
     repeat first | refine Cw ?_ | refine Cz ?_
     replace hg := C3 hg hn2
     refine Ah ?_
     refine Bn 1 25 Bg ?_
     refine Al ?_
     refine Ai fun hU => ?_
     refine C4 rfl hg (fun h12 hg => ?_) fun h12 hg => ?_
     ·refine Ah ?_
      refine Ad (Bo _ _ []) 25 33 hU rfl rfl ?_
      refine Al ?_
      refine Ai fun hU => ?_
      refine Bj ?_
      replace hg := C3 hg hn1
      obtain rfl := oi_ hg
      exact Bi [(0, 0)] ⟨rfl, rfl⟩
     ·refine Aq ?_
      repeat first | refine Cw ?_ | refine Cz ?_
      refine Ah ?_
      refine Bn 25 57 hU ?_
      refine Al ?_
      refine Ai fun hU => ?_
      refine C4 rfl hg (fun h15 hg => ?_) fun h15 hg => ?_
      ·refine Ah ?_
       refine Ad (Bo _ _ []) 57 65 hU rfl rfl ?_
       refine Al ?_
       refine Ai fun hU => ?_
       refine Bj ?_
       replace hg := C3 hg hn1
       obtain rfl := oi_ hg
       exact Bi [(0, 0)] ⟨rfl, rfl⟩
      ·refine Aq ?_
       repeat first | refine Cw ?_ | refine Cz ?_
       refine Ah ?_
       refine Bv (Bo _ _ []) (by kernel_rfl) [0, 0, 0, 0, 8, 0, 0, 64, 224, 480, 0, 0, 3072, 7168, 16355, 32739, 65535, 131071] 57 201 hU rfl rfl (by kernel_rfl) ?_
       refine Al ?_
       obtain ⟨e_3, he_3, hg⟩ := Ac hg
       refine Al ?_
       refine Cu (rd := [0]) rfl rfl (Bt Cg (Bd Aa.enc_len (Ao he_3) (o := 0) (m := 11) (cs := [.int .i64 e_3.Source, .str e_3.Host, .int .i64 e_3.Machine, .int .i64 e_3.Day, .int .i64 e_3.Confidence, .int .i64 e_3.Kind, .str e_3.Subject, .int .i64 e_3.Use.Alg, .int .i64 e_3.Use.Bits, .int .i64 e_3.Number, .str e_3.Text]) rfl (by decide) rfl) (Ap Aa.enc_len (Ao he_3) (o := 0) (m := 11) (by decide) rfl)) rfl rfl ?_
       refine Al ?_
       obtain ⟨e_4, he_4, hg⟩ := Ac hg
       refine Al ?_
       refine Cu (rd := [0]) rfl rfl (Bt Cg (Bd Aa.enc_len (Ao he_4) (o := 0) (m := 11) (cs := [.int .i64 e_4.Source, .str e_4.Host, .int .i64 e_4.Machine, .int .i64 e_4.Day, .int .i64 e_4.Confidence, .int .i64 e_4.Kind, .str e_4.Subject, .int .i64 e_4.Use.Alg, .int .i64 e_4.Use.Bits, .int .i64 e_4.Number, .str e_4.Text]) rfl (by decide) rfl) (Ap Aa.enc_len (Ao he_4) (o := 0) (m := 11) (by decide) rfl)) rfl rfl ?_
       refine Al ?_
       refine Cu (rd := [0]) rfl rfl (Dh Cg rfl (Ap Aa.enc_len (Ao he_4) (o := 0) (m := 11) (by decide) rfl) G3 (cs' := [.int .i64 e_3.Source, .str e_3.Host, .int .i64 e_3.Machine, .int .i64 e_3.Day, .int .i64 e_3.Confidence, .int .i64 e_3.Kind, .str e_3.Subject, .int .i64 e_3.Use.Alg, .int .i64 e_3.Use.Bits, .int .i64 e_3.Number, .str e_3.Text]) (.cons .int (.cons .str (.cons .int (.cons .int (.cons .int (.cons .int (.cons .str (.cons .int (.cons .int (.cons .int (.cons .str .nil))))))))))) (Cm Aa.enc_len (Ao he_4) (o := 0) (x' := e_3) (Nat.le_of_ble_eq_true rfl) rfl rfl)) rfl rfl ?_
       obtain ⟨e_5, he_5, hg⟩ := Ac hg
       refine Al ?_
       refine Cu (rd := [0]) rfl rfl (Dh Cg rfl (Ap Aa.enc_len (Ao he_5) (o := 0) (m := 11) (by decide) rfl) G3 (cs' := [.int .i64 e_4.Source, .str e_4.Host, .int .i64 e_4.Machine, .int .i64 e_4.Day, .int .i64 e_4.Confidence, .int .i64 e_4.Kind, .str e_4.Subject, .int .i64 e_4.Use.Alg, .int .i64 e_4.Use.Bits, .int .i64 e_4.Number, .str e_4.Text]) (.cons .int (.cons .str (.cons .int (.cons .int (.cons .int (.cons .int (.cons .str (.cons .int (.cons .int (.cons .int (.cons .str .nil))))))))))) (Cm Aa.enc_len (Ao he_5) (o := 0) (x' := e_4) (Nat.le_of_ble_eq_true rfl) rfl rfl)) rfl rfl ?_
       refine Ai fun hU => ?_
       refine By (ι := List Aa) (fun (data_5 : List Aa) => mk [(0, .row 0), (1, .val (.int .i64 a)), (2, .val (.int .i64 b)), (3, .clo 10 0 []), (9, .val (.int .i64 i_2)), (10, .val (.int .i64 j_1))] [(0, .row 30 11 (Az Aa.enc data_5))] 1) (fun (data_5 : List Aa) => Ab.j5 b cmp j_1 i_2 data_5 = some o1) ?_ ?_
       ·refine Ah ?_
        refine Ad (Bo _ _ []) 201 233 hU rfl rfl ?_
        refine Al ?_
        refine Ai fun hU => ?_
        refine C4 rfl hg (fun h19 hg => ?_) fun h19 hg => ?_
        ·refine Ah ?_
         refine Ad (Bo _ _ []) 233 257 hU rfl rfl ?_
         refine Al ?_
         refine Ai fun hU => ?_
         refine A4 ?_
         refine Ll (fun ((j_4, data_4) : Int × List Aa) => mk [(0, .row 0), (1, .val (.int .i64 a)), (2, .val (.int .i64 b)), (3, .clo 10 0 []), (9, .val (.int .i64 i_2)), (10, .val (.int .i64 j_1)), (11, .val (.int .i64 j_4))] [(0, .row 30 11 (Az Aa.enc data_4))] 1) hg (Ba [(0, 0)]) ?_
         rintro ⟨j_4, data_4⟩ m4 o4 hg hn4
         replace hg : Ab.l4 b cmp j_1 i_2 j_4 data_4 = some o4 := hg
         show Ci _ _ _ _ (mk _ _ _)
         unfold Ab.l4 at hg
         refine Ah ?_
         refine Bn 1 17 Bg ?_
         refine Al ?_
         refine Ai fun hU => ?_
         refine C4 rfl hg (fun h22 hg => ?_) fun h22 hg => ?_
         ·refine Aq ?_
          repeat first | refine Cw ?_ | refine Cz ?_
          refine Ah ?_
          refine A4 ?_
          refine Ah ?_
          refine Ah ?_
          refine Bv (Bo _ _ []) (by kernel_rfl) [0, 0, 0, 6, 14, 0, 0, 64, 224, 480, 1023, 2047, 4095] 17 121 hU rfl rfl (by kernel_rfl) ?_
          refine Al ?_
          obtain ⟨e_6, he_6, hg⟩ := Ac hg
          refine Al ?_
          refine Cu (rd := [0]) rfl rfl (Bt Cg (Bd Aa.enc_len (Ao he_6) (o := 0) (m := 11) (cs := [.int .i64 e_6.Source, .str e_6.Host, .int .i64 e_6.Machine, .int .i64 e_6.Day, .int .i64 e_6.Confidence, .int .i64 e_6.Kind, .str e_6.Subject, .int .i64 e_6.Use.Alg, .int .i64 e_6.Use.Bits, .int .i64 e_6.Number, .str e_6.Text]) rfl (by decide) rfl) (Ap Aa.enc_len (Ao he_6) (o := 0) (m := 11) (by decide) rfl)) rfl rfl ?_
          refine Al ?_
          obtain ⟨e_7, he_7, hg⟩ := Ac hg
          refine Al ?_
          refine Cu (rd := [0]) rfl rfl (Bt Cg (Bd Aa.enc_len (Ao he_7) (o := 0) (m := 11) (cs := [.int .i64 e_7.Source, .str e_7.Host, .int .i64 e_7.Machine, .int .i64 e_7.Day, .int .i64 e_7.Confidence, .int .i64 e_7.Kind, .str e_7.Subject, .int .i64 e_7.Use.Alg, .int .i64 e_7.Use.Bits, .int .i64 e_7.Number, .str e_7.Text]) rfl (by decide) rfl) (Ap Aa.enc_len (Ao he_7) (o := 0) (m := 11) (by decide) rfl)) rfl rfl ?_
          obtain ⟨y_2, hy_2, hg⟩ := Ac hg
          refine Ck (rd := []) (ps := []) (gs := []) false rfl rfl (hf_cmp e_6 e_7 _ hy_2) rfl rfl (.cons (.agg (.cons .val (.cons .val (.cons .val (.cons .val (.cons .val (.cons .val (.cons .val (.cons .val (.cons .val (.cons .val (.cons .val .nil)))))))))))) (.cons (.agg (.cons .val (.cons .val (.cons .val (.cons .val (.cons .val (.cons .val (.cons .val (.cons .val (.cons .val (.cons .val (.cons .val .nil)))))))))))) .nil)) rfl rfl (by intro h; cases h) rfl rfl rfl rfl ?_
          refine Al ?_
          refine Ai fun hU => ?_
          refine C4 rfl hg (fun h24 hg => ?_) fun h24 hg => ?_
          ·refine Cb ?_
           repeat first | refine Cw ?_ | refine Cz ?_
           replace hg := C3 hg hn4
           exact ⟨data_4, hg, Ba [(0, 0)]⟩
          ·refine Aq ?_
           repeat first | refine Cw ?_ | refine Cz ?_
           refine Bv (Bo _ _ []) (by kernel_rfl) [0, 0, 0, 0, 8, 0, 0, 64, 224, 480, 0, 0, 3072, 7168, 16355, 32739, 65535, 131071] 121 265 hU rfl rfl (by kernel_rfl) ?_
           refine Al ?_
           refine Cu (rd := [0]) rfl rfl (Bt Cg (Bd Aa.enc_len (Ao he_7) (o := 0) (m := 11) (cs := [.int .i64 e_7.Source, .str e_7.Host, .int .i64 e_7.Machine, .int .i64 e_7.Day, .int .i64 e_7.Confidence, .int .i64 e_7.Kind, .str e_7.Subject, .int .i64 e_7.Use.Alg, .int .i64 e_7.Use.Bits, .int .i64 e_7.Number, .str e_7.Text]) rfl (by decide) rfl) (Ap Aa.enc_len (Ao he_7) (o := 0) (m := 11) (by decide) rfl)) rfl rfl ?_
           refine Al ?_
           refine Cu (rd := [0]) rfl rfl (Bt Cg (Bd Aa.enc_len (Ao he_6) (o := 0) (m := 11) (cs := [.int .i64 e_6.Source, .str e_6.Host, .int .i64 e_6.Machine, .int .i64 e_6.Day, .int .i64 e_6.Confidence, .int .i64 e_6.Kind, .str e_6.Subject, .int .i64 e_6.Use.Alg, .int .i64 e_6.Use.Bits, .int .i64 e_6.Number, .str e_6.Text]) rfl (by decide) rfl) (Ap Aa.enc_len (Ao he_6) (o := 0) (m := 11) (by decide) rfl)) rfl rfl ?_
           refine Al ?_
           refine Cu (rd := [0]) rfl rfl (Dh Cg rfl (Ap Aa.enc_len (Ao he_6) (o := 0) (m := 11) (by decide) rfl) G3 (cs' := [.int .i64 e_7.Source, .str e_7.Host, .int .i64 e_7.Machine, .int .i64 e_7.Day, .int .i64 e_7.Confidence, .int .i64 e_7.Kind, .str e_7.Subject, .int .i64 e_7.Use.Alg, .int .i64 e_7.Use.Bits, .int .i64 e_7.Number, .str e_7.Text]) (.cons .int (.cons .str (.cons .int (.cons .int (.cons .int (.cons .int (.cons .str (.cons .int (.cons .int (.cons .int (.cons .str .nil))))))))))) (Cm Aa.enc_len (Ao he_6) (o := 0) (x' := e_7) (Nat.le_of_ble_eq_true rfl) rfl rfl)) rfl rfl ?_
           obtain ⟨e_8, he_8, hg⟩ := Ac hg
           refine Al ?_
           refine Cu (rd := [0]) rfl rfl (Dh Cg rfl (Ap Aa.enc_len (Ao he_8) (o := 0) (m := 11) (by decide) rfl) G3 (cs' := [.int .i64 e_6.Source, .str e_6.Host, .int .i64 e_6.Machine, .int .i64 e_6.Day, .int .i64 e_6.Confidence, .int .i64 e_6.Kind, .str e_6.Subject, .int .i64 e_6.Use.Alg, .int .i64 e_6.Use.Bits, .int .i64 e_6.Number, .str e_6.Text]) (.cons .int (.cons .str (.cons .int (.cons .int (.cons .int (.cons .int (.cons .str (.cons .int (.cons .int (.cons .int (.cons .str .nil))))))))))) (Cm Aa.enc_len (Ao he_8) (o := 0) (x' := e_6) (Nat.le_of_ble_eq_true rfl) rfl rfl)) rfl rfl ?_
           refine Ai fun hU => ?_
           refine Ad (Bo _ _ []) 265 289 hU rfl rfl ?_
           refine Al ?_
           refine Ai fun hU => ?_
           obtain rfl := oi_ hg
           exact ⟨((W (j_4 - 1), Cq (Cq data_4 ((j_4).toNat) e_7) ((W (j_4 - 1)).toNat) e_6), m4), Nat.lt_succ_self _, hn4, Ba [(0, 0)]⟩
         ·refine Cb ?_
          repeat first | refine Cw ?_ | refine Cz ?_
          replace hg := C3 hg hn4
          exact ⟨data_4, hg, Ba [(0, 0)]⟩
        ·refine Aq ?_
         repeat first | refine Cw ?_ | refine Cz ?_
         exact ⟨Cq (Cq data_1 ((i_2).toNat) e_3) ((W (i_2 - 1)).toNat) e_4, hg, Ba [(0, 0)]⟩
       ·rintro data_5 hg
        replace hg : Ab.j5 b cmp j_1 i_2 data_5 = some o1 := hg
        show Ci _ _ _ _ (mk _ _ _)
        unfold Ab.j5 at hg
        refine Bn 1 33 Bg ?_
        refine Al ?_
        refine Ai fun hU => ?_
        refine C4 rfl hg (fun h28 hg => ?_) fun h28 hg => ?_
        ·refine Ah ?_
         refine Ad (Bo _ _ []) 33 57 hU rfl rfl ?_
         refine Al ?_
         refine Ai fun hU => ?_
         refine A4 ?_
         refine Ll (fun ((j_6, data_6) : Int × List Aa) => mk [(0, .row 0), (1, .val (.int .i64 a)), (2, .val (.int .i64 b)), (3, .clo 10 0 []), (9, .val (.int .i64 i_2)), (10, .val (.int .i64 j_1)), (12, .val (.int .i64 j_6))] [(0, .row 30 11 (Az Aa.enc data_6))] 1) hg (Ba [(0, 0)]) ?_
         rintro ⟨j_6, data_6⟩ m6 o6 hg hn6
         replace hg : Ab.l6 b cmp j_1 i_2 j_6 data_6 = some o6 := hg
         show Ci _ _ _ _ (mk _ _ _)
         unfold Ab.l6 at hg
         refine Ah ?_
         refine Bn 1 25 Bg ?_
         refine Al ?_
         refine Ai fun hU => ?_
         refine C4 rfl hg (fun h31 hg => ?_) fun h31 hg => ?_
         ·refine Aq ?_
          repeat first | refine Cw ?_ | refine Cz ?_
          refine Ah ?_
          refine A4 ?_
          refine Ah ?_
          refine Ah ?_
          refine Bv (Bo _ _ []) (by kernel_rfl) [0, 0, 0, 6, 14, 0, 0, 64, 224, 480, 1023, 2047, 4095] 25 129 hU rfl rfl (by kernel_rfl) ?_
          refine Al ?_
          obtain ⟨e_9, he_9, hg⟩ := Ac hg
          refine Al ?_
          refine Cu (rd := [0]) rfl rfl (Bt Cg (Bd Aa.enc_len (Ao he_9) (o := 0) (m := 11) (cs := [.int .i64 e_9.Source, .str e_9.Host, .int .i64 e_9.Machine, .int .i64 e_9.Day, .int .i64 e_9.Confidence, .int .i64 e_9.Kind, .str e_9.Subject, .int .i64 e_9.Use.Alg, .int .i64 e_9.Use.Bits, .int .i64 e_9.Number, .str e_9.Text]) rfl (by decide) rfl) (Ap Aa.enc_len (Ao he_9) (o := 0) (m := 11) (by decide) rfl)) rfl rfl ?_
          refine Al ?_
          obtain ⟨e_10, he_10, hg⟩ := Ac hg
          refine Al ?_
          refine Cu (rd := [0]) rfl rfl (Bt Cg (Bd Aa.enc_len (Ao he_10) (o := 0) (m := 11) (cs := [.int .i64 e_10.Source, .str e_10.Host, .int .i64 e_10.Machine, .int .i64 e_10.Day, .int .i64 e_10.Confidence, .int .i64 e_10.Kind, .str e_10.Subject, .int .i64 e_10.Use.Alg, .int .i64 e_10.Use.Bits, .int .i64 e_10.Number, .str e_10.Text]) rfl (by decide) rfl) (Ap Aa.enc_len (Ao he_10) (o := 0) (m := 11) (by decide) rfl)) rfl rfl ?_
          obtain ⟨y_3, hy_3, hg⟩ := Ac hg
          refine Ck (rd := []) (ps := []) (gs := []) false rfl rfl (hf_cmp e_9 e_10 _ hy_3) rfl rfl (.cons (.agg (.cons .val (.cons .val (.cons .val (.cons .val (.cons .val (.cons .val (.cons .val (.cons .val (.cons .val (.cons .val (.cons .val .nil)))))))))))) (.cons (.agg (.cons .val (.cons .val (.cons .val (.cons .val (.cons .val (.cons .val (.cons .val (.cons .val (.cons .val (.cons .val (.cons .val .nil)))))))))))) .nil)) rfl rfl (by intro h; cases h) rfl rfl rfl rfl ?_
          refine Al ?_
          refine Ai fun hU => ?_
          refine C4 rfl hg (fun h33 hg => ?_) fun h33 hg => ?_
          ·refine Cb ?_
           repeat first | refine Cw ?_ | refine Cz ?_
           replace hg := C3 hg hn6
           exact ⟨(i_2, data_6), hg, Ba [(0, 0)]⟩
          ·refine Aq ?_
           repeat first | refine Cw ?_ | refine Cz ?_
           refine Bv (Bo _ _ []) (by kernel_rfl) [0, 0, 0, 0, 8, 0, 0, 64, 224, 480, 0, 0, 3072, 7168, 16355, 32739, 65535, 131071] 129 273 hU rfl rfl (by kernel_rfl) ?_
           refine Al ?_
           refine Cu (rd := [0]) rfl rfl (Bt Cg (Bd Aa.enc_len (Ao he_10) (o := 0) (m := 11) (cs := [.int .i64 e_10.Source, .str e_10.Host, .int .i64 e_10.Machine, .int .i64 e_10.Day, .int .i64 e_10.Confidence, .int .i64 e_10.Kind, .str e_10.Subject, .int .i64 e_10.Use.Alg, .int .i64 e_10.Use.Bits, .int .i64 e_10.Number, .str e_10.Text]) rfl (by decide) rfl) (Ap Aa.enc_len (Ao he_10) (o := 0) (m := 11) (by decide) rfl)) rfl rfl ?_
           refine Al ?_
           refine Cu (rd := [0]) rfl rfl (Bt Cg (Bd Aa.enc_len (Ao he_9) (o := 0) (m := 11) (cs := [.int .i64 e_9.Source, .str e_9.Host, .int .i64 e_9.Machine, .int .i64 e_9.Day, .int .i64 e_9.Confidence, .int .i64 e_9.Kind, .str e_9.Subject, .int .i64 e_9.Use.Alg, .int .i64 e_9.Use.Bits, .int .i64 e_9.Number, .str e_9.Text]) rfl (by decide) rfl) (Ap Aa.enc_len (Ao he_9) (o := 0) (m := 11) (by decide) rfl)) rfl rfl ?_
           refine Al ?_
           refine Cu (rd := [0]) rfl rfl (Dh Cg rfl (Ap Aa.enc_len (Ao he_9) (o := 0) (m := 11) (by decide) rfl) G3 (cs' := [.int .i64 e_10.Source, .str e_10.Host, .int .i64 e_10.Machine, .int .i64 e_10.Day, .int .i64 e_10.Confidence, .int .i64 e_10.Kind, .str e_10.Subject, .int .i64 e_10.Use.Alg, .int .i64 e_10.Use.Bits, .int .i64 e_10.Number, .str e_10.Text]) (.cons .int (.cons .str (.cons .int (.cons .int (.cons .int (.cons .int (.cons .str (.cons .int (.cons .int (.cons .int (.cons .str .nil))))))))))) (Cm Aa.enc_len (Ao he_9) (o := 0) (x' := e_10) (Nat.le_of_ble_eq_true rfl) rfl rfl)) rfl rfl ?_
           obtain ⟨e_11, he_11, hg⟩ := Ac hg
           refine Al ?_
           refine Cu (rd := [0]) rfl rfl (Dh Cg rfl (Ap Aa.enc_len (Ao he_11) (o := 0) (m := 11) (by decide) rfl) G3 (cs' := [.int .i64 e_9.Source, .str e_9.Host, .int .i64 e_9.Machine, .int .i64 e_9.Day, .int .i64 e_9.Confidence, .int .i64 e_9.Kind, .str e_9.Subject, .int .i64 e_9.Use.Alg, .int .i64 e_9.Use.Bits, .int .i64 e_9.Number, .str e_9.Text]) (.cons .int (.cons .str (.cons .int (.cons .int (.cons .int (.cons .int (.cons .str (.cons .int (.cons .int (.cons .int (.cons .str .nil))))))))))) (Cm Aa.enc_len (Ao he_11) (o := 0) (x' := e_9) (Nat.le_of_ble_eq_true rfl) rfl rfl)) rfl rfl ?_
           refine Ai fun hU => ?_
           refine Ad (Bo _ _ []) 273 297 hU rfl rfl ?_
           refine Al ?_
           refine Ai fun hU => ?_
           obtain rfl := oi_ hg
           exact ⟨((W (j_6 + 1), Cq (Cq data_6 ((j_6).toNat) e_10) ((W (j_6 - 1)).toNat) e_9), m6), Nat.lt_succ_self _, hn6, Ba [(0, 0)]⟩
         ·refine Cb ?_
          repeat first | refine Cw ?_ | refine Cz ?_
          replace hg := C3 hg hn6
          exact ⟨(i_2, data_6), hg, Ba [(0, 0)]⟩
        ·refine Aq ?_
         repeat first | refine Cw ?_ | refine Cz ?_
         exact ⟨(i_2, data_5), hg, Ba [(0, 0)]⟩
  ·rintro ⟨i_7, data_7⟩ hg
   replace hg : Ab.j7 j_1 i_7 data_7 = some o1 := hg
   show Ci _ _ _ _ (mk _ _ _)
   unfold Ab.j7 at hg
   refine Ad (Bo _ _ []) 1 25 Bg rfl rfl ?_
   refine Al ?_
   refine Ai fun hU => ?_
   obtain rfl := oi_ hg
   exact ⟨((i_7, W (j_1 + 1), data_7), m1), Nat.lt_succ_self _, hn1, Ba [(0, 0)]⟩
 ·refine Cb ?_
  repeat first | refine Cw ?_ | refine Cz ?_
  replace hg := C3 hg hn1
  refine Bn 17 25 hU ?_
  refine Al ?_
  refine Ai fun hU => ?_
  refine Bj ?_
  obtain rfl := oi_ hg
  exact Bi [(0, 0)] ⟨rfl, rfl⟩
end Go.Proofs.Ytjomajedgbcngaa
