import Derived.Test.YtjomajedgbcngaaT1
import Derived.Test.YtjomajedgbcngaaA2
import Derived.Test.YtjomajedgbcngaaA3
import Derived.Test.YtjomajedgbcngaaA4
set_option linter.unusedVariables false
set_option linter.unusedSimpArgs false
set_option maxRecDepth 100000
set_option maxHeartbeats 1600000
namespace Go.Proofs.Ytjomajedgbcngaa
open Go.RowKit
theorem Fy (data : List Aa) (a : Int) (b : Int) (pivot : Int) (cmp : Aa -> Aa -> Option (Int)) (hf_cmp : ∀ (x0 : Aa) (x1 : Aa) (y : Int), cmp x0 x1 = some y -> Fn Try.prog 10 0 [.agg (Aa.dv x0), .agg (Aa.dv x1)] [] (fun d' b' => d' = .val (.int .i64 y) /\ b' = [])) (r : Int × (List Aa)) (hg : Ak data a b pivot cmp = some r) : Fn Try.prog 76 1 [.row 0, .val (.int .i64 a), .val (.int .i64 b), .val (.int .i64 pivot), .clo 10 0 []] [.row 30 11 (Az Aa.enc data)] (fun d' b' => d' = .val (.int .i64 r.1) /\ b' = [.row 30 11 (Az Aa.enc r.2)]) := by
 unfold Ak at hg
 refine Fn.of Try.func76 rfl rfl rfl fun w0 I ρ0 => ?_
 show Ci _ ⟨w0, I, ρ0, 1, 1, 90⟩ _ _ _
 refine Bn 1 9 Bg ?_
 refine Al ?_
 refine Ai fun hU => ?_
 refine Ah ?_
 refine Bv (Bo _ _ []) (by kernel_rfl) [0, 0, 0, 0, 0, 0, 48, 112, 0, 0, 768, 1792, 4083, 8179, 16383, 32767] 9 137 hU rfl rfl (by kernel_rfl) ?_
 refine Al ?_
 obtain ⟨e, he, hg⟩ := Ac hg
 refine Al ?_
 refine Cu (rd := [0]) rfl rfl (Bt Cg (Bd Aa.enc_len (Ao he) (o := 0) (m := 11) (cs := [.int .i64 e.Source, .str e.Host, .int .i64 e.Machine, .int .i64 e.Day, .int .i64 e.Confidence, .int .i64 e.Kind, .str e.Subject, .int .i64 e.Use.Alg, .int .i64 e.Use.Bits, .int .i64 e.Number, .str e.Text]) rfl (by decide) rfl) (Ap Aa.enc_len (Ao he) (o := 0) (m := 11) (by decide) rfl)) rfl rfl ?_
 refine Al ?_
 obtain ⟨e_2, he_2, hg⟩ := Ac hg
 refine Al ?_
 refine Cu (rd := [0]) rfl rfl (Bt Cg (Bd Aa.enc_len (Ao he_2) (o := 0) (m := 11) (cs := [.int .i64 e_2.Source, .str e_2.Host, .int .i64 e_2.Machine, .int .i64 e_2.Day, .int .i64 e_2.Confidence, .int .i64 e_2.Kind, .str e_2.Subject, .int .i64 e_2.Use.Alg, .int .i64 e_2.Use.Bits, .int .i64 e_2.Number, .str e_2.Text]) rfl (by decide) rfl) (Ap Aa.enc_len (Ao he_2) (o := 0) (m := 11) (by decide) rfl)) rfl rfl ?_
 refine Al ?_
 refine Cu (rd := [0]) rfl rfl (Dh Cg rfl (Ap Aa.enc_len (Ao he_2) (o := 0) (m := 11) (by decide) rfl) G3 (cs' := [.int .i64 e.Source, .str e.Host, .int .i64 e.Machine, .int .i64 e.Day, .int .i64 e.Confidence, .int .i64 e.Kind, .str e.Subject, .int .i64 e.Use.Alg, .int .i64 e.Use.Bits, .int .i64 e.Number, .str e.Text]) (.cons .int (.cons .str (.cons .int (.cons .int (.cons .int (.cons .int (.cons .str (.cons .int (.cons .int (.cons .int (.cons .str .nil))))))))))) (Cm Aa.enc_len (Ao he_2) (o := 0) (x' := e) (Nat.le_of_ble_eq_true rfl) rfl rfl)) rfl rfl ?_
 obtain ⟨e_3, he_3, hg⟩ := Ac hg
 refine Al ?_
 refine Cu (rd := [0]) rfl rfl (Dh Cg rfl (Ap Aa.enc_len (Ao he_3) (o := 0) (m := 11) (by decide) rfl) G3 (cs' := [.int .i64 e_2.Source, .str e_2.Host, .int .i64 e_2.Machine, .int .i64 e_2.Day, .int .i64 e_2.Confidence, .int .i64 e_2.Kind, .str e_2.Subject, .int .i64 e_2.Use.Alg, .int .i64 e_2.Use.Bits, .int .i64 e_2.Number, .str e_2.Text]) (.cons .int (.cons .str (.cons .int (.cons .int (.cons .int (.cons .int (.cons .str (.cons .int (.cons .int (.cons .int (.cons .str .nil))))))))))) (Cm Aa.enc_len (Ao he_3) (o := 0) (x' := e_2) (Nat.le_of_ble_eq_true rfl) rfl rfl)) rfl rfl ?_
 refine Ai fun hU => ?_
 refine Bn 137 185 hU ?_
 refine Al ?_
 refine Ai fun hU => ?_
 refine Ah ?_
 refine A4 ?_
 refine Ll (fun ((i_1, j_1, data_1) : Int × Int × List Aa) => mk [(0, .row 0), (1, .val (.int .i64 a)), (4, .clo 10 0 []), (11, .val (.int .i64 i_1)), (12, .val (.int .i64 j_1))] [(0, .row 30 11 (Az Aa.enc data_1))] 1) hg (Ba [(0, 0)]) ?_
 rintro ⟨i_1, j_1, data_1⟩ m1 o1 hg hn1
 replace hg : Ak.l1 a cmp i_1 j_1 data_1 = some o1 := hg
 show Ci _ _ _ _ (mk _ _ _)
 unfold Ak.l1 at hg
 refine A4 ?_
 refine Ah ?_
 refine A4 ?_
 refine Ll (fun (i_2 : Int) => mk [(0, .row 0), (1, .val (.int .i64 a)), (4, .clo 10 0 []), (11, .val (.int .i64 i_2)), (12, .val (.int .i64 j_1))] [(0, .row 30 11 (Az Aa.enc data_1))] 1) hg (Ba [(0, 0)]) ?_
 rintro i_2 m2 o2 hg hn2
 replace hg : Ak.l2 a cmp j_1 data_1 i_2 = some o2 := hg
 show Ci _ _ _ _ (mk _ _ _)
 unfold Ak.l2 at hg
 refine Ah ?_
 refine By (ι := Bool) (fun (x47_3 : Bool) => mk [(0, .row 0), (1, .val (.int .i64 a)), (4, .clo 10 0 []), (11, .val (.int .i64 i_2)), (12, .val (.int .i64 j_1)), (47, .val (.bool x47_3))] [(0, .row 30 11 (Az Aa.enc data_1))] 1) (fun (x47_3 : Bool) => Ak.j3 a cmp j_1 data_1 i_2 x47_3 = some o2) ?_ ?_
 ·refine Bv (Bo _ _ []) (by kernel_rfl) [0, 0, 3, 7, 15, 15, 15, 111, 239, 15, 15, 1551, 3599, 8191, 16383, 32767, 65535] 1 137 Bg rfl rfl (by kernel_rfl) ?_
  refine Al ?_
  rcases Ea hg with ⟨h4, hg⟩ | ⟨h4, hg⟩
  ·refine Al ?_
   obtain ⟨e_4, he_4, hg⟩ := Ac hg
   refine Al ?_
   refine Cu (rd := [0]) (B7 rfl rfl h4) rfl (Bt Cg (Bd Aa.enc_len (Ao he_4) (o := 0) (m := 11) (cs := [.int .i64 e_4.Source, .str e_4.Host, .int .i64 e_4.Machine, .int .i64 e_4.Day, .int .i64 e_4.Confidence, .int .i64 e_4.Kind, .str e_4.Subject, .int .i64 e_4.Use.Alg, .int .i64 e_4.Use.Bits, .int .i64 e_4.Number, .str e_4.Text]) rfl (by decide) rfl) (Ap Aa.enc_len (Ao he_4) (o := 0) (m := 11) (by decide) rfl)) rfl rfl ?_
   refine Al ?_
   obtain ⟨e_5, he_5, hg⟩ := Ac hg
   refine Al ?_
   refine Cu (rd := [0]) (B7 rfl rfl h4) rfl (Bt Cg (Bd Aa.enc_len (Ao he_5) (o := 0) (m := 11) (cs := [.int .i64 e_5.Source, .str e_5.Host, .int .i64 e_5.Machine, .int .i64 e_5.Day, .int .i64 e_5.Confidence, .int .i64 e_5.Kind, .str e_5.Subject, .int .i64 e_5.Use.Alg, .int .i64 e_5.Use.Bits, .int .i64 e_5.Number, .str e_5.Text]) rfl (by decide) rfl) (Ap Aa.enc_len (Ao he_5) (o := 0) (m := 11) (by decide) rfl)) rfl rfl ?_
   obtain ⟨y, hy, hg⟩ := Ac hg
   refine Ck (rd := []) (ps := []) (gs := []) false (B7 rfl rfl h4) rfl (hf_cmp e_4 e_5 _ hy) rfl rfl (.cons (.agg (.cons .val (.cons .val (.cons .val (.cons .val (.cons .val (.cons .val (.cons .val (.cons .val (.cons .val (.cons .val (.cons .val .nil)))))))))))) (.cons (.agg (.cons .val (.cons .val (.cons .val (.cons .val (.cons .val (.cons .val (.cons .val (.cons .val (.cons .val (.cons .val (.cons .val .nil)))))))))))) .nil)) rfl rfl (by intro h; cases h) rfl rfl rfl rfl ?_
   refine Al ?_
   refine Ai fun hU => ?_
   exact ⟨!(decide (y < 0)), hg, Ba [(0, 0)]⟩
  ·refine Al ?_
   refine Ai fun hU => ?_
   exact ⟨false, hg, Ba [(0, 0)]⟩
 ·rintro x47_3 hg
  replace hg : Ak.j3 a cmp j_1 data_1 i_2 x47_3 = some o2 := hg
  show Ci _ _ _ _ (mk _ _ _)
  unfold Ak.j3 at hg
  refine C4 rfl hg (fun h7 hg => ?_) fun h7 hg => ?_
  ·refine Aq ?_
   repeat first | refine Cw ?_ | refine Cz ?_
   refine A4 ?_
   refine Ad (Bo _ _ []) 1 25 Bg rfl rfl ?_
   refine Al ?_
   refine Ai fun hU => ?_
   obtain rfl := oi_ hg
   exact ⟨(W (i_2 + 1), m2), Nat.lt_succ_self _, hn2, Ba [(0, 0)]⟩
  ·refine Cb ?_
   repeat first | refine Cw ?_ | refine Cz ?_
   replace hg := C3 hg hn2
   refine Ah ?_
   refine A4 ?_
   refine Ll (fun (j_4 : Int) => mk [(0, .row 0), (1, .val (.int .i64 a)), (4, .clo 10 0 []), (11, .val (.int .i64 i_2)), (12, .val (.int .i64 j_4))] [(0, .row 30 11 (Az Aa.enc data_1))] 1) hg (Ba [(0, 0)]) ?_
   rintro j_4 m4 o4 hg hn4
   replace hg : Ak.l4 a cmp data_1 i_2 j_4 = some o4 := hg
   show Ci _ _ _ _ (mk _ _ _)
   unfold Ak.l4 at hg
   refine Ah ?_
   refine By (ι := Bool) (fun (x65_5 : Bool) => mk [(0, .row 0), (1, .val (.int .i64 a)), (4, .clo 10 0 []), (11, .val (.int .i64 i_2)), (12, .val (.int .i64 j_4)), (65, .val (.bool x65_5))] [(0, .row 30 11 (Az Aa.enc data_1))] 1) (fun (x65_5 : Bool) => Ak.j5 data_1 i_2 j_4 x65_5 = some o4) ?_ ?_
   ·refine Bv (Bo _ _ []) (by kernel_rfl) [0, 0, 3, 7, 15, 15, 15, 111, 239, 15, 15, 1551, 3599, 8191, 16383, 32767] 1 129 Bg rfl rfl (by kernel_rfl) ?_
    refine Al ?_
    rcases Ea hg with ⟨h9, hg⟩ | ⟨h9, hg⟩
    ·refine Al ?_
     obtain ⟨e_6, he_6, hg⟩ := Ac hg
     refine Al ?_
     refine Cu (rd := [0]) (B7 rfl rfl h9) rfl (Bt Cg (Bd Aa.enc_len (Ao he_6) (o := 0) (m := 11) (cs := [.int .i64 e_6.Source, .str e_6.Host, .int .i64 e_6.Machine, .int .i64 e_6.Day, .int .i64 e_6.Confidence, .int .i64 e_6.Kind, .str e_6.Subject, .int .i64 e_6.Use.Alg, .int .i64 e_6.Use.Bits, .int .i64 e_6.Number, .str e_6.Text]) rfl (by decide) rfl) (Ap Aa.enc_len (Ao he_6) (o := 0) (m := 11) (by decide) rfl)) rfl rfl ?_
     refine Al ?_
     obtain ⟨e_7, he_7, hg⟩ := Ac hg
     refine Al ?_
     refine Cu (rd := [0]) (B7 rfl rfl h9) rfl (Bt Cg (Bd Aa.enc_len (Ao he_7) (o := 0) (m := 11) (cs := [.int .i64 e_7.Source, .str e_7.Host, .int .i64 e_7.Machine, .int .i64 e_7.Day, .int .i64 e_7.Confidence, .int .i64 e_7.Kind, .str e_7.Subject, .int .i64 e_7.Use.Alg, .int .i64 e_7.Use.Bits, .int .i64 e_7.Number, .str e_7.Text]) rfl (by decide) rfl) (Ap Aa.enc_len (Ao he_7) (o := 0) (m := 11) (by decide) rfl)) rfl rfl ?_
     obtain ⟨y_2, hy_2, hg⟩ := Ac hg
     refine Ck (rd := []) (ps := []) (gs := []) false (B7 rfl rfl h9) rfl (hf_cmp e_6 e_7 _ hy_2) rfl rfl (.cons (.agg (.cons .val (.cons .val (.cons .val (.cons .val (.cons .val (.cons .val (.cons .val (.cons .val (.cons .val (.cons .val (.cons .val .nil)))))))))))) (.cons (.agg (.cons .val (.cons .val (.cons .val (.cons .val (.cons .val (.cons .val (.cons .val (.cons .val (.cons .val (.cons .val (.cons .val .nil)))))))))))) .nil)) rfl rfl (by intro h; cases h) rfl rfl rfl rfl ?_
     refine Al ?_
     refine Ai fun hU => ?_
     exact ⟨decide (y_2 < 0), hg, Ba [(0, 0)]⟩
    ·refine Al ?_
     refine Ai fun hU => ?_
     exact ⟨false, hg, Ba [(0, 0)]⟩
   ·rintro x65_5 hg
    replace hg : Ak.j5 data_1 i_2 j_4 x65_5 = some o4 := hg
    show Ci _ _ _ _ (mk _ _ _)
    unfold Ak.j5 at hg
    refine C4 rfl hg (fun h12 hg => ?_) fun h12 hg => ?_
    ·refine Aq ?_
     repeat first | refine Cw ?_ | refine Cz ?_
     refine A4 ?_
     refine Ad (Bo _ _ []) 1 25 Bg rfl rfl ?_
     refine Al ?_
     refine Ai fun hU => ?_
     obtain rfl := oi_ hg
     exact ⟨(W (j_4 - 1), m4), Nat.lt_succ_self _, hn4, Ba [(0, 0)]⟩
    ·refine Cb ?_
     repeat first | refine Cw ?_ | refine Cz ?_
     replace hg := C3 hg hn4
     refine Ah ?_
     refine Bn 1 25 Bg ?_
     refine Al ?_
     refine Ai fun hU => ?_
     refine C4 rfl hg (fun h15 hg => ?_) fun h15 hg => ?_
     ·refine Cb ?_
      repeat first | refine Cw ?_ | refine Cz ?_
      replace hg := C3 hg hn1
      refine Bn 25 41 hU ?_
      refine Al ?_
      refine Ai fun hU => ?_
      refine Bj ?_
      obtain rfl := oi_ hg
      exact Bi [(0, 0)] ⟨rfl, rfl⟩
     ·refine Aq ?_
      repeat first | refine Cw ?_ | refine Cz ?_
      refine Ah ?_
      refine Bv (Bo _ _ []) (by kernel_rfl) [0, 0, 0, 0, 0, 0, 48, 112, 0, 0, 768, 1792, 4083, 8179, 16383, 32767] 25 153 hU rfl rfl (by kernel_rfl) ?_
      refine Al ?_
      obtain ⟨e_8, he_8, hg⟩ := Ac hg
      refine Al ?_
      refine Cu (rd := [0]) rfl rfl (Bt Cg (Bd Aa.enc_len (Ao he_8) (o := 0) (m := 11) (cs := [.int .i64 e_8.Source, .str e_8.Host, .int .i64 e_8.Machine, .int .i64 e_8.Day, .int .i64 e_8.Confidence, .int .i64 e_8.Kind, .str e_8.Subject, .int .i64 e_8.Use.Alg, .int .i64 e_8.Use.Bits, .int .i64 e_8.Number, .str e_8.Text]) rfl (by decide) rfl) (Ap Aa.enc_len (Ao he_8) (o := 0) (m := 11) (by decide) rfl)) rfl rfl ?_
      refine Al ?_
      obtain ⟨e_9, he_9, hg⟩ := Ac hg
      refine Al ?_
      refine Cu (rd := [0]) rfl rfl (Bt Cg (Bd Aa.enc_len (Ao he_9) (o := 0) (m := 11) (cs := [.int .i64 e_9.Source, .str e_9.Host, .int .i64 e_9.Machine, .int .i64 e_9.Day, .int .i64 e_9.Confidence, .int .i64 e_9.Kind, .str e_9.Subject, .int .i64 e_9.Use.Alg, .int .i64 e_9.Use.Bits, .int .i64 e_9.Number, .str e_9.Text]) rfl (by decide) rfl) (Ap Aa.enc_len (Ao he_9) (o := 0) (m := 11) (by decide) rfl)) rfl rfl ?_
      refine Al ?_
      refine Cu (rd := [0]) rfl rfl (Dh Cg rfl (Ap Aa.enc_len (Ao he_9) (o := 0) (m := 11) (by decide) rfl) G3 (cs' := [.int .i64 e_8.Source, .str e_8.Host, .int .i64 e_8.Machine, .int .i64 e_8.Day, .int .i64 e_8.Confidence, .int .i64 e_8.Kind, .str e_8.Subject, .int .i64 e_8.Use.Alg, .int .i64 e_8.Use.Bits, .int .i64 e_8.Number, .str e_8.Text]) (.cons .int (.cons .str (.cons .int (.cons .int (.cons .int (.cons .int (.cons .str (.cons .int (.cons .int (.cons .int (.cons .str .nil))))))))))) (Cm Aa.enc_len (Ao he_9) (o := 0) (x' := e_8) (Nat.le_of_ble_eq_true rfl) rfl rfl)) rfl rfl ?_
      obtain ⟨e_10, he_10, hg⟩ := Ac hg
      refine Al ?_
      refine Cu (rd := [0]) rfl rfl (Dh Cg rfl (Ap Aa.enc_len (Ao he_10) (o := 0) (m := 11) (by decide) rfl) G3 (cs' := [.int .i64 e_9.Source, .str e_9.Host, .int .i64 e_9.Machine, .int .i64 e_9.Day, .int .i64 e_9.Confidence, .int .i64 e_9.Kind, .str e_9.Subject, .int .i64 e_9.Use.Alg, .int .i64 e_9.Use.Bits, .int .i64 e_9.Number, .str e_9.Text]) (.cons .int (.cons .str (.cons .int (.cons .int (.cons .int (.cons .int (.cons .str (.cons .int (.cons .int (.cons .int (.cons .str .nil))))))))))) (Cm Aa.enc_len (Ao he_10) (o := 0) (x' := e_9) (Nat.le_of_ble_eq_true rfl) rfl rfl)) rfl rfl ?_
      refine Ai fun hU => ?_
      refine Bn 153 177 hU ?_
      refine Al ?_
      refine Ai fun hU => ?_
      refine Ad (Bo _ _ []) 177 201 hU rfl rfl ?_
      refine Al ?_
      refine Ai fun hU => ?_
      obtain rfl := oi_ hg
      exact ⟨((W (i_2 + 1), W (j_4 - 1), Cq (Cq data_1 ((i_2).toNat) e_8) ((j_4).toNat) e_9), m1), Nat.lt_succ_self _, hn1, Ba [(0, 0)]⟩
theorem Gn (data : List Aa) (a : Int) (b : Int) (pivot : Int) (cmp : Aa -> Aa -> Option (Int)) (hf_cmp : ∀ (x0 : Aa) (x1 : Aa) (y : Int), cmp x0 x1 = some y -> Fn Try.prog 10 0 [.agg (Aa.dv x0), .agg (Aa.dv x1)] [] (fun d' b' => d' = .val (.int .i64 y) /\ b' = [])) (r : Int × Bool × (List Aa)) (hg : Ae data a b pivot cmp = some r) : Fn Try.prog 77 1 [.row 0, .val (.int .i64 a), .val (.int .i64 b), .val (.int .i64 pivot), .clo 10 0 []] [.row 30 11 (Az Aa.enc data)] (fun d' b' => d' = .tup [.val (.int .i64 r.1), .val (.bool r.2.1)] /\ b' = [.row 30 11 (Az Aa.enc r.2.2)]) := by
 unfold Ae at hg
 refine Fn.of Try.func77 rfl rfl rfl fun w0 I ρ0 => ?_
 show Ci _ ⟨w0, I, ρ0, 1, 1, 178⟩ _ _ _
 refine Bn 1 17 Bg ?_
 refine Al ?_
 refine Ai fun hU => ?_
 refine Ah ?_
 refine Bv (Bo _ _ []) (by kernel_rfl) [0, 0, 0, 0, 0, 0, 48, 112, 0, 0, 768, 1792, 4083, 8179, 16383, 32767] 17 145 hU rfl rfl (by kernel_rfl) ?_
 refine Al ?_
 obtain ⟨e, he, hg⟩ := Ac hg
 refine Al ?_
 refine Cu (rd := [0]) rfl rfl (Bt Cg (Bd Aa.enc_len (Ao he) (o := 0) (m := 11) (cs := [.int .i64 e.Source, .str e.Host, .int .i64 e.Machine, .int .i64 e.Day, .int .i64 e.Confidence, .int .i64 e.Kind, .str e.Subject, .int .i64 e.Use.Alg, .int .i64 e.Use.Bits, .int .i64 e.Number, .str e.Text]) rfl (by decide) rfl) (Ap Aa.enc_len (Ao he) (o := 0) (m := 11) (by decide) rfl)) rfl rfl ?_
 refine Al ?_
 obtain ⟨e_2, he_2, hg⟩ := Ac hg
 refine Al ?_
 refine Cu (rd := [0]) rfl rfl (Bt Cg (Bd Aa.enc_len (Ao he_2) (o := 0) (m := 11) (cs := [.int .i64 e_2.Source, .str e_2.Host, .int .i64 e_2.Machine, .int .i64 e_2.Day, .int .i64 e_2.Confidence, .int .i64 e_2.Kind, .str e_2.Subject, .int .i64 e_2.Use.Alg, .int .i64 e_2.Use.Bits, .int .i64 e_2.Number, .str e_2.Text]) rfl (by decide) rfl) (Ap Aa.enc_len (Ao he_2) (o := 0) (m := 11) (by decide) rfl)) rfl rfl ?_
 refine Al ?_
 refine Cu (rd := [0]) rfl rfl (Dh Cg rfl (Ap Aa.enc_len (Ao he_2) (o := 0) (m := 11) (by decide) rfl) G3 (cs' := [.int .i64 e.Source, .str e.Host, .int .i64 e.Machine, .int .i64 e.Day, .int .i64 e.Confidence, .int .i64 e.Kind, .str e.Subject, .int .i64 e.Use.Alg, .int .i64 e.Use.Bits, .int .i64 e.Number, .str e.Text]) (.cons .int (.cons .str (.cons .int (.cons .int (.cons .int (.cons .int (.cons .str (.cons .int (.cons .int (.cons .int (.cons .str .nil))))))))))) (Cm Aa.enc_len (Ao he_2) (o := 0) (x' := e) (Nat.le_of_ble_eq_true rfl) rfl rfl)) rfl rfl ?_
 obtain ⟨e_3, he_3, hg⟩ := Ac hg
 refine Al ?_
 refine Cu (rd := [0]) rfl rfl (Dh Cg rfl (Ap Aa.enc_len (Ao he_3) (o := 0) (m := 11) (by decide) rfl) G3 (cs' := [.int .i64 e_2.Source, .str e_2.Host, .int .i64 e_2.Machine, .int .i64 e_2.Day, .int .i64 e_2.Confidence, .int .i64 e_2.Kind, .str e_2.Subject, .int .i64 e_2.Use.Alg, .int .i64 e_2.Use.Bits, .int .i64 e_2.Number, .str e_2.Text]) (.cons .int (.cons .str (.cons .int (.cons .int (.cons .int (.cons .int (.cons .str (.cons .int (.cons .int (.cons .int (.cons .str .nil))))))))))) (Cm Aa.enc_len (Ao he_3) (o := 0) (x' := e_2) (Nat.le_of_ble_eq_true rfl) rfl rfl)) rfl rfl ?_
 refine Ai fun hU => ?_
 refine Bn 145 193 hU ?_
 refine Al ?_
 refine Ai fun hU => ?_
 refine Ah ?_
 refine A4 ?_
 refine Ll (fun (i_1 : Int) => mk [(0, .row 0), (1, .val (.int .i64 a)), (4, .clo 10 0 []), (12, .val (.int .i64 i_1)), (13, .val (.int .i64 (W (b - 1))))] [(0, .row 30 11 (Az Aa.enc (Cq (Cq data ((a).toNat) e) ((pivot).toNat) e_2)))] 1) hg (Ba [(0, 0)]) ?_
 rintro i_1 m1 o1 hg hn1
 replace hg : Ae.l1 data a b pivot cmp e e_2 i_1 = some o1 := hg
 show Ci _ _ _ _ (mk _ _ _)
 unfold Ae.l1 at hg
 refine Ah ?_
 refine By (ι := Bool) (fun (x47_2 : Bool) => mk [(0, .row 0), (1, .val (.int .i64 a)), (4, .clo 10 0 []), (12, .val (.int .i64 i_1)), (13, .val (.int .i64 (W (b - 1)))), (47, .val (.bool x47_2))] [(0, .row 30 11 (Az Aa.enc (Cq (Cq data ((a).toNat) e) ((pivot).toNat) e_2)))] 1) (fun (x47_2 : Bool) => Ae.j2 data a b pivot cmp e e_2 i_1 x47_2 = some o1) ?_ ?_
 ·refine Bv (Bo _ _ []) (by kernel_rfl) [0, 0, 3, 7, 15, 15, 15, 111, 239, 15, 15, 1551, 3599, 8191, 16383, 32767] 1 129 Bg rfl rfl (by kernel_rfl) ?_
  refine Al ?_
  rcases Ea hg with ⟨h4, hg⟩ | ⟨h4, hg⟩
  ·refine Al ?_
   obtain ⟨e_4, he_4, hg⟩ := Ac hg
   refine Al ?_
   refine Cu (rd := [0]) (B7 rfl rfl h4) rfl (Bt Cg (Bd Aa.enc_len (Ao he_4) (o := 0) (m := 11) (cs := [.int .i64 e_4.Source, .str e_4.Host, .int .i64 e_4.Machine, .int .i64 e_4.Day, .int .i64 e_4.Confidence, .int .i64 e_4.Kind, .str e_4.Subject, .int .i64 e_4.Use.Alg, .int .i64 e_4.Use.Bits, .int .i64 e_4.Number, .str e_4.Text]) rfl (by decide) rfl) (Ap Aa.enc_len (Ao he_4) (o := 0) (m := 11) (by decide) rfl)) rfl rfl ?_
   refine Al ?_
   obtain ⟨e_5, he_5, hg⟩ := Ac hg
   refine Al ?_
   refine Cu (rd := [0]) (B7 rfl rfl h4) rfl (Bt Cg (Bd Aa.enc_len (Ao he_5) (o := 0) (m := 11) (cs := [.int .i64 e_5.Source, .str e_5.Host, .int .i64 e_5.Machine, .int .i64 e_5.Day, .int .i64 e_5.Confidence, .int .i64 e_5.Kind, .str e_5.Subject, .int .i64 e_5.Use.Alg, .int .i64 e_5.Use.Bits, .int .i64 e_5.Number, .str e_5.Text]) rfl (by decide) rfl) (Ap Aa.enc_len (Ao he_5) (o := 0) (m := 11) (by decide) rfl)) rfl rfl ?_
   obtain ⟨y, hy, hg⟩ := Ac hg
   refine Ck (rd := []) (ps := []) (gs := []) false (B7 rfl rfl h4) rfl (hf_cmp e_4 e_5 _ hy) rfl rfl (.cons (.agg (.cons .val (.cons .val (.cons .val (.cons .val (.cons .val (.cons .val (.cons .val (.cons .val (.cons .val (.cons .val (.cons .val .nil)))))))))))) (.cons (.agg (.cons .val (.cons .val (.cons .val (.cons .val (.cons .val (.cons .val (.cons .val (.cons .val (.cons .val (.cons .val (.cons .val .nil)))))))))))) .nil)) rfl rfl (by intro h; cases h) rfl rfl rfl rfl ?_
   refine Al ?_
   refine Ai fun hU => ?_
   exact ⟨decide (y < 0), hg, Ba [(0, 0)]⟩
  ·refine Al ?_
   refine Ai fun hU => ?_
   exact ⟨false, hg, Ba [(0, 0)]⟩
 ·rintro x47_2 hg
  replace hg : Ae.j2 data a b pivot cmp e e_2 i_1 x47_2 = some o1 := hg
  show Ci _ _ _ _ (mk _ _ _)
  unfold Ae.j2 at hg
  refine C4 rfl hg (fun h7 hg => ?_) fun h7 hg => ?_
  ·refine Aq ?_
   repeat first | refine Cw ?_ | refine Cz ?_
   refine A4 ?_
   refine Ad (Bo _ _ []) 1 25 Bg rfl rfl ?_
   refine Al ?_
   refine Ai fun hU => ?_
   obtain rfl := oi_ hg
   exact ⟨(W (i_1 + 1), m1), Nat.lt_succ_self _, hn1, Ba [(0, 0)]⟩
  ·refine Cb ?_
   repeat first | refine Cw ?_ | refine Cz ?_
   replace hg := C3 hg hn1
   refine Ah ?_
   refine A4 ?_
   refine Ll (fun (j_3 : Int) => mk [(0, .row 0), (1, .val (.int .i64 a)), (4, .clo 10 0 []), (12, .val (.int .i64 i_1)), (13, .val (.int .i64 j_3))] [(0, .row 30 11 (Az Aa.enc (Cq (Cq data ((a).toNat) e) ((pivot).toNat) e_2)))] 1) hg (Ba [(0, 0)]) ?_
   rintro j_3 m3 o3 hg hn3
   replace hg : Ae.l3 data a pivot cmp e e_2 i_1 j_3 = some o3 := hg
   show Ci _ _ _ _ (mk _ _ _)
   unfold Ae.l3 at hg
   refine Ah ?_
   refine By (ι := Bool) (fun (x66_4 : Bool) => mk [(0, .row 0), (1, .val (.int .i64 a)), (4, .clo 10 0 []), (12, .val (.int .i64 i_1)), (13, .val (.int .i64 j_3)), (66, .val (.bool x66_4))] [(0, .row 30 11 (Az Aa.enc (Cq (Cq data ((a).toNat) e) ((pivot).toNat) e_2)))] 1) (fun (x66_4 : Bool) => Ae.j4 data a pivot cmp e e_2 i_1 j_3 x66_4 = some o3) ?_ ?_
   ·refine Bv (Bo _ _ []) (by kernel_rfl) [0, 0, 3, 7, 15, 15, 15, 111, 239, 15, 15, 1551, 3599, 8191, 16383, 32767, 65535] 1 137 Bg rfl rfl (by kernel_rfl) ?_
    refine Al ?_
    rcases Ea hg with ⟨h9, hg⟩ | ⟨h9, hg⟩
    ·refine Al ?_
     obtain ⟨e_6, he_6, hg⟩ := Ac hg
     refine Al ?_
     refine Cu (rd := [0]) (B7 rfl rfl h9) rfl (Bt Cg (Bd Aa.enc_len (Ao he_6) (o := 0) (m := 11) (cs := [.int .i64 e_6.Source, .str e_6.Host, .int .i64 e_6.Machine, .int .i64 e_6.Day, .int .i64 e_6.Confidence, .int .i64 e_6.Kind, .str e_6.Subject, .int .i64 e_6.Use.Alg, .int .i64 e_6.Use.Bits, .int .i64 e_6.Number, .str e_6.Text]) rfl (by decide) rfl) (Ap Aa.enc_len (Ao he_6) (o := 0) (m := 11) (by decide) rfl)) rfl rfl ?_
     refine Al ?_
     obtain ⟨e_7, he_7, hg⟩ := Ac hg
     refine Al ?_
     refine Cu (rd := [0]) (B7 rfl rfl h9) rfl (Bt Cg (Bd Aa.enc_len (Ao he_7) (o := 0) (m := 11) (cs := [.int .i64 e_7.Source, .str e_7.Host, .int .i64 e_7.Machine, .int .i64 e_7.Day, .int .i64 e_7.Confidence, .int .i64 e_7.Kind, .str e_7.Subject, .int .i64 e_7.Use.Alg, .int .i64 e_7.Use.Bits, .int .i64 e_7.Number, .str e_7.Text]) rfl (by decide) rfl) (Ap Aa.enc_len (Ao he_7) (o := 0) (m := 11) (by decide) rfl)) rfl rfl ?_
     obtain ⟨y_2, hy_2, hg⟩ := Ac hg
     refine Ck (rd := []) (ps := []) (gs := []) false (B7 rfl rfl h9) rfl (hf_cmp e_6 e_7 _ hy_2) rfl rfl (.cons (.agg (.cons .val (.cons .val (.cons .val (.cons .val (.cons .val (.cons .val (.cons .val (.cons .val (.cons .val (.cons .val (.cons .val .nil)))))))))))) (.cons (.agg (.cons .val (.cons .val (.cons .val (.cons .val (.cons .val (.cons .val (.cons .val (.cons .val (.cons .val (.cons .val (.cons .val .nil)))))))))))) .nil)) rfl rfl (by intro h; cases h) rfl rfl rfl rfl ?_
     refine Al ?_
     refine Ai fun hU => ?_
     exact ⟨!(decide (y_2 < 0)), hg, Ba [(0, 0)]⟩
    ·refine Al ?_
     refine Ai fun hU => ?_
     exact ⟨false, hg, Ba [(0, 0)]⟩
   ·rintro x66_4 hg
    replace hg : Ae.j4 data a pivot cmp e e_2 i_1 j_3 x66_4 = some o3 := hg
    show Ci _ _ _ _ (mk _ _ _)
    unfold Ae.j4 at hg
    refine C4 rfl hg (fun h12 hg => ?_) fun h12 hg => ?_
    ·refine Aq ?_
     repeat first | refine Cw ?_ | refine Cz ?_
     refine A4 ?_
     refine Ad (Bo _ _ []) 1 25 Bg rfl rfl ?_
     refine Al ?_
     refine Ai fun hU => ?_
     obtain rfl := oi_ hg
     exact ⟨(W (j_3 - 1), m3), Nat.lt_succ_self _, hn3, Ba [(0, 0)]⟩
    ·refine Cb ?_
     repeat first | refine Cw ?_ | refine Cz ?_
     replace hg := C3 hg hn3
     refine Ah ?_
     refine Bn 1 25 Bg ?_
     refine Al ?_
     refine Ai fun hU => ?_
     refine C4 rfl hg (fun h15 hg => ?_) fun h15 hg => ?_
     ·refine Ah ?_
      refine Bv (Bo _ _ []) (by kernel_rfl) [0, 0, 0, 0, 0, 0, 48, 112, 0, 0, 768, 1792, 4083, 8179, 16383, 32767] 25 153 hU rfl rfl (by kernel_rfl) ?_
      refine Al ?_
      obtain ⟨e_8, he_8, hg⟩ := Ac hg
      refine Al ?_
      refine Cu (rd := [0]) rfl rfl (Bt Cg (Bd Aa.enc_len (Ao he_8) (o := 0) (m := 11) (cs := [.int .i64 e_8.Source, .str e_8.Host, .int .i64 e_8.Machine, .int .i64 e_8.Day, .int .i64 e_8.Confidence, .int .i64 e_8.Kind, .str e_8.Subject, .int .i64 e_8.Use.Alg, .int .i64 e_8.Use.Bits, .int .i64 e_8.Number, .str e_8.Text]) rfl (by decide) rfl) (Ap Aa.enc_len (Ao he_8) (o := 0) (m := 11) (by decide) rfl)) rfl rfl ?_
      refine Al ?_
      obtain ⟨e_9, he_9, hg⟩ := Ac hg
      refine Al ?_
      refine Cu (rd := [0]) rfl rfl (Bt Cg (Bd Aa.enc_len (Ao he_9) (o := 0) (m := 11) (cs := [.int .i64 e_9.Source, .str e_9.Host, .int .i64 e_9.Machine, .int .i64 e_9.Day, .int .i64 e_9.Confidence, .int .i64 e_9.Kind, .str e_9.Subject, .int .i64 e_9.Use.Alg, .int .i64 e_9.Use.Bits, .int .i64 e_9.Number, .str e_9.Text]) rfl (by decide) rfl) (Ap Aa.enc_len (Ao he_9) (o := 0) (m := 11) (by decide) rfl)) rfl rfl ?_
      refine Al ?_
      refine Cu (rd := [0]) rfl rfl (Dh Cg rfl (Ap Aa.enc_len (Ao he_9) (o := 0) (m := 11) (by decide) rfl) G3 (cs' := [.int .i64 e_8.Source, .str e_8.Host, .int .i64 e_8.Machine, .int .i64 e_8.Day, .int .i64 e_8.Confidence, .int .i64 e_8.Kind, .str e_8.Subject, .int .i64 e_8.Use.Alg, .int .i64 e_8.Use.Bits, .int .i64 e_8.Number, .str e_8.Text]) (.cons .int (.cons .str (.cons .int (.cons .int (.cons .int (.cons .int (.cons .str (.cons .int (.cons .int (.cons .int (.cons .str .nil))))))))))) (Cm Aa.enc_len (Ao he_9) (o := 0) (x' := e_8) (Nat.le_of_ble_eq_true rfl) rfl rfl)) rfl rfl ?_
      obtain ⟨e_10, he_10, hg⟩ := Ac hg
      refine Al ?_
      refine Cu (rd := [0]) rfl rfl (Dh Cg rfl (Ap Aa.enc_len (Ao he_10) (o := 0) (m := 11) (by decide) rfl) G3 (cs' := [.int .i64 e_9.Source, .str e_9.Host, .int .i64 e_9.Machine, .int .i64 e_9.Day, .int .i64 e_9.Confidence, .int .i64 e_9.Kind, .str e_9.Subject, .int .i64 e_9.Use.Alg, .int .i64 e_9.Use.Bits, .int .i64 e_9.Number, .str e_9.Text]) (.cons .int (.cons .str (.cons .int (.cons .int (.cons .int (.cons .int (.cons .str (.cons .int (.cons .int (.cons .int (.cons .str .nil))))))))))) (Cm Aa.enc_len (Ao he_10) (o := 0) (x' := e_9) (Nat.le_of_ble_eq_true rfl) rfl rfl)) rfl rfl ?_
      refine Ai fun hU => ?_
      refine Bn 153 177 hU ?_
      refine Al ?_
      refine Ai fun hU => ?_
      refine Bj ?_
      obtain rfl := oi_ hg
      exact Bi [(0, 0)] ⟨rfl, rfl⟩
     ·refine Aq ?_
      repeat first | refine Cw ?_ | refine Cz ?_
      refine Ah ?_
      refine Bv (Bo _ _ []) (by kernel_rfl) [0, 0, 0, 0, 0, 0, 48, 112, 0, 0, 768, 1792, 4083, 8179, 16383, 32767] 25 153 hU rfl rfl (by kernel_rfl) ?_
      refine Al ?_
      obtain ⟨e_11, he_11, hg⟩ := Ac hg
      refine Al ?_
      refine Cu (rd := [0]) rfl rfl (Bt Cg (Bd Aa.enc_len (Ao he_11) (o := 0) (m := 11) (cs := [.int .i64 e_11.Source, .str e_11.Host, .int .i64 e_11.Machine, .int .i64 e_11.Day, .int .i64 e_11.Confidence, .int .i64 e_11.Kind, .str e_11.Subject, .int .i64 e_11.Use.Alg, .int .i64 e_11.Use.Bits, .int .i64 e_11.Number, .str e_11.Text]) rfl (by decide) rfl) (Ap Aa.enc_len (Ao he_11) (o := 0) (m := 11) (by decide) rfl)) rfl rfl ?_
      refine Al ?_
      obtain ⟨e_12, he_12, hg⟩ := Ac hg
      refine Al ?_
      refine Cu (rd := [0]) rfl rfl (Bt Cg (Bd Aa.enc_len (Ao he_12) (o := 0) (m := 11) (cs := [.int .i64 e_12.Source, .str e_12.Host, .int .i64 e_12.Machine, .int .i64 e_12.Day, .int .i64 e_12.Confidence, .int .i64 e_12.Kind, .str e_12.Subject, .int .i64 e_12.Use.Alg, .int .i64 e_12.Use.Bits, .int .i64 e_12.Number, .str e_12.Text]) rfl (by decide) rfl) (Ap Aa.enc_len (Ao he_12) (o := 0) (m := 11) (by decide) rfl)) rfl rfl ?_
      refine Al ?_
      refine Cu (rd := [0]) rfl rfl (Dh Cg rfl (Ap Aa.enc_len (Ao he_12) (o := 0) (m := 11) (by decide) rfl) G3 (cs' := [.int .i64 e_11.Source, .str e_11.Host, .int .i64 e_11.Machine, .int .i64 e_11.Day, .int .i64 e_11.Confidence, .int .i64 e_11.Kind, .str e_11.Subject, .int .i64 e_11.Use.Alg, .int .i64 e_11.Use.Bits, .int .i64 e_11.Number, .str e_11.Text]) (.cons .int (.cons .str (.cons .int (.cons .int (.cons .int (.cons .int (.cons .str (.cons .int (.cons .int (.cons .int (.cons .str .nil))))))))))) (Cm Aa.enc_len (Ao he_12) (o := 0) (x' := e_11) (Nat.le_of_ble_eq_true rfl) rfl rfl)) rfl rfl ?_
      obtain ⟨e_13, he_13, hg⟩ := Ac hg
      refine Al ?_
      refine Cu (rd := [0]) rfl rfl (Dh Cg rfl (Ap Aa.enc_len (Ao he_13) (o := 0) (m := 11) (by decide) rfl) G3 (cs' := [.int .i64 e_12.Source, .str e_12.Host, .int .i64 e_12.Machine, .int .i64 e_12.Day, .int .i64 e_12.Confidence, .int .i64 e_12.Kind, .str e_12.Subject, .int .i64 e_12.Use.Alg, .int .i64 e_12.Use.Bits, .int .i64 e_12.Number, .str e_12.Text]) (.cons .int (.cons .str (.cons .int (.cons .int (.cons .int (.cons .int (.cons .str (.cons .int (.cons .int (.cons .int (.cons .str .nil))))))))))) (Cm Aa.enc_len (Ao he_13) (o := 0) (x' := e_12) (Nat.le_of_ble_eq_true rfl) rfl rfl)) rfl rfl ?_
      refine Ai fun hU => ?_
      refine Bn 153 177 hU ?_
      refine Al ?_
      refine Ai fun hU => ?_
      refine Bn 177 201 hU ?_
      refine Al ?_
      refine Ai fun hU => ?_
      refine Ah ?_
      refine A4 ?_
      refine Ll (fun ((i_5, j_5, data_5) : Int × Int × List Aa) => mk [(0, .row 0), (1, .val (.int .i64 a)), (4, .clo 10 0 []), (12, .val (.int .i64 i_5)), (13, .val (.int .i64 j_5))] [(0, .row 30 11 (Az Aa.enc data_5))] 1) hg (Ba [(0, 0)]) ?_
      rintro ⟨i_5, j_5, data_5⟩ m5 o5 hg hn5
      replace hg : Ae.l5 a cmp i_5 j_5 data_5 = some o5 := hg
      show Ci _ _ _ _ (mk _ _ _)
      unfold Ae.l5 at hg
      refine A4 ?_
      refine Ah ?_
      refine A4 ?_
      refine Ll (fun (i_6 : Int) => mk [(0, .row 0), (1, .val (.int .i64 a)), (4, .clo 10 0 []), (12, .val (.int .i64 i_6)), (13, .val (.int .i64 j_5))] [(0, .row 30 11 (Az Aa.enc data_5))] 1) hg (Ba [(0, 0)]) ?_
      rintro i_6 m6 o6 hg hn6
      replace hg : Ae.l6 a cmp j_5 data_5 i_6 = some o6 := hg
      show Ci _ _ _ _ (mk _ _ _)
      unfold Ae.l6 at hg
      refine Ah ?_
      refine By (ι := Bool) (fun (x120_7 : Bool) => mk [(0, .row 0), (1, .val (.int .i64 a)), (4, .clo 10 0 []), (12, .val (.int .i64 i_6)), (13, .val (.int .i64 j_5)), (120, .val (.bool x120_7))] [(0, .row 30 11 (Az Aa.enc data_5))] 1) (fun (x120_7 : Bool) => Ae.j7 a cmp j_5 data_5 i_6 x120_7 = some o6) ?_ ?_
      ·refine Bv (Bo _ _ []) (by kernel_rfl) [0, 0, 3, 7, 15, 15, 15, 111, 239, 15, 15, 1551, 3599, 8191, 16383, 32767] 1 129 Bg rfl rfl (by kernel_rfl) ?_
       refine Al ?_
       rcases Ea hg with ⟨h21, hg⟩ | ⟨h21, hg⟩
       ·refine Al ?_
        obtain ⟨e_14, he_14, hg⟩ := Ac hg
        refine Al ?_
        refine Cu (rd := [0]) (B7 rfl rfl h21) rfl (Bt Cg (Bd Aa.enc_len (Ao he_14) (o := 0) (m := 11) (cs := [.int .i64 e_14.Source, .str e_14.Host, .int .i64 e_14.Machine, .int .i64 e_14.Day, .int .i64 e_14.Confidence, .int .i64 e_14.Kind, .str e_14.Subject, .int .i64 e_14.Use.Alg, .int .i64 e_14.Use.Bits, .int .i64 e_14.Number, .str e_14.Text]) rfl (by decide) rfl) (Ap Aa.enc_len (Ao he_14) (o := 0) (m := 11) (by decide) rfl)) rfl rfl ?_
        refine Al ?_
        obtain ⟨e_15, he_15, hg⟩ := Ac hg
        refine Al ?_
        refine Cu (rd := [0]) (B7 rfl rfl h21) rfl (Bt Cg (Bd Aa.enc_len (Ao he_15) (o := 0) (m := 11) (cs := [.int .i64 e_15.Source, .str e_15.Host, .int .i64 e_15.Machine, .int .i64 e_15.Day, .int .i64 e_15.Confidence, .int .i64 e_15.Kind, .str e_15.Subject, .int .i64 e_15.Use.Alg, .int .i64 e_15.Use.Bits, .int .i64 e_15.Number, .str e_15.Text]) rfl (by decide) rfl) (Ap Aa.enc_len (Ao he_15) (o := 0) (m := 11) (by decide) rfl)) rfl rfl ?_
        obtain ⟨y_3, hy_3, hg⟩ := Ac hg
        refine Ck (rd := []) (ps := []) (gs := []) false (B7 rfl rfl h21) rfl (hf_cmp e_14 e_15 _ hy_3) rfl rfl (.cons (.agg (.cons .val (.cons .val (.cons .val (.cons .val (.cons .val (.cons .val (.cons .val (.cons .val (.cons .val (.cons .val (.cons .val .nil)))))))))))) (.cons (.agg (.cons .val (.cons .val (.cons .val (.cons .val (.cons .val (.cons .val (.cons .val (.cons .val (.cons .val (.cons .val (.cons .val .nil)))))))))))) .nil)) rfl rfl (by intro h; cases h) rfl rfl rfl rfl ?_
        refine Al ?_
        refine Ai fun hU => ?_
        exact ⟨decide (y_3 < 0), hg, Ba [(0, 0)]⟩
       ·refine Al ?_
        refine Ai fun hU => ?_
        exact ⟨false, hg, Ba [(0, 0)]⟩
      ·rintro x120_7 hg
       replace hg : Ae.j7 a cmp j_5 data_5 i_6 x120_7 = some o6 := hg
       show Ci _ _ _ _ (mk _ _ _)
       unfold Ae.j7 at hg
       refine C4 rfl hg (fun h24 hg => ?_) fun h24 hg => ?_
       ·refine Aq ?_
        repeat first | refine Cw ?_ | refine Cz ?_
        refine A4 ?_
        refine Ad (Bo _ _ []) 1 25 Bg rfl rfl ?_
        refine Al ?_
        refine Ai fun hU => ?_
        obtain rfl := oi_ hg
        exact ⟨(W (i_6 + 1), m6), Nat.lt_succ_self _, hn6, Ba [(0, 0)]⟩
       ·refine Cb ?_
        repeat first | refine Cw ?_ | refine Cz ?_
        replace hg := C3 hg hn6
        refine Ah ?_
        refine A4 ?_
        refine Ll (fun (j_8 : Int) => mk [(0, .row 0), (1, .val (.int .i64 a)), (4, .clo 10 0 []), (12, .val (.int .i64 i_6)), (13, .val (.int .i64 j_8))] [(0, .row 30 11 (Az Aa.enc data_5))] 1) hg (Ba [(0, 0)]) ?_
        rintro j_8 m8 o8 hg hn8
        replace hg : Ae.l8 a cmp data_5 i_6 j_8 = some o8 := hg
        show Ci _ _ _ _ (mk _ _ _)
        unfold Ae.l8 at hg
        refine Ah ?_
        refine By (ι := Bool) (fun (x139_9 : Bool) => mk [(0, .row 0), (1, .val (.int .i64 a)), (4, .clo 10 0 []), (12, .val (.int .i64 i_6)), (13, .val (.int .i64 j_8)), (139, .val (.bool x139_9))] [(0, .row 30 11 (Az Aa.enc data_5))] 1) (fun (x139_9 : Bool) => Ae.j9 a data_5 i_6 j_8 x139_9 = some o8) ?_ ?_
        ·refine Bv (Bo _ _ []) (by kernel_rfl) [0, 0, 3, 7, 15, 15, 15, 111, 239, 15, 15, 1551, 3599, 8191, 16383, 32767, 65535] 1 137 Bg rfl rfl (by kernel_rfl) ?_
         refine Al ?_
         rcases Ea hg with ⟨h26, hg⟩ | ⟨h26, hg⟩
         ·refine Al ?_
          obtain ⟨e_16, he_16, hg⟩ := Ac hg
          refine Al ?_
          refine Cu (rd := [0]) (B7 rfl rfl h26) rfl (Bt Cg (Bd Aa.enc_len (Ao he_16) (o := 0) (m := 11) (cs := [.int .i64 e_16.Source, .str e_16.Host, .int .i64 e_16.Machine, .int .i64 e_16.Day, .int .i64 e_16.Confidence, .int .i64 e_16.Kind, .str e_16.Subject, .int .i64 e_16.Use.Alg, .int .i64 e_16.Use.Bits, .int .i64 e_16.Number, .str e_16.Text]) rfl (by decide) rfl) (Ap Aa.enc_len (Ao he_16) (o := 0) (m := 11) (by decide) rfl)) rfl rfl ?_
          refine Al ?_
          obtain ⟨e_17, he_17, hg⟩ := Ac hg
          refine Al ?_
          refine Cu (rd := [0]) (B7 rfl rfl h26) rfl (Bt Cg (Bd Aa.enc_len (Ao he_17) (o := 0) (m := 11) (cs := [.int .i64 e_17.Source, .str e_17.Host, .int .i64 e_17.Machine, .int .i64 e_17.Day, .int .i64 e_17.Confidence, .int .i64 e_17.Kind, .str e_17.Subject, .int .i64 e_17.Use.Alg, .int .i64 e_17.Use.Bits, .int .i64 e_17.Number, .str e_17.Text]) rfl (by decide) rfl) (Ap Aa.enc_len (Ao he_17) (o := 0) (m := 11) (by decide) rfl)) rfl rfl ?_
          obtain ⟨y_4, hy_4, hg⟩ := Ac hg
          refine Ck (rd := []) (ps := []) (gs := []) false (B7 rfl rfl h26) rfl (hf_cmp e_16 e_17 _ hy_4) rfl rfl (.cons (.agg (.cons .val (.cons .val (.cons .val (.cons .val (.cons .val (.cons .val (.cons .val (.cons .val (.cons .val (.cons .val (.cons .val .nil)))))))))))) (.cons (.agg (.cons .val (.cons .val (.cons .val (.cons .val (.cons .val (.cons .val (.cons .val (.cons .val (.cons .val (.cons .val (.cons .val .nil)))))))))))) .nil)) rfl rfl (by intro h; cases h) rfl rfl rfl rfl ?_
          refine Al ?_
          refine Ai fun hU => ?_
          exact ⟨!(decide (y_4 < 0)), hg, Ba [(0, 0)]⟩
         ·refine Al ?_
          refine Ai fun hU => ?_
          exact ⟨false, hg, Ba [(0, 0)]⟩
        ·rintro x139_9 hg
         replace hg : Ae.j9 a data_5 i_6 j_8 x139_9 = some o8 := hg
         show Ci _ _ _ _ (mk _ _ _)
         unfold Ae.j9 at hg
         refine C4 rfl hg (fun h29 hg => ?_) fun h29 hg => ?_
         ·refine Aq ?_
          repeat first | refine Cw ?_ | refine Cz ?_
          refine A4 ?_
          refine Ad (Bo _ _ []) 1 25 Bg rfl rfl ?_
          refine Al ?_
          refine Ai fun hU => ?_
          obtain rfl := oi_ hg
          exact ⟨(W (j_8 - 1), m8), Nat.lt_succ_self _, hn8, Ba [(0, 0)]⟩
         ·refine Cb ?_
          repeat first | refine Cw ?_ | refine Cz ?_
          replace hg := C3 hg hn8
          refine Ah ?_
          refine Bn 1 25 Bg ?_
          refine Al ?_
          refine Ai fun hU => ?_
          refine C4 rfl hg (fun h32 hg => ?_) fun h32 hg => ?_
          ·refine Cb ?_
           repeat first | refine Cw ?_ | refine Cz ?_
           replace hg := C3 hg hn5
           refine Ah ?_
           refine Bv (Bo _ _ []) (by kernel_rfl) [0, 0, 0, 0, 0, 0, 48, 112, 0, 0, 768, 1792, 4083, 8179, 16383, 32767] 25 153 hU rfl rfl (by kernel_rfl) ?_
           refine Al ?_
           obtain ⟨e_21, he_21, hg⟩ := Ac hg
           refine Al ?_
           refine Cu (rd := [0]) rfl rfl (Bt Cg (Bd Aa.enc_len (Ao he_21) (o := 0) (m := 11) (cs := [.int .i64 e_21.Source, .str e_21.Host, .int .i64 e_21.Machine, .int .i64 e_21.Day, .int .i64 e_21.Confidence, .int .i64 e_21.Kind, .str e_21.Subject, .int .i64 e_21.Use.Alg, .int .i64 e_21.Use.Bits, .int .i64 e_21.Number, .str e_21.Text]) rfl (by decide) rfl) (Ap Aa.enc_len (Ao he_21) (o := 0) (m := 11) (by decide) rfl)) rfl rfl ?_
           refine Al ?_
           obtain ⟨e_22, he_22, hg⟩ := Ac hg
           refine Al ?_
           refine Cu (rd := [0]) rfl rfl (Bt Cg (Bd Aa.enc_len (Ao he_22) (o := 0) (m := 11) (cs := [.int .i64 e_22.Source, .str e_22.Host, .int .i64 e_22.Machine, .int .i64 e_22.Day, .int .i64 e_22.Confidence, .int .i64 e_22.Kind, .str e_22.Subject, .int .i64 e_22.Use.Alg, .int .i64 e_22.Use.Bits, .int .i64 e_22.Number, .str e_22.Text]) rfl (by decide) rfl) (Ap Aa.enc_len (Ao he_22) (o := 0) (m := 11) (by decide) rfl)) rfl rfl ?_
           refine Al ?_
           refine Cu (rd := [0]) rfl rfl (Dh Cg rfl (Ap Aa.enc_len (Ao he_22) (o := 0) (m := 11) (by decide) rfl) G3 (cs' := [.int .i64 e_21.Source, .str e_21.Host, .int .i64 e_21.Machine, .int .i64 e_21.Day, .int .i64 e_21.Confidence, .int .i64 e_21.Kind, .str e_21.Subject, .int .i64 e_21.Use.Alg, .int .i64 e_21.Use.Bits, .int .i64 e_21.Number, .str e_21.Text]) (.cons .int (.cons .str (.cons .int (.cons .int (.cons .int (.cons .int (.cons .str (.cons .int (.cons .int (.cons .int (.cons .str .nil))))))))))) (Cm Aa.enc_len (Ao he_22) (o := 0) (x' := e_21) (Nat.le_of_ble_eq_true rfl) rfl rfl)) rfl rfl ?_
           obtain ⟨e_23, he_23, hg⟩ := Ac hg
           refine Al ?_
           refine Cu (rd := [0]) rfl rfl (Dh Cg rfl (Ap Aa.enc_len (Ao he_23) (o := 0) (m := 11) (by decide) rfl) G3 (cs' := [.int .i64 e_22.Source, .str e_22.Host, .int .i64 e_22.Machine, .int .i64 e_22.Day, .int .i64 e_22.Confidence, .int .i64 e_22.Kind, .str e_22.Subject, .int .i64 e_22.Use.Alg, .int .i64 e_22.Use.Bits, .int .i64 e_22.Number, .str e_22.Text]) (.cons .int (.cons .str (.cons .int (.cons .int (.cons .int (.cons .int (.cons .str (.cons .int (.cons .int (.cons .int (.cons .str .nil))))))))))) (Cm Aa.enc_len (Ao he_23) (o := 0) (x' := e_22) (Nat.le_of_ble_eq_true rfl) rfl rfl)) rfl rfl ?_
           refine Ai fun hU => ?_
           refine Bn 153 177 hU ?_
           refine Al ?_
           refine Ai fun hU => ?_
           refine Bj ?_
           obtain rfl := oi_ hg
           exact Bi [(0, 0)] ⟨rfl, rfl⟩
          ·refine Aq ?_
           repeat first | refine Cw ?_ | refine Cz ?_
           refine Ah ?_
           refine Bv (Bo _ _ []) (by kernel_rfl) [0, 0, 0, 0, 0, 0, 48, 112, 0, 0, 768, 1792, 4083, 8179, 16383, 32767] 25 153 hU rfl rfl (by kernel_rfl) ?_
           refine Al ?_
           obtain ⟨e_18, he_18, hg⟩ := Ac hg
           refine Al ?_
           refine Cu (rd := [0]) rfl rfl (Bt Cg (Bd Aa.enc_len (Ao he_18) (o := 0) (m := 11) (cs := [.int .i64 e_18.Source, .str e_18.Host, .int .i64 e_18.Machine, .int .i64 e_18.Day, .int .i64 e_18.Confidence, .int .i64 e_18.Kind, .str e_18.Subject, .int .i64 e_18.Use.Alg, .int .i64 e_18.Use.Bits, .int .i64 e_18.Number, .str e_18.Text]) rfl (by decide) rfl) (Ap Aa.enc_len (Ao he_18) (o := 0) (m := 11) (by decide) rfl)) rfl rfl ?_
           refine Al ?_
           obtain ⟨e_19, he_19, hg⟩ := Ac hg
           refine Al ?_
           refine Cu (rd := [0]) rfl rfl (Bt Cg (Bd Aa.enc_len (Ao he_19) (o := 0) (m := 11) (cs := [.int .i64 e_19.Source, .str e_19.Host, .int .i64 e_19.Machine, .int .i64 e_19.Day, .int .i64 e_19.Confidence, .int .i64 e_19.Kind, .str e_19.Subject, .int .i64 e_19.Use.Alg, .int .i64 e_19.Use.Bits, .int .i64 e_19.Number, .str e_19.Text]) rfl (by decide) rfl) (Ap Aa.enc_len (Ao he_19) (o := 0) (m := 11) (by decide) rfl)) rfl rfl ?_
           refine Al ?_
           refine Cu (rd := [0]) rfl rfl (Dh Cg rfl (Ap Aa.enc_len (Ao he_19) (o := 0) (m := 11) (by decide) rfl) G3 (cs' := [.int .i64 e_18.Source, .str e_18.Host, .int .i64 e_18.Machine, .int .i64 e_18.Day, .int .i64 e_18.Confidence, .int .i64 e_18.Kind, .str e_18.Subject, .int .i64 e_18.Use.Alg, .int .i64 e_18.Use.Bits, .int .i64 e_18.Number, .str e_18.Text]) (.cons .int (.cons .str (.cons .int (.cons .int (.cons .int (.cons .int (.cons .str (.cons .int (.cons .int (.cons .int (.cons .str .nil))))))))))) (Cm Aa.enc_len (Ao he_19) (o := 0) (x' := e_18) (Nat.le_of_ble_eq_true rfl) rfl rfl)) rfl rfl ?_
           obtain ⟨e_20, he_20, hg⟩ := Ac hg
           refine Al ?_
           refine Cu (rd := [0]) rfl rfl (Dh Cg rfl (Ap Aa.enc_len (Ao he_20) (o := 0) (m := 11) (by decide) rfl) G3 (cs' := [.int .i64 e_19.Source, .str e_19.Host, .int .i64 e_19.Machine, .int .i64 e_19.Day, .int .i64 e_19.Confidence, .int .i64 e_19.Kind, .str e_19.Subject, .int .i64 e_19.Use.Alg, .int .i64 e_19.Use.Bits, .int .i64 e_19.Number, .str e_19.Text]) (.cons .int (.cons .str (.cons .int (.cons .int (.cons .int (.cons .int (.cons .str (.cons .int (.cons .int (.cons .int (.cons .str .nil))))))))))) (Cm Aa.enc_len (Ao he_20) (o := 0) (x' := e_19) (Nat.le_of_ble_eq_true rfl) rfl rfl)) rfl rfl ?_
           refine Ai fun hU => ?_
           refine Bn 153 177 hU ?_
           refine Al ?_
           refine Ai fun hU => ?_
           refine Ad (Bo _ _ []) 177 201 hU rfl rfl ?_
           refine Al ?_
           refine Ai fun hU => ?_
           obtain rfl := oi_ hg
           exact ⟨((W (i_6 + 1), W (j_8 - 1), Cq (Cq data_5 ((i_6).toNat) e_18) ((j_8).toNat) e_19), m5), Nat.lt_succ_self _, hn5, Ba [(0, 0)]⟩
theorem Dl.F (cmp : Aa -> Aa -> Option (Int)) (hf_cmp : ∀ (x0 : Aa) (x1 : Aa) (y : Int), cmp x0 x1 = some y -> Fn Try.prog 10 0 [.agg (Aa.dv x0), .agg (Aa.dv x1)] [] (fun d' b' => d' = .val (.int .i64 y) /\ b' = [])) (rec : (List Aa) -> Int -> Int -> Int -> Option ((List Aa))) (hrec : ∀ (data : List Aa) (a : Int) (b : Int) (limit : Int) (r : (List Aa)), rec data a b limit = some r -> Fn Try.prog 61 1 [.row 0, .val (.int .i64 a), .val (.int .i64 b), .val (.int .i64 limit), .clo 10 0 []] [.row 30 11 (Az Aa.enc data)] (fun d' b' => d' = .tup [] /\ b' = [.row 30 11 (Az Aa.enc r)])) (data : List Aa) (a : Int) (b : Int) (limit : Int) (r : (List Aa)) (hg : Af.F rec data a b limit cmp = some r) : Fn Try.prog 61 1 [.row 0, .val (.int .i64 a), .val (.int .i64 b), .val (.int .i64 limit), .clo 10 0 []] [.row 30 11 (Az Aa.enc data)] (fun d' b' => d' = .tup [] /\ b' = [.row 30 11 (Az Aa.enc r)]) := by
 unfold Af.F at hg
 refine Fn.of Try.func61 rfl rfl rfl fun w0 I ρ0 => ?_
 show Ci _ ⟨w0, I, ρ0, 1, 1, 148⟩ _ _ _
 refine Bn 1 9 Bg ?_
 refine Al ?_
 refine Ai fun hU => ?_
 refine Bn 9 17 hU ?_
 refine Al ?_
 refine Ai fun hU => ?_
 refine A4 ?_
 refine Ll (fun ((a_1, b_1, limit_1, wasBalanced_1, wasPartitioned_1, data_1) : Int × Int × Int × Bool × Bool × List Aa) => mk [(0, .row 0), (1, .val (.int .i64 a_1)), (2, .val (.int .i64 b_1)), (3, .val (.int .i64 limit_1)), (4, .clo 10 0 []), (10, .val (.bool wasBalanced_1)), (11, .val (.bool wasPartitioned_1))] [(0, .row 30 11 (Az Aa.enc data_1))] 1) hg (Ba [(0, 0)]) ?_
 rintro ⟨a_1, b_1, limit_1, wasBalanced_1, wasPartitioned_1, data_1⟩ m1 o1 hg hn1
 replace hg : Af.l1 rec cmp a_1 b_1 limit_1 wasBalanced_1 wasPartitioned_1 data_1 = some o1 := hg
 show Ci _ _ _ _ (mk _ _ _)
 unfold Af.l1 at hg
 refine A4 ?_
 refine Bn 1 33 Bg ?_
 refine Al ?_
 refine Ai fun hU => ?_
 refine Ah ?_
 refine Bn 33 49 hU ?_
 refine Al ?_
 refine Ai fun hU => ?_
 refine C4 rfl hg (fun h5 hg => ?_) fun h5 hg => ?_
 ·refine Ah ?_
  refine Ad (Bo _ _ []) 49 89 hU rfl rfl ?_
  refine Al ?_
  obtain ⟨y, hy, hg⟩ := Ac hg
  refine Hr [0] [0] [] false (F4 data_1 a_1 b_1 cmp hf_cmp _ hy) ?_
  refine Ai fun hU => ?_
  refine Bj ?_
  replace hg := C3 hg hn1
  obtain rfl := oi_ hg
  exact Bi [(0, 0)] ⟨rfl, rfl⟩
 ·refine Aq ?_
  repeat first | refine Cw ?_ | refine Cz ?_
  refine Ah ?_
  refine Bn 49 65 hU ?_
  refine Al ?_
  refine Ai fun hU => ?_
  refine C4 rfl hg (fun h8 hg => ?_) fun h8 hg => ?_
  ·refine Ah ?_
   refine Ad (Bo _ _ []) 65 105 hU rfl rfl ?_
   refine Al ?_
   obtain ⟨y_2, hy_2, hg⟩ := Ac hg
   refine Hr [0] [0] [] false (Gu data_1 a_1 b_1 cmp hf_cmp _ hy_2) ?_
   refine Ai fun hU => ?_
   refine Bj ?_
   replace hg := C3 hg hn1
   obtain rfl := oi_ hg
   exact Bi [(0, 0)] ⟨rfl, rfl⟩
  ·refine Aq ?_
   repeat first | refine Cw ?_ | refine Cz ?_
   refine By (ι := Int × List Aa) (fun ((limit_2, data_2) : Int × List Aa) => mk [(0, .row 0), (1, .val (.int .i64 a_1)), (2, .val (.int .i64 b_1)), (3, .val (.int .i64 limit_2)), (4, .clo 10 0 []), (10, .val (.bool wasBalanced_1)), (11, .val (.bool wasPartitioned_1)), (12, .val (.int .i64 (W (b_1 - a_1))))] [(0, .row 30 11 (Az Aa.enc data_2))] 1) (fun ((limit_2, data_2) : Int × List Aa) => Af.j2 rec cmp a_1 b_1 wasBalanced_1 wasPartitioned_1 limit_2 data_2 = some o1) ?_ ?_
   ·refine Ah ?_
    refine Ad (Bo _ _ []) 65 81 hU rfl rfl ?_
    refine Al ?_
    refine Ai fun hU => ?_
    refine C4 rfl hg (fun h11 hg => ?_) fun h11 hg => ?_
    ·refine Ah ?_
     refine Ad (Bo _ _ []) 81 121 hU rfl rfl ?_
     refine Al ?_
     obtain ⟨y_3, hy_3, hg⟩ := Ac hg
     refine Hr [0] [0] [] false (F3 data_1 a_1 b_1 cmp hf_cmp _ hy_3) ?_
     refine Ai fun hU => ?_
     refine Ad (Bo _ _ []) 121 145 hU rfl rfl ?_
     refine Al ?_
     refine Ai fun hU => ?_
     exact ⟨(W (limit_1 - 1), y_3), hg, Ba [(0, 0)]⟩
    ·refine Aq ?_
     repeat first | refine Cw ?_ | refine Cz ?_
     exact ⟨(limit_1, data_1), hg, Ba [(0, 0)]⟩
   ·rintro ⟨limit_2, data_2⟩ hg
    replace hg : Af.j2 rec cmp a_1 b_1 wasBalanced_1 wasPartitioned_1 limit_2 data_2 = some o1 := hg
    show Ci _ _ _ _ (mk _ _ _)
    unfold Af.j2 at hg
    refine Bn 1 81 Bg ?_
    refine Al ?_
    obtain ⟨y_4, hy_4, hg⟩ := Ac hg
    refine Hr [0] [] [] true (Gi data_2 a_1 b_1 cmp hf_cmp _ hy_4) ?_
    refine Al ?_
    refine Ai fun hU => ?_
    refine By (ι := Int × Int × List Aa) (fun ((pivot_3, hint_3, data_3) : Int × Int × List Aa) => mk [(0, .row 0), (1, .val (.int .i64 a_1)), (2, .val (.int .i64 b_1)), (3, .val (.int .i64 limit_2)), (4, .clo 10 0 []), (10, .val (.bool wasBalanced_1)), (11, .val (.bool wasPartitioned_1)), (12, .val (.int .i64 (W (b_1 - a_1)))), (13, .val (.int .i64 pivot_3)), (14, .val (.int .i64 hint_3))] [(0, .row 30 11 (Az Aa.enc data_3))] 1) (fun ((pivot_3, hint_3, data_3) : Int × Int × List Aa) => Af.j3 rec cmp a_1 b_1 wasBalanced_1 wasPartitioned_1 limit_2 pivot_3 hint_3 data_3 = some o1) ?_ ?_
    ·refine Ah ?_
     refine Ad (Bo _ _ []) 81 97 hU rfl rfl ?_
     refine Al ?_
     refine Ai fun hU => ?_
     refine C4 rfl hg (fun h16 hg => ?_) fun h16 hg => ?_
     ·refine Ah ?_
      refine Ad (Bo _ _ []) 97 137 hU rfl rfl ?_
      refine Al ?_
      obtain ⟨y_5, hy_5, hg⟩ := Ac hg
      refine Hr [0] [0] [] false (Gd data_2 a_1 b_1 cmp hf_cmp _ hy_5) ?_
      refine Ai fun hU => ?_
      refine Bn 137 193 hU ?_
      refine Al ?_
      refine Ai fun hU => ?_
      refine Ad (Bo _ _ []) 193 201 hU rfl rfl ?_
      refine Al ?_
      refine Ai fun hU => ?_
      exact ⟨(W ((W (b_1 - 1)) - (W (y_4.1 - a_1))), 1, y_5), hg, Ba [(0, 0)]⟩
     ·refine Aq ?_
      repeat first | refine Cw ?_ | refine Cz ?_
      exact ⟨(y_4.1, y_4.2, data_2), hg, Ba [(0, 0)]⟩
    ·rintro ⟨pivot_3, hint_3, data_3⟩ hg
     replace hg : Af.j3 rec cmp a_1 b_1 wasBalanced_1 wasPartitioned_1 limit_2 pivot_3 hint_3 data_3 = some o1 := hg
     show Ci _ _ _ _ (mk _ _ _)
     unfold Af.j3 at hg
     refine By (ι := List Aa) (fun (data_5 : List Aa) => mk [(0, .row 0), (1, .val (.int .i64 a_1)), (2, .val (.int .i64 b_1)), (3, .val (.int .i64 limit_2)), (4, .clo 10 0 []), (10, .val (.bool wasBalanced_1)), (11, .val (.bool wasPartitioned_1)), (12, .val (.int .i64 (W (b_1 - a_1)))), (13, .val (.int .i64 pivot_3))] [(0, .row 30 11 (Az Aa.enc data_5))] 1) (fun (data_5 : List Aa) => Af.j5 rec cmp a_1 b_1 wasBalanced_1 wasPartitioned_1 limit_2 pivot_3 data_5 = some o1) ?_ ?_
     ·refine By (ι := Bool) (fun (x75_4 : Bool) => mk [(0, .row 0), (1, .val (.int .i64 a_1)), (2, .val (.int .i64 b_1)), (3, .val (.int .i64 limit_2)), (4, .clo 10 0 []), (10, .val (.bool wasBalanced_1)), (11, .val (.bool wasPartitioned_1)), (12, .val (.int .i64 (W (b_1 - a_1)))), (13, .val (.int .i64 pivot_3)), (75, .val (.bool x75_4))] [(0, .row 30 11 (Az Aa.enc data_3))] 1) (fun (x75_4 : Bool) => Af.j4 rec cmp a_1 b_1 wasBalanced_1 wasPartitioned_1 limit_2 pivot_3 data_3 x75_4 = some o1) ?_ ?_
      ·refine Ad (Bo _ _ []) 1 65 Bg rfl rfl ?_
       refine Al ?_
       rcases Ea hg with ⟨h20, hg⟩ | ⟨h20, hg⟩
       ·refine Al ?_
        rcases Ea hg with ⟨h21, hg⟩ | ⟨h21, hg⟩
        ·refine Al ?_
         refine Ai fun hU => ?_
         exact ⟨decide (hint_3 = 1), hg, Ba [(0, 0)]⟩
        ·refine Al ?_
         refine Ai fun hU => ?_
         exact ⟨false, hg, Ba [(0, 0)]⟩
       ·refine Al ?_
        refine Ai fun hU => ?_
        exact ⟨false, hg, Ba [(0, 0)]⟩
      ·rintro x75_4 hg
       replace hg : Af.j4 rec cmp a_1 b_1 wasBalanced_1 wasPartitioned_1 limit_2 pivot_3 data_3 x75_4 = some o1 := hg
       show Ci _ _ _ _ (mk _ _ _)
       unfold Af.j4 at hg
       refine C4 rfl hg (fun h25 hg => ?_) fun h25 hg => ?_
       ·refine Ah ?_
        refine Ad (Bo _ _ []) 1 41 Bg rfl rfl ?_
        refine Al ?_
        obtain ⟨y_6, hy_6, hg⟩ := Ac hg
        refine Hr [0] [0] [] false (E4 data_3 a_1 b_1 cmp hf_cmp _ hy_6) ?_
        refine Ai fun hU => ?_
        refine C4 rfl hg (fun h27 hg => ?_) fun h27 hg => ?_
        ·refine Vu ?_
         repeat first | refine Cw ?_ | refine Cz ?_
         replace hg := C3 hg hn1
         obtain rfl := oi_ hg
         exact Bi [(0, 0)] ⟨rfl, rfl⟩
        ·refine Aq ?_
         repeat first | refine Cw ?_ | refine Cz ?_
         exact ⟨y_6.2, hg, Ba [(0, 0)]⟩
       ·refine Aq ?_
        repeat first | refine Cw ?_ | refine Cz ?_
        exact ⟨data_3, hg, Ba [(0, 0)]⟩
     ·rintro data_5 hg
      replace hg : Af.j5 rec cmp a_1 b_1 wasBalanced_1 wasPartitioned_1 limit_2 pivot_3 data_5 = some o1 := hg
      show Ci _ _ _ _ (mk _ _ _)
      unfold Af.j5 at hg
      refine Ah ?_
      refine By (ι := Bool) (fun (x97_6 : Bool) => mk [(0, .row 0), (1, .val (.int .i64 a_1)), (2, .val (.int .i64 b_1)), (3, .val (.int .i64 limit_2)), (4, .clo 10 0 []), (10, .val (.bool wasBalanced_1)), (11, .val (.bool wasPartitioned_1)), (12, .val (.int .i64 (W (b_1 - a_1)))), (13, .val (.int .i64 pivot_3)), (97, .val (.bool x97_6))] [(0, .row 30 11 (Az Aa.enc data_5))] 1) (fun (x97_6 : Bool) => Af.j6 rec cmp a_1 b_1 wasBalanced_1 wasPartitioned_1 limit_2 pivot_3 data_5 x97_6 = some o1) ?_ ?_
      ·refine Bv (Bo _ _ []) (by kernel_rfl) [0, 1, 3, 7, 7, 7, 39, 119, 247, 7, 7, 1543, 3591, 8191, 16383, 32767, 65535] 1 137 Bg rfl rfl (by kernel_rfl) ?_
       refine Al ?_
       rcases Ea hg with ⟨h28, hg⟩ | ⟨h28, hg⟩
       ·refine Al ?_
        obtain ⟨e, he, hg⟩ := Ac hg
        refine Al ?_
        refine Cu (rd := [0]) (B7 rfl rfl h28) rfl (Bt Cg (Bd Aa.enc_len (Ao he) (o := 0) (m := 11) (cs := [.int .i64 e.Source, .str e.Host, .int .i64 e.Machine, .int .i64 e.Day, .int .i64 e.Confidence, .int .i64 e.Kind, .str e.Subject, .int .i64 e.Use.Alg, .int .i64 e.Use.Bits, .int .i64 e.Number, .str e.Text]) rfl (by decide) rfl) (Ap Aa.enc_len (Ao he) (o := 0) (m := 11) (by decide) rfl)) rfl rfl ?_
        refine Al ?_
        obtain ⟨e_2, he_2, hg⟩ := Ac hg
        refine Al ?_
        refine Cu (rd := [0]) (B7 rfl rfl h28) rfl (Bt Cg (Bd Aa.enc_len (Ao he_2) (o := 0) (m := 11) (cs := [.int .i64 e_2.Source, .str e_2.Host, .int .i64 e_2.Machine, .int .i64 e_2.Day, .int .i64 e_2.Confidence, .int .i64 e_2.Kind, .str e_2.Subject, .int .i64 e_2.Use.Alg, .int .i64 e_2.Use.Bits, .int .i64 e_2.Number, .str e_2.Text]) rfl (by decide) rfl) (Ap Aa.enc_len (Ao he_2) (o := 0) (m := 11) (by decide) rfl)) rfl rfl ?_
        obtain ⟨y_7, hy_7, hg⟩ := Ac hg
        refine Ck (rd := []) (ps := []) (gs := []) false (B7 rfl rfl h28) rfl (hf_cmp e e_2 _ hy_7) rfl rfl (.cons (.agg (.cons .val (.cons .val (.cons .val (.cons .val (.cons .val (.cons .val (.cons .val (.cons .val (.cons .val (.cons .val (.cons .val .nil)))))))))))) (.cons (.agg (.cons .val (.cons .val (.cons .val (.cons .val (.cons .val (.cons .val (.cons .val (.cons .val (.cons .val (.cons .val (.cons .val .nil)))))))))))) .nil)) rfl rfl (by intro h; cases h) rfl rfl rfl rfl ?_
        refine Al ?_
        refine Ai fun hU => ?_
        exact ⟨!(decide (y_7 < 0)), hg, Ba [(0, 0)]⟩
       ·refine Al ?_
        refine Ai fun hU => ?_
        exact ⟨false, hg, Ba [(0, 0)]⟩
      ·rintro x97_6 hg
       replace hg : Af.j6 rec cmp a_1 b_1 wasBalanced_1 wasPartitioned_1 limit_2 pivot_3 data_5 x97_6 = some o1 := hg
       show Ci _ _ _ _ (mk _ _ _)
       unfold Af.j6 at hg
       refine C4 rfl hg (fun h31 hg => ?_) fun h31 hg => ?_
       ·refine Ah ?_
        refine Ad (Bo _ _ []) 1 57 Bg rfl rfl ?_
        refine Al ?_
        obtain ⟨y_8, hy_8, hg⟩ := Ac hg
        refine Hr [0] [0] [] false (Fy data_5 a_1 b_1 pivot_3 cmp hf_cmp _ hy_8) ?_
        refine Al ?_
        refine Ai fun hU => ?_
        refine Bn 57 73 hU ?_
        refine Al ?_
        refine Ai fun hU => ?_
        refine Cb ?_
        repeat first | refine Cw ?_ | refine Cz ?_
        obtain rfl := oi_ hg
        exact ⟨((y_8.1, b_1, limit_2, wasBalanced_1, wasPartitioned_1, y_8.2), m1), Nat.lt_succ_self _, hn1, Ba [(0, 0)]⟩
       ·refine Aq ?_
        repeat first | refine Cw ?_ | refine Cz ?_
        refine Bn 1 89 Bg ?_
        refine Al ?_
        obtain ⟨y_9, hy_9, hg⟩ := Ac hg
        refine Hr [0] [0] [] false (Gn data_5 a_1 b_1 pivot_3 cmp hf_cmp _ hy_9) ?_
        refine Al ?_
        refine Ai fun hU => ?_
        refine Bn 89 105 hU ?_
        refine Al ?_
        refine Ai fun hU => ?_
        refine Bn 105 169 hU ?_
        refine Al ?_
        refine Ai fun hU => ?_
        refine Bn 169 193 hU ?_
        refine Al ?_
        obtain ⟨q, hq, hg⟩ := Ac hg
        refine Ca rfl rfl (Qq hq) rfl rfl ?_
        refine Al ?_
        refine Ai fun hU => ?_
        refine Bn 193 217 hU ?_
        refine Al ?_
        refine Ai fun hU => ?_
        refine C4 rfl hg (fun h39 hg => ?_) fun h39 hg => ?_
        ·refine Ah ?_
         refine Ad (Bo _ _ []) 217 249 hU rfl rfl ?_
         refine Al ?_
         refine Ai fun hU => ?_
         refine Bn 249 297 hU ?_
         refine Al ?_
         obtain ⟨y_10, hy_10, hg⟩ := Ac hg
         refine Hr [0] [0] [] false (hrec y_9.2.2 a_1 y_9.1 limit_2 _ hy_10) ?_
         refine Ai fun hU => ?_
         refine Ad (Bo _ _ []) 297 321 hU rfl rfl ?_
         refine Al ?_
         refine Ai fun hU => ?_
         obtain rfl := oi_ hg
         exact ⟨((W (y_9.1 + 1), b_1, limit_2, decide (q <= (W (y_9.1 - a_1))), y_9.2.1, y_10), m1), Nat.lt_succ_self _, hn1, Ba [(0, 0)]⟩
        ·refine Ah ?_
         refine Ad (Bo _ _ []) 217 249 hU rfl rfl ?_
         refine Al ?_
         refine Ai fun hU => ?_
         refine Bn 249 305 hU ?_
         refine Al ?_
         obtain ⟨y_11, hy_11, hg⟩ := Ac hg
         refine Hr [0] [0] [] false (hrec y_9.2.2 (W (y_9.1 + 1)) b_1 limit_2 _ hy_11) ?_
         refine Ai fun hU => ?_
         refine Ad (Bo _ _ []) 305 321 hU rfl rfl ?_
         refine Al ?_
         refine Ai fun hU => ?_
         obtain rfl := oi_ hg
         exact ⟨((a_1, y_9.1, limit_2, decide (q <= (W (b_1 - y_9.1))), y_9.2.1, y_11), m1), Nat.lt_succ_self _, hn1, Ba [(0, 0)]⟩
theorem Dl (data : List Aa) (a : Int) (b : Int) (limit : Int) (cmp : Aa -> Aa -> Option (Int)) (hf_cmp : ∀ (x0 : Aa) (x1 : Aa) (y : Int), cmp x0 x1 = some y -> Fn Try.prog 10 0 [.agg (Aa.dv x0), .agg (Aa.dv x1)] [] (fun d' b' => d' = .val (.int .i64 y) /\ b' = [])) (r : (List Aa)) (hg : Af data a b limit cmp = some r) : Fn Try.prog 61 1 [.row 0, .val (.int .i64 a), .val (.int .i64 b), .val (.int .i64 limit), .clo 10 0 []] [.row 30 11 (Az Aa.enc data)] (fun d' b' => d' = .tup [] /\ b' = [.row 30 11 (Az Aa.enc r)]) :=
 cU (motive := fun (x : List Aa × Int × Int × Int) (r : (List Aa)) => Fn Try.prog 61 1 [.row 0, .val (.int .i64 x.2.1), .val (.int .i64 x.2.2.1), .val (.int .i64 x.2.2.2), .clo 10 0 []] [.row 30 11 (Az Aa.enc x.1)] (fun d' b' => d' = .tup [] /\ b' = [.row 30 11 (Az Aa.enc r)])) (fun rec hrec x r h => Dl.F cmp hf_cmp _ (fun data a b limit r h => hrec (data, a, b, limit) r h) x.1 x.2.1 x.2.2.1 x.2.2.2 r h) (data, a, b, limit) r hg
theorem Hi (x' : List Aa) (cmp : Aa -> Aa -> Option (Int)) (hf_cmp : ∀ (x0 : Aa) (x1 : Aa) (y : Int), cmp x0 x1 = some y -> Fn Try.prog 10 0 [.agg (Aa.dv x0), .agg (Aa.dv x1)] [] (fun d' b' => d' = .val (.int .i64 y) /\ b' = [])) (r : (List Aa)) (hg : Di x' cmp = some r) : Fn Try.prog 44 1 [.row 0, .clo 10 0 []] [.row 30 11 (Az Aa.enc x')] (fun d' b' => d' = .tup [] /\ b' = [.row 30 11 (Az Aa.enc r)]) := by
 unfold Di at hg
 refine Fn.of Try.func44 rfl rfl rfl fun w0 I ρ0 => ?_
 show Ci _ ⟨w0, I, ρ0, 1, 1, 14⟩ _ _ _
 refine Bn 1 25 Bg ?_
 refine Al ?_
 refine Ai fun hU => ?_
 refine Ad (Bo _ _ []) 25 81 hU rfl rfl ?_
 refine Al ?_
 refine Ca rfl rfl (Vf Zb aX) rfl rfl ?_
 obtain ⟨y, hy, hg⟩ := Ac hg
 refine E5 (Ns _ _ hy) ?_
 refine Al ?_
 obtain ⟨y_2, hy_2, hg⟩ := Ac hg
 refine Hr [0] [0] [] false (Dl x' 0 (x'.length : Int) y cmp hf_cmp _ hy_2) ?_
 refine Ai fun hU => ?_
 obtain rfl := oi_ hg
 exact Bi [(0, 0)] ⟨rfl, rfl⟩
theorem It (s : List Aa) (r : (List Aa)) (hg : A8 s = some r) : Fn Try.prog 45 0 [.row 0] [.row 30 11 (Az Aa.enc s)] (fun d' b' => d' = .row 0 /\ b' = [.row 30 11 (Az Aa.enc r)]) := by
 unfold A8 at hg
 refine Fn.of Try.func45 rfl rfl rfl fun w0 I ρ0 => ?_
 show Ci _ ⟨w0, I, ρ0, 0, 1, 61⟩ _ _ _
 refine Bn 1 9 Bg ?_
 refine Al ?_
 refine Ai fun hU => ?_
 refine Ah ?_
 refine Bn 9 33 hU ?_
 refine Al ?_
 refine Ai fun hU => ?_
 refine C4 rfl hg (fun h3 hg => ?_) fun h3 hg => ?_
 ·refine Ah ?_
  refine Ad (Bo _ _ []) 33 49 hU rfl rfl ?_
  refine Al ?_
  refine Ai fun hU => ?_
  refine Bj ?_
  obtain rfl := oi_ hg
  exact Bi [(0, 0)] ⟨rfl, rfl⟩
 ·refine Aq ?_
  repeat first | refine Cw ?_ | refine Cz ?_
  refine Ah ?_
  refine Bn 33 41 hU ?_
  refine Al ?_
  refine Ai fun hU => ?_
  refine A4 ?_
  refine Ll (fun (k_1 : Int) => mk [(0, .row 0), (3, .val (.int .i64 k_1))] [(0, .row 30 11 (Az Aa.enc s))] 1) hg (Ba [(0, 0)]) ?_
  rintro k_1 m1 o1 hg hn1
  replace hg : A8.l1 s k_1 = some o1 := hg
  show Ci _ _ _ _ (mk _ _ _)
  unfold A8.l1 at hg
  refine Ah ?_
  refine Bn 1 33 Bg ?_
  refine Al ?_
  refine Ai fun hU => ?_
  refine C4 rfl hg (fun h7 hg => ?_) fun h7 hg => ?_
  ·refine Aq ?_
   repeat first | refine Cw ?_ | refine Cz ?_
   refine Ah ?_
   refine A4 ?_
   refine Ah ?_
   refine Bv (Bo _ _ []) (by kernel_rfl) [0, 0, 3, 7, 0, 0, 32, 112, 240, 511] 33 113 hU rfl rfl (by kernel_rfl) ?_
   refine Al ?_
   obtain ⟨e, he, hg⟩ := Ac hg
   refine Al ?_
   refine Cu (rd := [0]) rfl rfl (Bt Cg (Bd Aa.enc_len (Ao he) (o := 0) (m := 11) (cs := [.int .i64 e.Source, .str e.Host, .int .i64 e.Machine, .int .i64 e.Day, .int .i64 e.Confidence, .int .i64 e.Kind, .str e.Subject, .int .i64 e.Use.Alg, .int .i64 e.Use.Bits, .int .i64 e.Number, .str e.Text]) rfl (by decide) rfl) (Ap Aa.enc_len (Ao he) (o := 0) (m := 11) (by decide) rfl)) rfl rfl ?_
   refine Al ?_
   obtain ⟨e_2, he_2, hg⟩ := Ac hg
   refine Al ?_
   refine Cu (rd := [0]) rfl rfl (Bt Cg (Bd Aa.enc_len (Ao he_2) (o := 0) (m := 11) (cs := [.int .i64 e_2.Source, .str e_2.Host, .int .i64 e_2.Machine, .int .i64 e_2.Day, .int .i64 e_2.Confidence, .int .i64 e_2.Kind, .str e_2.Subject, .int .i64 e_2.Use.Alg, .int .i64 e_2.Use.Bits, .int .i64 e_2.Number, .str e_2.Text]) rfl (by decide) rfl) (Ap Aa.enc_len (Ao he_2) (o := 0) (m := 11) (by decide) rfl)) rfl rfl ?_
   refine Ca rfl rfl (Lc e e_2) rfl rfl ?_
   refine Ai fun hU => ?_
   refine C4 rfl hg (fun h9 hg => ?_) fun h9 hg => ?_
   ·refine Ah ?_
    refine Ad (Bo _ _ []) 113 145 hU rfl rfl ?_
    refine Al ?_
    obtain ⟨l, hl, hg⟩ := Ac hg
    refine Cu (rd := [0]) rfl rfl (Q4 Ha Aa.enc_len hl) rfl rfl ?_
    refine Al ?_
    refine Ai fun hU => ?_
    refine Ah ?_
    refine Bn 145 153 hU ?_
    refine Al ?_
    refine Ai fun hU => ?_
    refine A4 ?_
    refine Ll (fun ((k_2, k2_2, s_2) : Int × Int × List Aa) => mk [(0, .row 0), (3, .val (.int .i64 k_2)), (4, .part 0 (((k_1 : Int).toNat) * 11) (((s.length : Int) : Int).toNat - (k_1 : Int).toNat)), (5, .val (.int .i64 k2_2))] [(0, .row 30 11 (Az Aa.enc s_2))] 1) hg (Ba [(0, 0)]) ?_
    rintro ⟨k_2, k2_2, s_2⟩ m2 o2 hg hn2
    replace hg : A8.l2 s k_1 k_2 k2_2 s_2 = some o2 := hg
    show Ci _ _ _ _ (mk _ _ _)
    unfold A8.l2 at hg
    refine Ah ?_
    refine Bn 1 33 Bg ?_
    refine Al ?_
    refine Ca rfl rfl (.len Ha.elem .part) rfl rfl ?_
    refine Al ?_
    refine Ai fun hU => ?_
    refine C4 rfl hg (fun h13 hg => ?_) fun h13 hg => ?_
    ·refine Aq ?_
     repeat first | refine Cw ?_ | refine Cz ?_
     refine By (ι := Int × List Aa) (fun ((k_3, s_3) : Int × List Aa) => mk [(0, .row 0), (3, .val (.int .i64 k_3)), (4, .part 0 (((k_1 : Int).toNat) * 11) (((s.length : Int) : Int).toNat - (k_1 : Int).toNat)), (5, .val (.int .i64 k2_2))] [(0, .row 30 11 (Az Aa.enc s_3))] 1) (fun ((k_3, s_3) : Int × List Aa) => A8.j3 k2_2 k_3 s_3 = some o2) ?_ ?_
     ·refine A4 ?_
      refine Ah ?_
      refine Bv (Bo _ _ []) (by kernel_rfl) [0, 0, 3, 7, 0, 0, 32, 112, 240, 511] 33 113 hU rfl rfl (by kernel_rfl) ?_
      refine Al ?_
      obtain ⟨e_3, he_3, hg⟩ := Ac hg
      refine Cu (rd := [0]) rfl rfl (Xa Ha (O2 he_3) (Ao he_3)) rfl rfl ?_
      refine Cu (rd := [0]) rfl rfl (Bt Cg (Bd Aa.enc_len (O8 (a := (k_1 : Int).toNat) (Ao he_3)) (o := 0) (m := 11) (cs := [.int .i64 e_3.Source, .str e_3.Host, .int .i64 e_3.Machine, .int .i64 e_3.Day, .int .i64 e_3.Confidence, .int .i64 e_3.Kind, .str e_3.Subject, .int .i64 e_3.Use.Alg, .int .i64 e_3.Use.Bits, .int .i64 e_3.Number, .str e_3.Text]) rfl (by decide) rfl) (Ap Aa.enc_len (O8 (a := (k_1 : Int).toNat) (Ao he_3)) (o := 0) (m := 11) (by decide) rfl)) rfl rfl ?_
      refine Al ?_
      obtain ⟨e_4, he_4, hg⟩ := Ac hg
      refine Cu (rd := [0]) rfl rfl (Xa Ha (O2 he_4) (Ao he_4)) rfl rfl ?_
      refine Cu (rd := [0]) rfl rfl (Bt Cg (Bd Aa.enc_len (O8 (a := (k_1 : Int).toNat) (Ao he_4)) (o := 0) (m := 11) (cs := [.int .i64 e_4.Source, .str e_4.Host, .int .i64 e_4.Machine, .int .i64 e_4.Day, .int .i64 e_4.Confidence, .int .i64 e_4.Kind, .str e_4.Subject, .int .i64 e_4.Use.Alg, .int .i64 e_4.Use.Bits, .int .i64 e_4.Number, .str e_4.Text]) rfl (by decide) rfl) (Ap Aa.enc_len (O8 (a := (k_1 : Int).toNat) (Ao he_4)) (o := 0) (m := 11) (by decide) rfl)) rfl rfl ?_
      refine Ca rfl rfl (Tz e_3 e_4) rfl rfl ?_
      refine Ai fun hU => ?_
      refine C4 rfl hg (fun h15 hg => ?_) fun h15 hg => ?_
      ·refine Ah ?_
       refine Ad (Bo _ _ []) 113 177 hU rfl rfl ?_
       refine Al ?_
       refine Cu (rd := [0]) rfl rfl (Xa Ha (O2 he_3) (Ao he_3)) rfl rfl ?_
       refine Cu (rd := [0]) rfl rfl (Bt Cg (Bd Aa.enc_len (O8 (a := (k_1 : Int).toNat) (Ao he_3)) (o := 0) (m := 11) (cs := [.int .i64 e_3.Source, .str e_3.Host, .int .i64 e_3.Machine, .int .i64 e_3.Day, .int .i64 e_3.Confidence, .int .i64 e_3.Kind, .str e_3.Subject, .int .i64 e_3.Use.Alg, .int .i64 e_3.Use.Bits, .int .i64 e_3.Number, .str e_3.Text]) rfl (by decide) rfl) (Ap Aa.enc_len (O8 (a := (k_1 : Int).toNat) (Ao he_3)) (o := 0) (m := 11) (by decide) rfl)) rfl rfl ?_
       obtain ⟨e_5, he_5, hg⟩ := Ac hg
       refine Al ?_
       refine Cu (rd := [0]) rfl rfl (Dh Cg rfl (Ap Aa.enc_len (Ao he_5) (o := 0) (m := 11) (by decide) rfl) G3 (cs' := [.int .i64 e_3.Source, .str e_3.Host, .int .i64 e_3.Machine, .int .i64 e_3.Day, .int .i64 e_3.Confidence, .int .i64 e_3.Kind, .str e_3.Subject, .int .i64 e_3.Use.Alg, .int .i64 e_3.Use.Bits, .int .i64 e_3.Number, .str e_3.Text]) (.cons .int (.cons .str (.cons .int (.cons .int (.cons .int (.cons .int (.cons .str (.cons .int (.cons .int (.cons .int (.cons .str .nil))))))))))) (Cm Aa.enc_len (Ao he_5) (o := 0) (x' := e_3) (Nat.le_of_ble_eq_true rfl) rfl rfl)) rfl rfl ?_
       refine Ai fun hU => ?_
       refine Ad (Bo _ _ []) 177 201 hU rfl rfl ?_
       refine Al ?_
       refine Ai fun hU => ?_
       exact ⟨(W (k_2 + 1), Cq s_2 ((k_2).toNat) e_3), hg, Ba [(0, 0)]⟩
      ·refine Aq ?_
       repeat first | refine Cw ?_ | refine Cz ?_
       exact ⟨(k_2, s_2), hg, Ba [(0, 0)]⟩
     ·rintro ⟨k_3, s_3⟩ hg
      replace hg : A8.j3 k2_2 k_3 s_3 = some o2 := hg
      show Ci _ _ _ _ (mk _ _ _)
      unfold A8.j3 at hg
      refine Ad (Bo _ _ []) 1 25 Bg rfl rfl ?_
      refine Al ?_
      refine Ai fun hU => ?_
      obtain rfl := oi_ hg
      exact ⟨((k_3, W (k2_2 + 1), s_3), m2), Nat.lt_succ_self _, hn2, Ba [(0, 0)]⟩
    ·refine Cb ?_
     repeat first | refine Cw ?_ | refine Cz ?_
     replace hg := C3 hg hn2
     refine Bn 33 65 hU ?_
     refine Al ?_
     obtain ⟨l_2, hl_2, hg⟩ := Ac hg
     refine Cu (rd := [0]) rfl rfl (Q4 Ha Aa.enc_len hl_2) rfl rfl ?_
     obtain ⟨l_3, hl_3, hg⟩ := Ac hg
     refine I3 (rd := [0]) rfl rfl (fK (f := Aa.enc) (a := (k_2 : Int).toNat) (m := (((s_2.length : Int) : Int).toNat - (k_2 : Int).toNat)) (z0 := (Aa.mk 0 (⟨#[]⟩ : ByteArray) 0 0 0 0 (⟨#[]⟩ : ByteArray) (Bk.mk 0 0) 0 (⟨#[]⟩ : ByteArray))) Ha Aa.enc_len (gW (ck := [none, none, none, none, none, none, none, none, none, none, none]) Yy (.cons .int (.cons .str (.cons .int (.cons .int (.cons .int (.cons .int (.cons .str (.cons .int (.cons .int (.cons .int (.cons .str .nil)))))))))))) (.head _) hl_3) rfl rfl (fun _ => ⟨_, rfl⟩) ?_
     rintro _ rfl
     refine Ai fun hU => ?_
     refine Bn 65 97 hU ?_
     refine Al ?_
     obtain ⟨l_4, hl_4, hg⟩ := Ac hg
     refine Cu (rd := [0]) rfl rfl (Rm Ha Aa.enc_len hl_4) rfl rfl ?_
     refine Al ?_
     refine Ai fun hU => ?_
     refine Em (σ' := mk [(2, .part 0 (((0 : Int).toNat) * 11) ((k_2 : Int).toNat - (0 : Int).toNat))] [(0, .row 30 11 (Az Aa.enc l_3))] 1) (Ba [(0, 0)]) ?_
     refine Em (σ' := mk [(2, .row 0)] [(0, .row 30 11 (Az Aa.enc (l_3.take ((k_2 : Int).toNat - (0 : Int).toNat))))] 1) (oT 2 0 Aa.enc_len (Nat.le_trans (Nat.le_add_left _ _) (Q8 hl_4)) rfl rfl rfl rfl) ?_
     refine Bj ?_
     replace hg := C3 hg hn1
     obtain rfl := oi_ hg
     exact Bi [(0, 0)] ⟨rfl, rfl⟩
   ·refine Aq ?_
    repeat first | refine Cw ?_ | refine Cz ?_
    refine Ad (Bo _ _ []) 113 137 hU rfl rfl ?_
    refine Al ?_
    refine Ai fun hU => ?_
    obtain rfl := oi_ hg
    exact ⟨(W (k_1 + 1), m1), Nat.lt_succ_self _, hn1, Ba [(0, 0)]⟩
  ·refine Cb ?_
   repeat first | refine Cw ?_ | refine Cz ?_
   replace hg := C3 hg hn1
   refine Bn 33 49 hU ?_
   refine Al ?_
   refine Ai fun hU => ?_
   refine Bj ?_
   obtain rfl := oi_ hg
   exact Bi [(0, 0)] ⟨rfl, rfl⟩
end Go.Proofs.Ytjomajedgbcngaa
