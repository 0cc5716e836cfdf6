import Derived.Test.YtjomajedgbcngaaT1
import Derived.Test.YtjomajedgbcngaaA1
import Derived.Test.YtjomajedgbcngaaA3
import Derived.Test.YtjomajedgbcngaaA6
import Derived.Test.YtjomajedgbcngaaA7
set_option linter.unusedVariables false
set_option linter.unusedSimpArgs false
set_option maxRecDepth 100000
set_option maxHeartbeats 1600000
namespace Go.Proofs.Ytjomajedgbcngaa
open Go.RowKit
theorem Jc (l : (List Aa)) (r : (List Aa) × Int) (hg : Cj l = some r) : Fn Try.prog 15 0 [.sl 11 (Az Aa.enc l)] [] (fun d' b' => d' = .tup [.row 0, .val (.int .i64 r.2)] /\ b' = [.row 30 11 (Az Aa.enc r.1)]) := by
 unfold Cj at hg
 refine Fn.of Try.func15 rfl rfl rfl fun w0 I ρ0 => ?_
 show Ci _ ⟨w0, I, ρ0, 0, 0, 38⟩ _ _ _
 refine Bn 0 16 Bg ?_
 refine Al ?_
 refine Ai fun hU => ?_
 refine Ah ?_
 refine Bn 16 24 hU ?_
 refine Al ?_
 refine Ai fun hU => ?_
 refine A4 ?_
 refine Ll (fun (i_1 : Int) => mk [(0, .sl 11 (Az Aa.enc l)), (4, .val (.int .i64 i_1))] [] 0) hg (Ba []) ?_
 rintro i_1 m1 o1 hg hn1
 replace hg : Cj.l1 l i_1 = some o1 := hg
 show Ci _ _ _ _ (mk _ _ _)
 unfold Cj.l1 at hg
 refine Ah ?_
 refine Bn 0 32 Bg ?_
 refine Al ?_
 refine Ai fun hU => ?_
 refine C4 rfl hg (fun h4 hg => ?_) fun h4 hg => ?_
 ·refine Aq ?_
  repeat first | refine Cw ?_ | refine Cz ?_
  refine Ah ?_
  refine A4 ?_
  refine Bn 32 80 hU ?_
  refine Al ?_
  obtain ⟨e, he, hg⟩ := Ac hg
  refine Al ?_
  refine Ca rfl rfl (Cd Cg (Bd Aa.enc_len (Ao he) (o := 0) (m := 11) (cs := [.int .i64 e.Source, .str e.Host, .int .i64 e.Machine, .int .i64 e.Day, .int .i64 e.Confidence, .int .i64 e.Kind, .str e.Subject, .int .i64 e.Use.Alg, .int .i64 e.Use.Bits, .int .i64 e.Number, .str e.Text]) rfl (by decide) rfl) (Ap Aa.enc_len (Ao he) (o := 0) (m := 11) (by decide) rfl)) rfl rfl ?_
  obtain ⟨y, hy, hg⟩ := Ac hg
  refine E5 (Po _ _ hy) ?_
  refine Al ?_
  refine Ai fun hU => ?_
  refine Bn 80 96 hU ?_
  refine Al ?_
  refine Ai fun hU => ?_
  refine C4 rfl hg (fun h7 hg => ?_) fun h7 hg => ?_
  ·refine Ah ?_
   refine Ad (Bo _ _ []) 96 120 hU rfl rfl ?_
   refine Al ?_
   refine Ai fun hU => ?_
   refine Bj ?_
   replace hg := C3 hg hn1
   obtain rfl := oi_ hg
   exact Bi [] ⟨rfl, rfl⟩
  ·refine Aq ?_
   repeat first | refine Cw ?_ | refine Cz ?_
   refine Ad (Bo _ _ []) 96 120 hU rfl rfl ?_
   refine Al ?_
   refine Ai fun hU => ?_
   obtain rfl := oi_ hg
   exact ⟨(W (i_1 + 1), m1), Nat.lt_succ_self _, hn1, Ba []⟩
 ·refine Cb ?_
  repeat first | refine Cw ?_ | refine Cz ?_
  replace hg := C3 hg hn1
  refine Bn 32 40 hU ?_
  refine Al ?_
  refine Ai fun hU => ?_
  refine Ah ?_
  refine Bn 40 48 hU ?_
  refine Al ?_
  refine Ai fun hU => ?_
  refine A4 ?_
  refine Ll (fun ((i_2, out_2) : Int × List Aa) => mk [(0, .sl 11 (Az Aa.enc l)), (6, .row 0), (7, .val (.int .i64 i_2))] [(0, .row 30 11 (Az Aa.enc out_2))] 1) hg (Ba []) ?_
  rintro ⟨i_2, out_2⟩ m2 o2 hg hn2
  replace hg : Cj.l2 l i_2 out_2 = some o2 := hg
  show Ci _ _ _ _ (mk _ _ _)
  unfold Cj.l2 at hg
  refine Ah ?_
  refine Bn 1 33 Bg ?_
  refine Al ?_
  refine Ai fun hU => ?_
  refine C4 rfl hg (fun h13 hg => ?_) fun h13 hg => ?_
  ·refine Aq ?_
   repeat first | refine Cw ?_ | refine Cz ?_
   refine Ah ?_
   refine A4 ?_
   refine Bn 33 89 hU ?_
   refine Al ?_
   obtain ⟨e_2, he_2, hg⟩ := Ac hg
   refine Al ?_
   refine Ca rfl rfl (Cd Cg (Bd Aa.enc_len (Ao he_2) (o := 0) (m := 11) (cs := [.int .i64 e_2.Source, .str e_2.Host, .int .i64 e_2.Machine, .int .i64 e_2.Day, .int .i64 e_2.Confidence, .int .i64 e_2.Kind, .str e_2.Subject, .int .i64 e_2.Use.Alg, .int .i64 e_2.Use.Bits, .int .i64 e_2.Number, .str e_2.Text]) rfl (by decide) rfl) (Ap Aa.enc_len (Ao he_2) (o := 0) (m := 11) (by decide) rfl)) rfl rfl ?_
   obtain ⟨y_2, hy_2, hg⟩ := Ac hg
   refine Gh (rd := [0]) (ps := []) (gs := [0]) false rfl (Ry _ _ _ hy_2) rfl rfl (.cons (.rowK rfl) (.cons (.agg (.cons .val (.cons .val (.cons .val (.cons .val (.cons .val (.cons .val (.cons .val (.cons .val (.cons .val (.cons .val (.cons .val .nil)))))))))))) .nil)) ⟨_, _, _, rfl, .head _, rfl, rfl⟩ rfl (by intro h; cases h) rfl (by intro h; first | (cases h; done) | exact ⟨_, _, ⟨rfl, rfl⟩, by simp, by simp⟩) ?_
   rintro _ _ ⟨rfl, rfl⟩
   refine Al ?_
   refine Ai fun hU => ?_
   refine Bn 89 113 hU ?_
   refine Al ?_
   refine Ai fun hU => ?_
   refine C4 rfl hg (fun h16 hg => ?_) fun h16 hg => ?_
   ·refine Ah ?_
    refine Ad (Bo _ _ []) 113 129 hU rfl rfl ?_
    refine Al ?_
    refine Ai fun hU => ?_
    refine Bj ?_
    replace hg := C3 hg hn2
    obtain rfl := oi_ hg
    exact Bi [] ⟨rfl, rfl⟩
   ·refine Aq ?_
    repeat first | refine Cw ?_ | refine Cz ?_
    refine Ad (Bo _ _ []) 113 137 hU rfl rfl ?_
    refine Al ?_
    refine Ai fun hU => ?_
    obtain rfl := oi_ hg
    exact ⟨((W (i_2 + 1), y_2), m2), Nat.lt_succ_self _, hn2, Ba [(0, 73)]⟩
  ·refine Cb ?_
   repeat first | refine Cw ?_ | refine Cz ?_
   replace hg := C3 hg hn2
   refine Bn 33 57 hU ?_
   refine Al ?_
   refine Ai fun hU => ?_
   refine Bj ?_
   obtain rfl := oi_ hg
   exact Bi [(0, 0)] ⟨rfl, rfl⟩
theorem Fp (d : Aj) (most : Int) (r : (List Aa) × Aj) (hg : C9 d most = some r) : Fn Try.prog 12 1 [.ptr 0 0, .val (.int .i64 most)] [.box [.sl 1 (Az eI d.L), .val (.int .i64 d.At)] 49] (fun d' b' => d' = .row 1 /\ b' = [.box [.sl 1 (Az eI r.2.L), .val (.int .i64 r.2.At)] 49, .row 30 11 (Az Aa.enc r.1)]) := by
 unfold C9 at hg
 refine Fn.of Try.func12 rfl rfl rfl fun w0 I ρ0 => ?_
 show Ci _ ⟨w0, I, ρ0, 1, 1, 28⟩ _ _ _
 refine Bn 1 9 Bg ?_
 refine Al ?_
 refine Ai fun hU => ?_
 refine Bn 9 17 hU ?_
 refine Al ?_
 refine Ai fun hU => ?_
 refine Ah ?_
 refine Bn 17 57 hU ?_
 refine Al ?_
 obtain ⟨y, hy, hg⟩ := Ac hg
 refine Hr [0] [0] [] false (Dd _ _ _ hy) ?_
 refine Al ?_
 refine Ai fun hU => ?_
 refine A4 ?_
 refine Ll (fun ((i_1, d_1, l_1) : Int × Aj × List Aa) => mk [(0, .ptr 0 0), (5, .row 1), (6, .val (.int .i64 i_1))] [(0, .box [.sl 1 (Az eI d_1.L), .val (.int .i64 d_1.At)] 49), (1, .row 30 11 (Az Aa.enc l_1))] 2) hg (Ba [(0, 0)]) ?_
 rintro ⟨i_1, d_1, l_1⟩ m1 o1 hg hn1
 replace hg : C9.l1 i_1 d_1 l_1 = some o1 := hg
 show Ci _ _ _ _ (mk _ _ _)
 unfold C9.l1 at hg
 refine Ah ?_
 refine Bn 2 18 Bg ?_
 refine Al ?_
 refine Ai fun hU => ?_
 refine C4 rfl hg (fun h5 hg => ?_) fun h5 hg => ?_
 ·refine Aq ?_
  repeat first | refine Cw ?_ | refine Cz ?_
  refine Ah ?_
  refine A4 ?_
  refine Ad (Bo _ _ []) 18 66 hU rfl rfl ?_
  refine Al ?_
  obtain ⟨y_2, hy_2, hg⟩ := Ac hg
  refine Hr [0] [0] [] false (Gx _ _ hy_2) ?_
  refine Ca rfl rfl (Bb Ha Yy (by decide) rfl rfl rfl rfl G3 (cs := [.int .i64 y_2.1.Source, .str y_2.1.Host, .int .i64 y_2.1.Machine, .int .i64 y_2.1.Day, .int .i64 y_2.1.Confidence, .int .i64 y_2.1.Kind, .str y_2.1.Subject, .int .i64 y_2.1.Use.Alg, .int .i64 y_2.1.Use.Bits, .int .i64 y_2.1.Number, .str y_2.1.Text]) (.cons .int (.cons .str (.cons .int (.cons .int (.cons .int (.cons .int (.cons .str (.cons .int (.cons .int (.cons .int (.cons .str .nil))))))))))) rfl (l := ([y_2.1] : List Aa)) (f := Aa.enc) rfl) rfl rfl ?_
  obtain ⟨l, hl, hg⟩ := Ac hg
  refine Cu (rd := [1, 42]) rfl rfl (Hm Ha Aa.enc_len .row rfl .row rfl hl rfl) rfl rfl ?_
  refine Al ?_
  refine Ai fun hU => ?_
  refine Ad (Bo _ _ []) 66 90 hU rfl rfl ?_
  refine Al ?_
  refine Ai fun hU => ?_
  obtain rfl := oi_ hg
  exact ⟨((W (i_1 - 1), y_2.2, l), m1), Nat.lt_succ_self _, hn1, Ba [(0, 0), (1, 50)]⟩
 ·refine Cb ?_
  repeat first | refine Cw ?_ | refine Cz ?_
  replace hg := C3 hg hn1
  refine Ah ?_
  refine Em (σ' := mk [(5, .sl 11 (Az Aa.enc l_1))] [(0, .box [.sl 1 (Az eI d_1.L), .val (.int .i64 d_1.At)] 49)] 1) (Ba [(0, 0)]) ?_
  refine Ad (Bo _ _ []) 1 57 Bg rfl rfl ?_
  refine Al ?_
  obtain ⟨y_3, hy_3, hg⟩ := Ac hg
  refine Gh (rd := []) (ps := []) (gs := []) false rfl (Jc _ _ hy_3) rfl rfl (.cons .sl .nil) rfl rfl (by intro h; cases h) rfl (by intro h; first | (cases h; done) | exact ⟨_, _, ⟨rfl, rfl⟩, by simp, by simp⟩) ?_
  rintro _ _ ⟨rfl, rfl⟩
  refine Al ?_
  refine Ai fun hU => ?_
  refine Bn 57 73 hU ?_
  refine Al ?_
  refine Ai fun hU => ?_
  refine Bj ?_
  obtain rfl := oi_ hg
  exact Bi [(0, 0), (1, 9)] ⟨rfl, rfl⟩
theorem R5 (d : Aj) (n : Int) (r : Bool × Aj) (hg : Hc d n = some r) : Fn Try.prog 13 1 [.ptr 0 0, .val (.int .i64 n)] [.box [.sl 1 (Az eI d.L), .val (.int .i64 d.At)] 49] (fun d' b' => d' = .val (.bool r.1) /\ b' = [.box [.sl 1 (Az eI r.2.L), .val (.int .i64 r.2.At)] 49]) := by
 unfold Hc at hg
 refine Fn.of Try.func13 rfl rfl rfl fun w0 I ρ0 => ?_
 show Ci _ ⟨w0, I, ρ0, 1, 1, 11⟩ _ _ _
 refine Bn 1 9 Bg ?_
 refine Al ?_
 refine Ai fun hU => ?_
 refine Bn 9 65 hU ?_
 refine Al ?_
 obtain ⟨y, hy, hg⟩ := Ac hg
 refine Hr [0] [0] [] false (Dd _ _ _ hy) ?_
 refine Al ?_
 refine Ai fun hU => ?_
 refine Bj ?_
 obtain rfl := oi_ hg
 exact Bi [(0, 0)] ⟨rfl, rfl⟩
theorem V3 (d : Aj) (r : Aa × Aj) (hg : Db d = some r) : Fn Try.prog 14 1 [.ptr 0 0] [.box [.sl 1 (Az eI d.L), .val (.int .i64 d.At)] 49] (fun d' b' => d' = .agg (Aa.dv r.1) /\ b' = [.box [.sl 1 (Az eI r.2.L), .val (.int .i64 r.2.At)] 49]) := by
 unfold Db at hg
 refine Fn.of Try.func14 rfl rfl rfl fun w0 I ρ0 => ?_
 show Ci _ ⟨w0, I, ρ0, 1, 1, 70⟩ _ _ _
 refine Bn 1 9 Bg ?_
 refine Al ?_
 refine Ai fun hU => ?_
 refine Bn 9 41 hU ?_
 refine Al ?_
 obtain ⟨y, hy, hg⟩ := Ac hg
 refine Hr [0] [0] [] false (Gx _ _ hy) ?_
 refine Al ?_
 refine Ai fun hU => ?_
 refine By (ι := Aj × Aa) (fun ((b_1, f_1) : Aj × Aa) => mk [(2, .ptr 1 0), (3, .ptr 2 0)] [(0, .box [.sl 1 (Az eI b_1.L), .val (.int .i64 b_1.At)] 49), (1, .box [.val (.int .i64 0), .val (.string (⟨#[]⟩ : ByteArray)), .val (.int .i64 0), .val (.int .i64 0), .val (.int .i64 0), .val (.int .i64 0), .val (.string (⟨#[]⟩ : ByteArray)), .val (.int .i64 0), .val (.int .i64 0), .val (.int .i64 0), .val (.string (⟨#[]⟩ : ByteArray))] 30), (2, .box (Aa.dv f_1) 30)] 3) (fun ((b_1, f_1) : Aj × Aa) => Db.j1 b_1 f_1 = some r) ?_ ?_
 ·refine Ah ?_
  refine Ad (Bo _ _ []) 41 57 hU rfl rfl ?_
  refine Al ?_
  obtain ⟨y_2, hy_2, hg⟩ := Ac hg
  refine Hr [0] [0] [] false (Dd _ _ _ hy_2) ?_
  refine Ai fun hU => ?_
  refine A4 ?_
  refine Bn 57 73 hU ?_
  refine Al ?_
  refine Ai fun hU => ?_
  refine C4 rfl hg (fun h5 hg => ?_) fun h5 hg => ?_
  ·refine Ad (Bo _ _ [81]) 73 113 hU rfl rfl ?_
   refine Al ?_
   refine Mi (rd := []) rfl rfl (Bb E7 z3 (by decide) rfl rfl rfl rfl Ju (cs := [.int .i64 0, .int .i64 8]) (.cons .int (.cons .int .nil)) rfl (l := ([0, 8] : List Int)) (f := eI) rfl) rfl rfl rfl ?_
   obtain ⟨y_3, hy_3, hg⟩ := Ac hg
   refine Hr [0] [0] [] false (D1 _ _ _ hy_3) ?_
   refine Al ?_
   refine Ai fun hU => ?_
   exact ⟨(y_3.2, (Aa.mk y_3.1 y.1.Host y.1.Machine y.1.Day y.1.Confidence y.1.Kind y.1.Subject y.1.Use y.1.Number y.1.Text)), hg, Ba [(0, 0), (1, 1), (2, 25)]⟩
  ·refine Ah ?_
   refine Ad (Bo _ _ []) 73 89 hU rfl rfl ?_
   refine Al ?_
   refine Ai fun hU => ?_
   refine C4 rfl hg (fun h8 hg => ?_) fun h8 hg => ?_
   ·refine Ad (Bo _ _ [97]) 89 129 hU rfl rfl ?_
    refine Al ?_
    refine Mi (rd := []) rfl rfl (Bb Zu z9 (by decide) rfl rfl rfl rfl mL (cs := [.str (⟨#[]⟩ : ByteArray), .str (⟨#[97, 32, 98]⟩ : ByteArray)]) (.cons .str (.cons .str .nil)) rfl (l := ([(⟨#[]⟩ : ByteArray), (⟨#[97, 32, 98]⟩ : ByteArray)] : List ByteArray)) (f := eS) rfl) rfl rfl rfl ?_
    obtain ⟨y_4, hy_4, hg⟩ := Ac hg
    refine Hr [0] [0] [] false (G1 _ _ _ hy_4) ?_
    refine Al ?_
    refine Ai fun hU => ?_
    exact ⟨(y_4.2, (Aa.mk y.1.Source y_4.1 y.1.Machine y.1.Day y.1.Confidence y.1.Kind y.1.Subject y.1.Use y.1.Number y.1.Text)), hg, Ba [(0, 0), (1, 1), (2, 25)]⟩
   ·refine Ah ?_
    refine Ad (Bo _ _ []) 89 105 hU rfl rfl ?_
    refine Al ?_
    refine Ai fun hU => ?_
    refine C4 rfl hg (fun h11 hg => ?_) fun h11 hg => ?_
    ·refine Ad (Bo _ _ [113]) 105 145 hU rfl rfl ?_
     refine Al ?_
     refine Mi (rd := []) rfl rfl (Bb E7 z3 (by decide) rfl rfl rfl rfl Ju (cs := [.int .i64 (-1), .int .i64 1099511627777]) (.cons .int (.cons .int .nil)) rfl (l := ([-1, 1099511627777] : List Int)) (f := eI) rfl) rfl rfl rfl ?_
     obtain ⟨y_5, hy_5, hg⟩ := Ac hg
     refine Hr [0] [0] [] false (D1 _ _ _ hy_5) ?_
     refine Al ?_
     refine Ai fun hU => ?_
     exact ⟨(y_5.2, (Aa.mk y.1.Source y.1.Host y_5.1 y.1.Day y.1.Confidence y.1.Kind y.1.Subject y.1.Use y.1.Number y.1.Text)), hg, Ba [(0, 0), (1, 1), (2, 25)]⟩
    ·refine Ah ?_
     refine Ad (Bo _ _ []) 105 121 hU rfl rfl ?_
     refine Al ?_
     refine Ai fun hU => ?_
     refine C4 rfl hg (fun h14 hg => ?_) fun h14 hg => ?_
     ·refine Ad (Bo _ _ [129]) 121 161 hU rfl rfl ?_
      refine Al ?_
      refine Mi (rd := []) rfl rfl (Bb E7 z3 (by decide) rfl rfl rfl rfl Ju (cs := [.int .i64 (-1), .int .i64 40001, .int .i64 40000]) (.cons .int (.cons .int (.cons .int .nil))) rfl (l := ([-1, 40001, 40000] : List Int)) (f := eI) rfl) rfl rfl rfl ?_
      obtain ⟨y_6, hy_6, hg⟩ := Ac hg
      refine Hr [0] [0] [] false (D1 _ _ _ hy_6) ?_
      refine Al ?_
      refine Ai fun hU => ?_
      exact ⟨(y_6.2, (Aa.mk y.1.Source y.1.Host y.1.Machine y_6.1 y.1.Confidence y.1.Kind y.1.Subject y.1.Use y.1.Number y.1.Text)), hg, Ba [(0, 0), (1, 1), (2, 25)]⟩
     ·refine Ah ?_
      refine Ad (Bo _ _ []) 121 137 hU rfl rfl ?_
      refine Al ?_
      refine Ai fun hU => ?_
      refine C4 rfl hg (fun h17 hg => ?_) fun h17 hg => ?_
      ·refine Ad (Bo _ _ [145]) 137 177 hU rfl rfl ?_
       refine Al ?_
       refine Mi (rd := []) rfl rfl (Bb E7 z3 (by decide) rfl rfl rfl rfl Ju (cs := [.int .i64 0, .int .i64 101]) (.cons .int (.cons .int .nil)) rfl (l := ([0, 101] : List Int)) (f := eI) rfl) rfl rfl rfl ?_
       obtain ⟨y_7, hy_7, hg⟩ := Ac hg
       refine Hr [0] [0] [] false (D1 _ _ _ hy_7) ?_
       refine Al ?_
       refine Ai fun hU => ?_
       exact ⟨(y_7.2, (Aa.mk y.1.Source y.1.Host y.1.Machine y.1.Day y_7.1 y.1.Kind y.1.Subject y.1.Use y.1.Number y.1.Text)), hg, Ba [(0, 0), (1, 1), (2, 25)]⟩
      ·refine Ah ?_
       refine Ad (Bo _ _ []) 137 153 hU rfl rfl ?_
       refine Al ?_
       refine Ai fun hU => ?_
       refine C4 rfl hg (fun h20 hg => ?_) fun h20 hg => ?_
       ·refine Ad (Bo _ _ [161]) 153 193 hU rfl rfl ?_
        refine Al ?_
        refine Mi (rd := []) rfl rfl (Bb E7 z3 (by decide) rfl rfl rfl rfl Ju (cs := [.int .i64 0, .int .i64 9, .int .i64 3, .int .i64 1]) (.cons .int (.cons .int (.cons .int (.cons .int .nil)))) rfl (l := ([0, 9, 3, 1] : List Int)) (f := eI) rfl) rfl rfl rfl ?_
        obtain ⟨y_8, hy_8, hg⟩ := Ac hg
        refine Hr [0] [0] [] false (D1 _ _ _ hy_8) ?_
        refine Al ?_
        refine Ai fun hU => ?_
        exact ⟨(y_8.2, (Aa.mk y.1.Source y.1.Host y.1.Machine y.1.Day y.1.Confidence y_8.1 y.1.Subject y.1.Use y.1.Number y.1.Text)), hg, Ba [(0, 0), (1, 1), (2, 25)]⟩
       ·refine Ah ?_
        refine Ad (Bo _ _ []) 153 169 hU rfl rfl ?_
        refine Al ?_
        refine Ai fun hU => ?_
        refine C4 rfl hg (fun h23 hg => ?_) fun h23 hg => ?_
        ·refine Ad (Bo _ _ []) 169 185 hU rfl rfl ?_
         refine Al ?_
         refine Ai fun hU => ?_
         exact ⟨(y_2.2, (Aa.mk y.1.Source y.1.Host y.1.Machine y.1.Day y.1.Confidence y.1.Kind (⟨#[]⟩ : ByteArray) y.1.Use y.1.Number y.1.Text)), hg, Ba [(0, 0), (1, 1), (2, 25)]⟩
        ·refine Ah ?_
         refine Ad (Bo _ _ []) 169 185 hU rfl rfl ?_
         refine Al ?_
         refine Ai fun hU => ?_
         refine C4 rfl hg (fun h26 hg => ?_) fun h26 hg => ?_
         ·refine Ad (Bo _ _ [193, 217]) 185 257 hU rfl rfl ?_
          refine Al ?_
          refine Mi (rd := []) rfl rfl (Bb E7 z3 (by decide) rfl rfl rfl rfl Ju (cs := [.int .i64 1, .int .i64 99, .int .i64 5]) (.cons .int (.cons .int (.cons .int .nil))) rfl (l := ([1, 99, 5] : List Int)) (f := eI) rfl) rfl rfl rfl ?_
          obtain ⟨y_9, hy_9, hg⟩ := Ac hg
          refine Hr [0] [0] [] false (D1 _ _ _ hy_9) ?_
          refine Al ?_
          refine Mi (rd := []) rfl rfl (Bb E7 z3 (by decide) rfl rfl rfl rfl Ju (cs := [.int .i64 0, .int .i64 2048]) (.cons .int (.cons .int .nil)) rfl (l := ([0, 2048] : List Int)) (f := eI) rfl) rfl rfl rfl ?_
          obtain ⟨y_10, hy_10, hg⟩ := Ac hg
          refine Hr [0] [0] [] false (D1 _ _ _ hy_10) ?_
          refine Ca rfl rfl (.build (r := [.val (.int .i64 y_9.1), .val (.int .i64 y_10.1)]) Mr Tg Yl (by kernel_rfl) rfl) rfl rfl ?_
          refine Al ?_
          refine Ai fun hU => ?_
          exact ⟨(y_10.2, (Aa.mk y.1.Source y.1.Host y.1.Machine y.1.Day y.1.Confidence y.1.Kind y.1.Subject (Bk.mk y_9.1 y_10.1) y.1.Number y.1.Text)), hg, Ba [(0, 0), (1, 1), (2, 25)]⟩
         ·refine Ah ?_
          refine Ad (Bo _ _ []) 185 201 hU rfl rfl ?_
          refine Al ?_
          refine Ai fun hU => ?_
          refine C4 rfl hg (fun h29 hg => ?_) fun h29 hg => ?_
          ·refine Ad (Bo _ _ [209]) 201 241 hU rfl rfl ?_
           refine Al ?_
           refine Mi (rd := []) rfl rfl (Bb E7 z3 (by decide) rfl rfl rfl rfl Ju (cs := [.int .i64 1, .int .i64 65536, .int .i64 (-1), .int .i64 2147483649]) (.cons .int (.cons .int (.cons .int (.cons .int .nil)))) rfl (l := ([1, 65536, -1, 2147483649] : List Int)) (f := eI) rfl) rfl rfl rfl ?_
           obtain ⟨y_11, hy_11, hg⟩ := Ac hg
           refine Hr [0] [0] [] false (D1 _ _ _ hy_11) ?_
           refine Al ?_
           refine Ai fun hU => ?_
           exact ⟨(y_11.2, (Aa.mk y.1.Source y.1.Host y.1.Machine y.1.Day y.1.Confidence y.1.Kind y.1.Subject y.1.Use y_11.1 y.1.Text)), hg, Ba [(0, 0), (1, 1), (2, 25)]⟩
          ·refine Ah ?_
           refine Ad (Bo _ _ []) 201 217 hU rfl rfl ?_
           refine Al ?_
           refine Ai fun hU => ?_
           refine C4 rfl hg (fun h32 hg => ?_) fun h32 hg => ?_
           ·refine Ad (Bo _ _ [225]) 217 257 hU rfl rfl ?_
            refine Al ?_
            refine Mi (rd := []) rfl rfl (Bb Zu z9 (by decide) rfl rfl rfl rfl mL (cs := [.str (⟨#[120]⟩ : ByteArray), .str (⟨#[97, 32, 98]⟩ : ByteArray), .str (⟨#[]⟩ : ByteArray)]) (.cons .str (.cons .str (.cons .str .nil))) rfl (l := ([(⟨#[120]⟩ : ByteArray), (⟨#[97, 32, 98]⟩ : ByteArray), (⟨#[]⟩ : ByteArray)] : List ByteArray)) (f := eS) rfl) rfl rfl rfl ?_
            obtain ⟨y_12, hy_12, hg⟩ := Ac hg
            refine Hr [0] [0] [] false (G1 _ _ _ hy_12) ?_
            refine Al ?_
            refine Ai fun hU => ?_
            exact ⟨(y_12.2, (Aa.mk y.1.Source y.1.Host y.1.Machine y.1.Day y.1.Confidence y.1.Kind y.1.Subject y.1.Use y.1.Number y_12.1)), hg, Ba [(0, 0), (1, 1), (2, 25)]⟩
           ·refine Aq ?_
            repeat first | refine Cw ?_ | refine Cz ?_
            exact ⟨(y_2.2, y.1), hg, Ba [(0, 0), (1, 1), (2, 25)]⟩
 ·rintro ⟨b_1, f_1⟩ hg
  replace hg : Db.j1 b_1 f_1 = some r := hg
  show Ci _ _ _ _ (mk _ _ _)
  unfold Db.j1 at hg
  refine Bn 3 19 Bg ?_
  refine Al ?_
  refine Ai fun hU => ?_
  refine Bj ?_
  obtain rfl := oi_ hg
  exact Bi [(0, 0)] ⟨rfl, rfl⟩
theorem Ig (n : Int) (r : (List Aa)) (hg : Dq n = some r) : Fn Try.prog 63 0 [.val (.slice none 0 0), .val (.int .i64 n)] [] (fun d' b' => d' = .row 0 /\ b' = [.row 30 11 (Az Aa.enc r)]) := by
 unfold Dq at hg
 refine Fn.of Try.func63 rfl rfl rfl fun w0 I ρ0 => ?_
 show Ci _ ⟨w0, I, ρ0, 0, 0, 27⟩ _ _ _
 refine Bn 0 8 Bg ?_
 refine Al ?_
 refine Ai fun hU => ?_
 refine Ah ?_
 refine Bn 8 24 hU ?_
 refine Al ?_
 refine Ai fun hU => ?_
 refine C4 rfl hg (fun h3 hg => ?_) fun h3 hg => ?_
 ·refine Ad (Bo _ _ []) 24 40 hU rfl rfl ?_
  cases hg
 ·refine Aq ?_
  repeat first | refine Cw ?_ | refine Cz ?_
  refine Ah ?_
  refine Bn 24 88 hU ?_
  refine Al ?_
  refine Ca rfl rfl (cZ Ha) rfl rfl ?_
  refine Al ?_
  refine Ca rfl rfl (aM Ha.elem) rfl rfl ?_
  refine Al ?_
  refine Ai fun hU => ?_
  refine Bn 88 104 hU ?_
  refine Al ?_
  refine Ai fun hU => ?_
  refine C4 rfl hg (fun h6 hg => ?_) fun h6 hg => ?_
  ·refine Ad (Bo _ _ []) 104 184 hU rfl rfl ?_
   refine Al ?_
   refine Ca rfl rfl (cZ Ha) rfl rfl ?_
   refine Ca rfl rfl (bC Ha) rfl rfl ?_
   refine Al ?_
   obtain ⟨l, hl, hg⟩ := Ac hg
   refine I3 (rd := []) rfl rfl (iA (f := Aa.enc) (z0 := (Aa.mk 0 (⟨#[]⟩ : ByteArray) 0 0 0 0 (⟨#[]⟩ : ByteArray) (Bk.mk 0 0) 0 (⟨#[]⟩ : ByteArray))) Ha Zb Aa.enc_len (gW (ck := [none, none, none, none, none, none, none, none, none, none, none]) Yy (.cons .int (.cons .str (.cons .int (.cons .int (.cons .int (.cons .int (.cons .str (.cons .int (.cons .int (.cons .int (.cons .str .nil)))))))))))) hl rfl) rfl rfl (fun _ => ⟨_, rfl⟩) ?_
   rintro _ rfl
   refine Al ?_
   refine Ca rfl rfl (aM Ha.elem) rfl rfl ?_
   obtain ⟨l_2, hl_2, hg⟩ := Ac hg
   refine Cu (rd := [144]) rfl rfl (Rm Ha Aa.enc_len hl_2) rfl rfl ?_
   refine Al ?_
   refine Ai fun hU => ?_
   refine Ah ?_
   refine Em (σ' := mk [(0, .part 0 (((0 : Int).toNat) * 11) ((0 : Int).toNat - (0 : Int).toNat))] [(0, .row 30 11 (Az Aa.enc l))] 1) (Ba [(0, 144)]) ?_
   refine Em (σ' := mk [(0, .row 0)] [(0, .row 30 11 (Az Aa.enc (l.take ((0 : Int).toNat - (0 : Int).toNat))))] 1) (oT 0 0 Aa.enc_len (Nat.le_trans (Nat.le_add_left _ _) (Q8 hl_2)) rfl rfl rfl rfl) ?_
   refine Ad (Bo _ _ []) 1 17 Bg rfl rfl ?_
   refine Al ?_
   refine Ai fun hU => ?_
   refine Bj ?_
   obtain rfl := oi_ hg
   exact Bi [(0, 0)] ⟨rfl, rfl⟩
  ·refine Aq ?_
   repeat first | refine Cw ?_ | refine Cz ?_
   refine Bn 104 120 hU ?_
   refine Al ?_
   refine Ai fun hU => ?_
   refine Bj ?_
   obtain rfl := oi_ hg
   exact Bi [] ⟨rfl, rfl⟩
theorem Kc (slices : (List (List Aa))) (r : (List Aa)) (hg : Ax slices = some r) : Fn Try.prog 47 0 [.sl 1 (Az (eL 11 Aa.enc) slices)] [] (fun d' b' => d' = .sl 11 (Az Aa.enc r) /\ b' = []) := by
 unfold Ax at hg
 refine Fn.of Try.func47 rfl rfl rfl fun w0 I ρ0 => ?_
 show Ci _ ⟨w0, I, ρ0, 0, 0, 36⟩ _ _ _
 refine Bn 0 8 Bg ?_
 refine Al ?_
 refine Ai fun hU => ?_
 refine Bn 8 16 hU ?_
 refine Al ?_
 refine Ai fun hU => ?_
 refine Ah ?_
 refine Bn 16 40 hU ?_
 refine Al ?_
 refine Ai fun hU => ?_
 refine A4 ?_
 refine Ll (fun ((size_1, x11_1) : Int × Int) => mk [(0, .sl 1 (Az (eL 11 Aa.enc) slices)), (3, .val (.int .i64 size_1)), (9, .sl 1 (Az (eL 11 Aa.enc) slices)), (10, .val (.int .i64 (slices.length : Int))), (11, .val (.int .i64 x11_1))] [] 0) hg (Ba []) ?_
 rintro ⟨size_1, x11_1⟩ m1 o1 hg hn1
 replace hg : Ax.l1 slices size_1 x11_1 = some o1 := hg
 show Ci _ _ _ _ (mk _ _ _)
 unfold Ax.l1 at hg
 refine Bn 0 8 Bg ?_
 refine Al ?_
 refine Ai fun hU => ?_
 refine Ah ?_
 refine C4 rfl hg (fun h5 hg => ?_) fun h5 hg => ?_
 ·refine Aq ?_
  repeat first | refine Cw ?_ | refine Cz ?_
  refine Ah ?_
  refine A4 ?_
  refine Bn 8 32 hU ?_
  obtain ⟨e, he, hg⟩ := Ac hg
  refine Al ?_
  refine Ca rfl rfl (Ch kQ (D6 (Xy _ _) (Ao he) (o := 0) (c := .sl 11 (Az Aa.enc e)) rfl rfl)) rfl rfl ?_
  refine Al ?_
  refine Ai fun hU => ?_
  refine Bn 32 72 hU ?_
  refine Al ?_
  refine Ai fun hU => ?_
  refine Bn 72 88 hU ?_
  refine Al ?_
  refine Ai fun hU => ?_
  refine C4 rfl hg (fun h9 hg => ?_) fun h9 hg => ?_
  ·refine Ad (Bo _ _ []) 88 104 hU rfl rfl ?_
   cases hg
  ·refine Aq ?_
   repeat first | refine Cw ?_ | refine Cz ?_
   refine Ad (Bo _ _ []) 88 104 hU rfl rfl ?_
   refine Al ?_
   refine Ai fun hU => ?_
   obtain rfl := oi_ hg
   exact ⟨((W (size_1 + (e.length : Int)), W (x11_1 + 1)), m1), Nat.lt_succ_self _, hn1, Ba []⟩
 ·refine Cb ?_
  repeat first | refine Cw ?_ | refine Cz ?_
  replace hg := C3 hg hn1
  refine Bn 8 32 hU ?_
  refine Al ?_
  obtain ⟨y, hy, hg⟩ := Ac hg
  refine Gh (rd := []) (ps := []) (gs := []) false rfl (Ig _ _ hy) rfl rfl (.cons .val (.cons .val .nil)) rfl rfl (by intro h; cases h) rfl (by intro h; first | (cases h; done) | exact ⟨_, _, ⟨rfl, rfl⟩, by simp, by simp⟩) ?_
  rintro _ _ ⟨rfl, rfl⟩
  refine Al ?_
  refine Ai fun hU => ?_
  refine Ah ?_
  refine Bn 32 56 hU ?_
  refine Al ?_
  refine Ai fun hU => ?_
  refine A4 ?_
  refine Ll (fun ((x27_2, newslice_2) : Int × List Aa) => mk [(6, .row 0), (25, .sl 1 (Az (eL 11 Aa.enc) slices)), (26, .val (.int .i64 (slices.length : Int))), (27, .val (.int .i64 x27_2))] [(0, .row 30 11 (Az Aa.enc newslice_2))] 1) hg (Ba [(0, 16)]) ?_
  rintro ⟨x27_2, newslice_2⟩ m2 o2 hg hn2
  replace hg : Ax.l2 slices x27_2 newslice_2 = some o2 := hg
  show Ci _ _ _ _ (mk _ _ _)
  unfold Ax.l2 at hg
  refine Bn 1 9 Bg ?_
  refine Al ?_
  refine Ai fun hU => ?_
  refine Ah ?_
  refine C4 rfl hg (fun h14 hg => ?_) fun h14 hg => ?_
  ·refine Aq ?_
   repeat first | refine Cw ?_ | refine Cz ?_
   refine Ah ?_
   refine A4 ?_
   refine Bn 9 33 hU ?_
   obtain ⟨e_2, he_2, hg⟩ := Ac hg
   refine Al ?_
   refine Ca rfl rfl (Ch kQ (D6 (Xy _ _) (Ao he_2) (o := 0) (c := .sl 11 (Az Aa.enc e_2)) rfl rfl)) rfl rfl ?_
   refine Al ?_
   refine Ai fun hU => ?_
   refine Ad (Bo _ _ []) 33 65 hU rfl rfl ?_
   refine Al ?_
   obtain ⟨l, hl, hg⟩ := Ac hg
   refine Cu (rd := [0]) rfl rfl (Hm Ha Aa.enc_len .row rfl .sl rfl hl rfl) rfl rfl ?_
   refine Al ?_
   refine Ai fun hU => ?_
   refine Ad (Bo _ _ []) 65 81 hU rfl rfl ?_
   refine Al ?_
   refine Ai fun hU => ?_
   obtain rfl := oi_ hg
   exact ⟨((W (x27_2 + 1), l), m2), Nat.lt_succ_self _, hn2, Ba [(0, 49)]⟩
  ·refine Cb ?_
   repeat first | refine Cw ?_ | refine Cz ?_
   replace hg := C3 hg hn2
   refine Bn 9 25 hU ?_
   refine Al ?_
   refine Ai fun hU => ?_
   refine Bj ?_
   obtain rfl := oi_ hg
   exact Bi [] ⟨rfl, rfl⟩
theorem Fg (a : (List Aa)) (b : (List Aa)) (r : (List Aa) × Int) (hg : C8 a b = some r) : Fn Try.prog 16 0 [.sl 11 (Az Aa.enc a), .sl 11 (Az Aa.enc b)] [] (fun d' b' => d' = .tup [.sl 11 (Az Aa.enc r.1), .val (.int .i64 r.2)] /\ b' = []) := by
 unfold C8 at hg
 refine Fn.of Try.func16 rfl rfl rfl fun w0 I ρ0 => ?_
 show Ci _ ⟨w0, I, ρ0, 0, 0, 13⟩ _ _ _
 refine Bn 0 16 Bg ?_
 refine Al ?_
 refine Ai fun hU => ?_
 refine Ah ?_
 refine Ad (Bo _ _ [32]) 16 88 hU rfl rfl ?_
 refine Al ?_
 refine Mi (rd := []) rfl rfl (Bb nW qI (by decide) rfl rfl rfl rfl pR (cs := [.sl 11 (Az Aa.enc a), .sl 11 (Az Aa.enc b)]) (.cons .sl (.cons .sl .nil)) rfl (l := ([a, b] : List (List Aa))) (f := (eL 11 Aa.enc)) rfl) rfl rfl rfl ?_
 obtain ⟨y, hy, hg⟩ := Ac hg
 refine E5 (Kc _ _ hy) ?_
 obtain ⟨y_2, hy_2, hg⟩ := Ac hg
 refine E5 (Ii _ _ hy_2) ?_
 refine Al ?_
 refine Ai fun hU => ?_
 refine Bj ?_
 obtain rfl := oi_ hg
 exact Bi [] ⟨rfl, rfl⟩
theorem Ud (a : (List Aa)) (b : (List Aa)) (r : (List Aa) × Int) (hg : H3 a b = some r) : Fn Try.prog 17 0 [.sl 11 (Az Aa.enc a), .sl 11 (Az Aa.enc b)] [] (fun d' b' => d' = .tup [.sl 11 (Az Aa.enc r.1), .val (.int .i64 r.2)] /\ b' = []) := by
 unfold H3 at hg
 refine Fn.of Try.func17 rfl rfl rfl fun w0 I ρ0 => ?_
 show Ci _ ⟨w0, I, ρ0, 0, 0, 14⟩ _ _ _
 refine Bn 0 16 Bg ?_
 refine Al ?_
 refine Ai fun hU => ?_
 refine Ah ?_
 refine Ad (Bo _ _ [48]) 16 96 hU rfl rfl ?_
 refine Ca rfl rfl (Bb Ha Yy (by decide) rfl rfl rfl rfl G3 (cs := []) .nil rfl (l := ([] : List Aa)) (f := Aa.enc) rfl) rfl rfl ?_
 refine Al ?_
 obtain ⟨l, hl, hg⟩ := Ac hg
 refine Cu (rd := [16]) rfl rfl (Hm Ha Aa.enc_len .row rfl .sl rfl hl rfl) rfl rfl ?_
 refine Al ?_
 obtain ⟨l_2, hl_2, hg⟩ := Ac hg
 refine Mi (rd := [32]) rfl rfl (Hm Ha Aa.enc_len .row rfl .sl rfl hl_2 rfl) rfl rfl rfl ?_
 obtain ⟨y, hy, hg⟩ := Ac hg
 refine Gh (rd := []) (ps := []) (gs := []) false rfl (Jc _ _ hy) rfl rfl (.cons .sl .nil) rfl rfl (by intro h; cases h) rfl (by intro h; first | (cases h; done) | exact ⟨_, _, ⟨rfl, rfl⟩, by simp, by simp⟩) ?_
 rintro _ _ ⟨rfl, rfl⟩
 refine Al ?_
 refine Ai fun hU => ?_
 refine Bj ?_
 obtain rfl := oi_ hg
 exact Bi [] ⟨rfl, rfl⟩
theorem Is (a : (List Aa)) (b : (List Aa)) (r : Bool) (hg : C6 a b = some r) : Fn Try.prog 18 0 [.sl 11 (Az Aa.enc a), .sl 11 (Az Aa.enc b)] [] (fun d' b' => d' = .val (.bool r) /\ b' = []) := by
 unfold C6 at hg
 refine Fn.of Try.func18 rfl rfl rfl fun w0 I ρ0 => ?_
 show Ci _ ⟨w0, I, ρ0, 0, 0, 26⟩ _ _ _
 refine Bn 0 8 Bg ?_
 refine Al ?_
 refine Ai fun hU => ?_
 refine Ah ?_
 refine Bn 8 48 hU ?_
 refine Al ?_
 refine Ai fun hU => ?_
 refine C4 rfl hg (fun h3 hg => ?_) fun h3 hg => ?_
 ·refine Ah ?_
  refine Ad (Bo _ _ []) 48 56 hU rfl rfl ?_
  refine Al ?_
  refine Ai fun hU => ?_
  refine Bj ?_
  obtain rfl := oi_ hg
  exact Bi [] ⟨rfl, rfl⟩
 ·refine Aq ?_
  repeat first | refine Cw ?_ | refine Cz ?_
  refine Ah ?_
  refine Bn 48 56 hU ?_
  refine Al ?_
  refine Ai fun hU => ?_
  refine A4 ?_
  refine Ll (fun (i_1 : Int) => mk [(0, .sl 11 (Az Aa.enc a)), (1, .sl 11 (Az Aa.enc b)), (5, .val (.int .i64 i_1))] [] 0) hg (Ba []) ?_
  rintro i_1 m1 o1 hg hn1
  replace hg : C6.l1 a b i_1 = some o1 := hg
  show Ci _ _ _ _ (mk _ _ _)
  unfold C6.l1 at hg
  refine Ah ?_
  refine Bn 0 32 Bg ?_
  refine Al ?_
  refine Ai fun hU => ?_
  refine C4 rfl hg (fun h7 hg => ?_) fun h7 hg => ?_
  ·refine Aq ?_
   repeat first | refine Cw ?_ | refine Cz ?_
   refine Ah ?_
   refine A4 ?_
   refine Ah ?_
   refine Bv (Bo _ _ []) (by kernel_rfl) [0, 0, 3, 7, 0, 0, 48, 112, 255] 32 104 hU rfl rfl (by kernel_rfl) ?_
   refine Al ?_
   obtain ⟨e, he, hg⟩ := Ac hg
   refine Al ?_
   refine Ca rfl rfl (Cd Cg (Bd Aa.enc_len (Ao he) (o := 0) (m := 11) (cs := [.int .i64 e.Source, .str e.Host, .int .i64 e.Machine, .int .i64 e.Day, .int .i64 e.Confidence, .int .i64 e.Kind, .str e.Subject, .int .i64 e.Use.Alg, .int .i64 e.Use.Bits, .int .i64 e.Number, .str e.Text]) rfl (by decide) rfl) (Ap Aa.enc_len (Ao he) (o := 0) (m := 11) (by decide) rfl)) rfl rfl ?_
   refine Al ?_
   obtain ⟨e_2, he_2, hg⟩ := Ac hg
   refine Al ?_
   refine Ca rfl rfl (Cd Cg (Bd Aa.enc_len (Ao he_2) (o := 0) (m := 11) (cs := [.int .i64 e_2.Source, .str e_2.Host, .int .i64 e_2.Machine, .int .i64 e_2.Day, .int .i64 e_2.Confidence, .int .i64 e_2.Kind, .str e_2.Subject, .int .i64 e_2.Use.Alg, .int .i64 e_2.Use.Bits, .int .i64 e_2.Number, .str e_2.Text]) rfl (by decide) rfl) (Ap Aa.enc_len (Ao he_2) (o := 0) (m := 11) (by decide) rfl)) rfl rfl ?_
   refine Ca rfl rfl (Tz e e_2) rfl rfl ?_
   refine Ai fun hU => ?_
   refine C4 rfl hg (fun h9 hg => ?_) fun h9 hg => ?_
   ·refine Ah ?_
    refine Ad (Bo _ _ []) 104 112 hU rfl rfl ?_
    refine Al ?_
    refine Ai fun hU => ?_
    refine Bj ?_
    replace hg := C3 hg hn1
    obtain rfl := oi_ hg
    exact Bi [] ⟨rfl, rfl⟩
   ·refine Aq ?_
    repeat first | refine Cw ?_ | refine Cz ?_
    refine Ad (Bo _ _ []) 104 128 hU rfl rfl ?_
    refine Al ?_
    refine Ai fun hU => ?_
    obtain rfl := oi_ hg
    exact ⟨(W (i_1 + 1), m1), Nat.lt_succ_self _, hn1, Ba []⟩
  ·refine Cb ?_
   repeat first | refine Cw ?_ | refine Cz ?_
   replace hg := C3 hg hn1
   refine Bn 32 40 hU ?_
   refine Al ?_
   refine Ai fun hU => ?_
   refine Bj ?_
   obtain rfl := oi_ hg
   exact Bi [] ⟨rfl, rfl⟩
theorem Pe (l : (List Int)) (raw : (List Aa)) (r : Bool) (hg : As l raw = some r) : Fn Try.prog 4 0 [.sl 1 (Az eI l), .sl 11 (Az Aa.enc raw)] [] (fun d' b' => d' = .val (.bool r) /\ b' = []) := by
 unfold As at hg
 refine Fn.of Try.func4 rfl rfl rfl fun w0 I ρ0 => ?_
 show Ci _ ⟨w0, I, ρ0, 0, 0, 149⟩ _ _ _
 refine Bn 0 8 Bg ?_
 refine Al ?_
 refine Ai fun hU => ?_
 refine Ah ?_
 refine By (ι := Bool) (fun (x25_1 : Bool) => mk [(0, .sl 1 (Az eI l)), (1, .sl 11 (Az Aa.enc raw)), (25, .val (.bool x25_1))] [] 0) (fun (x25_1 : Bool) => As.j1 l raw x25_1 = some r) ?_ ?_
 ·refine Ad (Bo _ _ []) 8 72 hU rfl rfl ?_
  refine Al ?_
  obtain ⟨y, hy, hg⟩ := Ac hg
  refine E5 (M1 _ _ hy) ?_
  refine Al ?_
  rcases Ea hg with ⟨h2, hg⟩ | ⟨h2, hg⟩
  ·refine Al ?_
   refine Ai fun hU => ?_
   exact ⟨true, hg, Ba []⟩
  ·refine Al ?_
   refine Ai fun hU => ?_
   exact ⟨decide (20 < (raw.length : Int)), hg, Ba []⟩
 ·rintro x25_1 hg
  replace hg : As.j1 l raw x25_1 = some r := hg
  show Ci _ _ _ _ (mk _ _ _)
  unfold As.j1 at hg
  refine C4 rfl hg (fun h5 hg => ?_) fun h5 hg => ?_
  ·refine Ah ?_
   refine Ad (Bo _ _ []) 0 16 Bg rfl rfl ?_
   obtain ⟨y_2, hy_2, hg⟩ := Ac hg
   refine E5 (He _ hy_2) ?_
   refine Al ?_
   refine Ai fun hU => ?_
   refine Bj ?_
   obtain rfl := oi_ hg
   exact Bi [] ⟨rfl, rfl⟩
  ·refine Aq ?_
   repeat first | refine Cw ?_ | refine Cz ?_
   refine Bn 0 24 Bg ?_
   refine Al ?_
   obtain ⟨y_3, hy_3, hg⟩ := Ac hg
   refine Gh (rd := []) (ps := []) (gs := []) false rfl (Oe _ _ hy_3) rfl rfl (.cons .sl .nil) rfl rfl (by intro h; cases h) rfl (by intro h; first | (cases h; done) | exact ⟨_, _, ⟨rfl, rfl⟩, by simp, by simp⟩) ?_
   rintro _ _ ⟨rfl, rfl⟩
   refine Al ?_
   refine Ai fun hU => ?_
   refine Bn 24 72 hU ?_
   refine Al ?_
   obtain ⟨y_4, hy_4, hg⟩ := Ac hg
   refine Gh (rd := [8]) (ps := [8]) (gs := []) false rfl (Fp _ _ _ hy_4) rfl rfl (.cons (.ptr rfl) (.cons .val .nil)) ⟨_, _, _, rfl, .head _, ⟨_, rfl, (by repeat' (first | exact Le.nil | apply Le.cons | exact Ag.val | exact Ag.sl | exact Ag.nils | exact Ag.ptr rfl | exact Ag.rowK rfl))⟩, rfl⟩ rfl (by intro h; cases h) rfl (by intro h; first | (cases h; done) | exact ⟨_, _, ⟨rfl, rfl⟩, by simp, by simp⟩) ?_
   rintro _ _ ⟨rfl, rfl⟩
   refine Al ?_
   obtain ⟨y_5, hy_5, hg⟩ := Ac hg
   refine Gh (rd := [8]) (ps := [8]) (gs := []) false rfl (Fp _ _ _ hy_5) rfl rfl (.cons (.ptr rfl) (.cons .val .nil)) ⟨_, _, _, rfl, .head _, ⟨_, rfl, (by repeat' (first | exact Le.nil | apply Le.cons | exact Ag.val | exact Ag.sl | exact Ag.nils | exact Ag.ptr rfl | exact Ag.rowK rfl))⟩, rfl⟩ rfl (by intro h; cases h) rfl (by intro h; first | (cases h; done) | exact ⟨_, _, ⟨rfl, rfl⟩, by simp, by simp⟩) ?_
   rintro _ _ ⟨rfl, rfl⟩
   refine Al ?_
   refine Ai fun hU => ?_
   refine By (ι := Aj × List Aa) (fun ((d_2, x_2) : Aj × List Aa) => mk [(1, .sl 11 (Az Aa.enc raw)), (5, .ptr 0 0), (6, .row 1), (7, .row 2)] [(0, .box [.sl 1 (Az eI d_2.L), .val (.int .i64 d_2.At)] 49), (1, .row 30 11 (Az Aa.enc x_2)), (2, .row 30 11 (Az Aa.enc y_5.1))] 3) (fun ((d_2, x_2) : Aj × List Aa) => As.j2 raw y_5 d_2 x_2 = some r) ?_ ?_
   ·refine Ah ?_
    refine Ad (Bo _ _ []) 72 88 hU rfl rfl ?_
    refine Al ?_
    obtain ⟨y_6, hy_6, hg⟩ := Ac hg
    refine Hr [8] [8] [] false (R5 _ _ _ hy_6) ?_
    refine Ai fun hU => ?_
    refine C4 rfl hg (fun h10 hg => ?_) fun h10 hg => ?_
    ·refine Ad (Bo _ _ []) 88 136 hU rfl rfl ?_
     refine Al ?_
     obtain ⟨y_7, hy_7, hg⟩ := Ac hg
     refine Hr [8] [8] [] false (V3 _ _ hy_7) ?_
     refine Ca rfl rfl (Bb Ha Yy (by decide) rfl rfl rfl rfl G3 (cs := [.int .i64 y_7.1.Source, .str y_7.1.Host, .int .i64 y_7.1.Machine, .int .i64 y_7.1.Day, .int .i64 y_7.1.Confidence, .int .i64 y_7.1.Kind, .str y_7.1.Subject, .int .i64 y_7.1.Use.Alg, .int .i64 y_7.1.Use.Bits, .int .i64 y_7.1.Number, .str y_7.1.Text]) (.cons .int (.cons .str (.cons .int (.cons .int (.cons .int (.cons .int (.cons .str (.cons .int (.cons .int (.cons .int (.cons .str .nil))))))))))) rfl (l := ([y_7.1] : List Aa)) (f := Aa.enc) rfl) rfl rfl ?_
     obtain ⟨l_2, hl_2, hg⟩ := Ac hg
     refine Cu (rd := [32, 112]) rfl rfl (Hm Ha Aa.enc_len .row rfl .row rfl hl_2 rfl) rfl rfl ?_
     refine Al ?_
     refine Ai fun hU => ?_
     exact ⟨(y_7.2, l_2), hg, Ba [(0, 8), (1, 120), (2, 48)]⟩
    ·refine Aq ?_
     repeat first | refine Cw ?_ | refine Cz ?_
     exact ⟨(y_6.2, y_4.1), hg, Ba [(0, 8), (1, 32), (2, 48)]⟩
   ·rintro ⟨d_2, x_2⟩ hg
    replace hg : As.j2 raw y_5 d_2 x_2 = some r := hg
    show Ci _ _ _ _ (mk _ _ _)
    unfold As.j2 at hg
    refine Bn 3 51 Bg ?_
    refine Al ?_
    obtain ⟨y_8, hy_8, hg⟩ := Ac hg
    refine Hr [0] [0] [] false (Gx _ _ hy_8) ?_
    refine Ca rfl rfl (Bb Ha Yy (by decide) rfl rfl rfl rfl G3 (cs := [.int .i64 y_8.1.Source, .str y_8.1.Host, .int .i64 y_8.1.Machine, .int .i64 y_8.1.Day, .int .i64 y_8.1.Confidence, .int .i64 y_8.1.Kind, .str y_8.1.Subject, .int .i64 y_8.1.Use.Alg, .int .i64 y_8.1.Use.Bits, .int .i64 y_8.1.Number, .str y_8.1.Text]) (.cons .int (.cons .str (.cons .int (.cons .int (.cons .int (.cons .int (.cons .str (.cons .int (.cons .int (.cons .int (.cons .str .nil))))))))))) rfl (l := ([y_8.1] : List Aa)) (f := Aa.enc) rfl) rfl rfl ?_
    obtain ⟨l_3, hl_3, hg⟩ := Ac hg
    refine Cu (rd := [1, 27]) rfl rfl (Hm Ha Aa.enc_len .row rfl .row rfl hl_3 rfl) rfl rfl ?_
    refine Al ?_
    refine Ai fun hU => ?_
    refine Ah ?_
    refine Bn 51 59 hU ?_
    refine Al ?_
    refine Ai fun hU => ?_
    refine A4 ?_
    refine Ll (fun ((x_3, i_3) : List Aa × Int) => mk [(1, .sl 11 (Az Aa.enc raw)), (6, .sl 11 (Az Aa.enc x_3)), (7, .sl 11 (Az Aa.enc y_5.1)), (8, .val (.int .i64 i_3))] [] 0) hg (Ba []) ?_
    rintro ⟨x_3, i_3⟩ m3 o3 hg hn3
    replace hg : As.l3 raw y_5 x_3 i_3 = some o3 := hg
    show Ci _ _ _ _ (mk _ _ _)
    unfold As.l3 at hg
    refine Ah ?_
    refine Bn 0 16 Bg ?_
    refine Al ?_
    refine Ai fun hU => ?_
    refine C4 rfl hg (fun h15 hg => ?_) fun h15 hg => ?_
    ·refine Aq ?_
     repeat first | refine Cw ?_ | refine Cz ?_
     refine Ah ?_
     refine A4 ?_
     refine Bn 16 72 hU ?_
     refine Al ?_
     obtain ⟨y_9, hy_9, hg⟩ := Ac hg
     refine E5 (Ii _ _ hy_9) ?_
     refine Al ?_
     refine Ai fun hU => ?_
     refine Bn 72 128 hU ?_
     refine Al ?_
     obtain ⟨y_10, hy_10, hg⟩ := Ac hg
     refine Gh (rd := []) (ps := []) (gs := []) false rfl (Jc _ _ hy_10) rfl rfl (.cons .sl .nil) rfl rfl (by intro h; cases h) rfl (by intro h; first | (cases h; done) | exact ⟨_, _, ⟨rfl, rfl⟩, by simp, by simp⟩) ?_
     rintro _ _ ⟨rfl, rfl⟩
     refine Al ?_
     refine Ai fun hU => ?_
     refine Bn 128 192 hU ?_
     refine Al ?_
     obtain ⟨y_11, hy_11, hg⟩ := Ac hg
     refine E5 (Fg _ _ _ hy_11) ?_
     refine Al ?_
     refine Ai fun hU => ?_
     refine Bn 192 256 hU ?_
     refine Al ?_
     obtain ⟨y_12, hy_12, hg⟩ := Ac hg
     refine E5 (Ud _ _ _ hy_12) ?_
     refine Al ?_
     refine Ai fun hU => ?_
     refine Ah ?_
     refine By (ι := Bool) (fun (x90_4 : Bool) => mk [(1, .sl 11 (Az Aa.enc raw)), (6, .sl 11 (Az Aa.enc x_3)), (7, .sl 11 (Az Aa.enc y_5.1)), (8, .val (.int .i64 i_3)), (90, .val (.bool x90_4))] [] 0) (fun (x90_4 : Bool) => As.j4 raw x_3 i_3 x90_4 = some o3) ?_ ?_
     ·refine Ad (Bo _ _ []) 256 416 hU rfl rfl ?_
      refine Al ?_
      rcases Ea hg with ⟨h20, hg⟩ | ⟨h20, hg⟩
      ·refine Al ?_
       refine Ai fun hU => ?_
       exact ⟨true, hg, Ba []⟩
      ·refine Al ?_
       rcases Ea hg with ⟨h22, hg⟩ | ⟨h22, hg⟩
       ·refine Al ?_
        refine Ai fun hU => ?_
        exact ⟨true, hg, Ba []⟩
       ·refine Al ?_
        obtain ⟨y_13, hy_13, hg⟩ := Ac hg
        refine Hr [80] [] [] true (Is _ _ _ hy_13) ?_
        refine Al ?_
        rcases Ea hg with ⟨h24, hg⟩ | ⟨h24, hg⟩
        ·refine Al ?_
         refine Ai fun hU => ?_
         exact ⟨true, hg, Ba []⟩
        ·refine Al ?_
         obtain ⟨y_14, hy_14, hg⟩ := Ac hg
         refine E5 (Is _ _ _ hy_14) ?_
         refine Al ?_
         refine Ai fun hU => ?_
         exact ⟨!y_14, hg, Ba []⟩
     ·rintro x90_4 hg
      replace hg : As.j4 raw x_3 i_3 x90_4 = some o3 := hg
      show Ci _ _ _ _ (mk _ _ _)
      unfold As.j4 at hg
      refine C4 rfl hg (fun h27 hg => ?_) fun h27 hg => ?_
      ·refine Ah ?_
       refine Ad (Bo _ _ []) 0 8 Bg rfl rfl ?_
       refine Al ?_
       refine Ai fun hU => ?_
       refine Bj ?_
       replace hg := C3 hg hn3
       obtain rfl := oi_ hg
       exact Bi [] ⟨rfl, rfl⟩
      ·refine Aq ?_
       repeat first | refine Cw ?_ | refine Cz ?_
       refine Ah ?_
       refine Bn 0 8 Bg ?_
       refine Al ?_
       refine Ai fun hU => ?_
       refine A4 ?_
       refine Ll (fun (k_5 : Int) => mk [(1, .sl 11 (Az Aa.enc raw)), (6, .sl 11 (Az Aa.enc x_3)), (7, .sl 11 (Az Aa.enc y_5.1)), (8, .val (.int .i64 i_3)), (17, .val (.int .i64 k_5))] [] 0) hg (Ba []) ?_
       rintro k_5 m5 o5 hg hn5
       replace hg : As.l5 raw x_3 i_3 k_5 = some o5 := hg
       show Ci _ _ _ _ (mk _ _ _)
       unfold As.l5 at hg
       refine Ah ?_
       refine Bn 0 32 Bg ?_
       refine Al ?_
       refine Ai fun hU => ?_
       refine C4 rfl hg (fun h31 hg => ?_) fun h31 hg => ?_
       ·refine Aq ?_
        repeat first | refine Cw ?_ | refine Cz ?_
        refine Ah ?_
        refine A4 ?_
        refine By (ι := Bool) (fun (x146_6 : Bool) => mk [(1, .sl 11 (Az Aa.enc raw)), (6, .sl 11 (Az Aa.enc x_3)), (7, .sl 11 (Az Aa.enc y_5.1)), (8, .val (.int .i64 i_3)), (17, .val (.int .i64 k_5)), (146, .val (.bool x146_6))] [] 0) (fun (x146_6 : Bool) => As.j6 k_5 x146_6 = some o5) ?_ ?_
        ·refine Bv (Bo _ _ []) (by kernel_rfl) [0, 0, 3, 7, 15, 0, 0, 96, 224, 511, 1023, 2047, 4095, 8191, 16383, 32767, 32767, 98303, 262143, 524287, 32767, 32767, 3178495, 7372799, 16777215, 32767, 32767, 67141631, 234913791, 503349247, 32767, 32767, 3221258239, 7516225535, 17179869183, 34359738367, 68719476735, 137438953471, 137438953471, 549755813887, 1099511627775, 137438953471, 137438953471, 6734508720127, 15530601742335, 35184372088831, 70368744177663, 140737488355327, 281474976710655, 562949953421311] 32 432 hU rfl rfl (by kernel_rfl) ?_
         refine Al ?_
         obtain ⟨e, he, hg⟩ := Ac hg
         refine Al ?_
         refine Ca rfl rfl (Cd Cg (Bd Aa.enc_len (Ao he) (o := 0) (m := 11) (cs := [.int .i64 e.Source, .str e.Host, .int .i64 e.Machine, .int .i64 e.Day, .int .i64 e.Confidence, .int .i64 e.Kind, .str e.Subject, .int .i64 e.Use.Alg, .int .i64 e.Use.Bits, .int .i64 e.Number, .str e.Text]) rfl (by decide) rfl) (Ap Aa.enc_len (Ao he) (o := 0) (m := 11) (by decide) rfl)) rfl rfl ?_
         obtain ⟨y_15, hy_15, hg⟩ := Ac hg
         refine E5 (H7 _ _ hy_15) ?_
         refine Al ?_
         refine Ca rfl rfl (Cd Cg (Bd Aa.enc_len (Ao he) (o := 0) (m := 11) (cs := [.int .i64 e.Source, .str e.Host, .int .i64 e.Machine, .int .i64 e.Day, .int .i64 e.Confidence, .int .i64 e.Kind, .str e.Subject, .int .i64 e.Use.Alg, .int .i64 e.Use.Bits, .int .i64 e.Number, .str e.Text]) rfl (by decide) rfl) (Ap Aa.enc_len (Ao he) (o := 0) (m := 11) (by decide) rfl)) rfl rfl ?_
         obtain ⟨y_16, hy_16, hg⟩ := Ac hg
         refine E5 (Po _ _ hy_16) ?_
         refine Al ?_
         rcases Ea hg with ⟨h32, hg⟩ | ⟨h32, hg⟩
         ·refine Al ?_
          refine Ai fun hU => ?_
          exact ⟨true, hg, Ba []⟩
         ·refine Al ?_
          rcases Ea hg with ⟨h34, hg⟩ | ⟨h34, hg⟩
          ·refine Al ?_
           obtain ⟨e_2, he_2, hg⟩ := Ac hg
           refine Al ?_
           refine Ca (B7 rfl rfl h34) rfl (Cd Cg (Bd Aa.enc_len (Ao he_2) (o := 0) (m := 11) (cs := [.int .i64 e_2.Source, .str e_2.Host, .int .i64 e_2.Machine, .int .i64 e_2.Day, .int .i64 e_2.Confidence, .int .i64 e_2.Kind, .str e_2.Subject, .int .i64 e_2.Use.Alg, .int .i64 e_2.Use.Bits, .int .i64 e_2.Number, .str e_2.Text]) rfl (by decide) rfl) (Ap Aa.enc_len (Ao he_2) (o := 0) (m := 11) (by decide) rfl)) rfl rfl ?_
           refine Al ?_
           refine Ca (B7 rfl rfl h34) rfl (Cd Cg (Bd Aa.enc_len (Ao he) (o := 0) (m := 11) (cs := [.int .i64 e.Source, .str e.Host, .int .i64 e.Machine, .int .i64 e.Day, .int .i64 e.Confidence, .int .i64 e.Kind, .str e.Subject, .int .i64 e.Use.Alg, .int .i64 e.Use.Bits, .int .i64 e.Number, .str e.Text]) rfl (by decide) rfl) (Ap Aa.enc_len (Ao he) (o := 0) (m := 11) (by decide) rfl)) rfl rfl ?_
           obtain ⟨y_17, hy_17, hg⟩ := Ac hg
           refine E5 (El _ _ _ hy_17) ?_
           refine Al ?_
           refine Ca (B7 rfl rfl h34) rfl (Cd Cg (Bd Aa.enc_len (Ao he_2) (o := 0) (m := 11) (cs := [.int .i64 e_2.Source, .str e_2.Host, .int .i64 e_2.Machine, .int .i64 e_2.Day, .int .i64 e_2.Confidence, .int .i64 e_2.Kind, .str e_2.Subject, .int .i64 e_2.Use.Alg, .int .i64 e_2.Use.Bits, .int .i64 e_2.Number, .str e_2.Text]) rfl (by decide) rfl) (Ap Aa.enc_len (Ao he_2) (o := 0) (m := 11) (by decide) rfl)) rfl rfl ?_
           refine Al ?_
           refine Ca (B7 rfl rfl h34) rfl (Cd Cg (Bd Aa.enc_len (Ao he) (o := 0) (m := 11) (cs := [.int .i64 e.Source, .str e.Host, .int .i64 e.Machine, .int .i64 e.Day, .int .i64 e.Confidence, .int .i64 e.Kind, .str e.Subject, .int .i64 e.Use.Alg, .int .i64 e.Use.Bits, .int .i64 e.Number, .str e.Text]) rfl (by decide) rfl) (Ap Aa.enc_len (Ao he) (o := 0) (m := 11) (by decide) rfl)) rfl rfl ?_
           obtain ⟨y_18, hy_18, hg⟩ := Ac hg
           refine E5 (L2 _ _ _ hy_18) ?_
           refine Al ?_
           rcases Ea hg with ⟨h35, hg⟩ | ⟨h35, hg⟩
           ·refine Al ?_
            refine Ai fun hU => ?_
            exact ⟨true, hg, Ba []⟩
           ·refine Al ?_
            refine Ca (B7 rfl rfl h35) rfl (Cd Cg (Bd Aa.enc_len (Ao he) (o := 0) (m := 11) (cs := [.int .i64 e.Source, .str e.Host, .int .i64 e.Machine, .int .i64 e.Day, .int .i64 e.Confidence, .int .i64 e.Kind, .str e.Subject, .int .i64 e.Use.Alg, .int .i64 e.Use.Bits, .int .i64 e.Number, .str e.Text]) rfl (by decide) rfl) (Ap Aa.enc_len (Ao he) (o := 0) (m := 11) (by decide) rfl)) rfl rfl ?_
            refine Al ?_
            refine Ca (B7 rfl rfl h35) rfl (Cd Cg (Bd Aa.enc_len (Ao he) (o := 0) (m := 11) (cs := [.int .i64 e.Source, .str e.Host, .int .i64 e.Machine, .int .i64 e.Day, .int .i64 e.Confidence, .int .i64 e.Kind, .str e.Subject, .int .i64 e.Use.Alg, .int .i64 e.Use.Bits, .int .i64 e.Number, .str e.Text]) rfl (by decide) rfl) (Ap Aa.enc_len (Ao he) (o := 0) (m := 11) (by decide) rfl)) rfl rfl ?_
            obtain ⟨y_19, hy_19, hg⟩ := Ac hg
            refine E5 (El _ _ _ hy_19) ?_
            refine Al ?_
            refine Ai fun hU => ?_
            exact ⟨!decide (y_19 = 0), hg, Ba []⟩
          ·refine Al ?_
           refine Ai fun hU => ?_
           exact ⟨false, hg, Ba []⟩
        ·rintro x146_6 hg
         replace hg : As.j6 k_5 x146_6 = some o5 := hg
         show Ci _ _ _ _ (mk _ _ _)
         unfold As.j6 at hg
         refine C4 rfl hg (fun h39 hg => ?_) fun h39 hg => ?_
         ·refine Ah ?_
          refine Ad (Bo _ _ []) 0 8 Bg rfl rfl ?_
          refine Al ?_
          refine Ai fun hU => ?_
          refine Bj ?_
          replace hg := C3 hg hn5
          replace hg := C3 hg hn3
          obtain rfl := oi_ hg
          exact Bi [] ⟨rfl, rfl⟩
         ·refine Aq ?_
          repeat first | refine Cw ?_ | refine Cz ?_
          refine Ad (Bo _ _ []) 0 24 Bg rfl rfl ?_
          refine Al ?_
          refine Ai fun hU => ?_
          obtain rfl := oi_ hg
          exact ⟨(W (k_5 + 1), m5), Nat.lt_succ_self _, hn5, Ba []⟩
       ·refine Cb ?_
        repeat first | refine Cw ?_ | refine Cz ?_
        replace hg := C3 hg hn5
        refine Ad (Bo _ _ []) 32 48 hU rfl rfl ?_
        refine Al ?_
        refine Ai fun hU => ?_
        refine Ad (Bo _ _ []) 48 72 hU rfl rfl ?_
        refine Al ?_
        refine Ai fun hU => ?_
        obtain rfl := oi_ hg
        exact ⟨((raw, W (i_3 + 1)), m3), Nat.lt_succ_self _, hn3, Ba []⟩
    ·refine Cb ?_
     repeat first | refine Cw ?_ | refine Cz ?_
     replace hg := C3 hg hn3
     refine Bn 16 32 hU ?_
     obtain ⟨y_20, hy_20, hg⟩ := Ac hg
     refine E5 (He _ hy_20) ?_
     refine Al ?_
     refine Ai fun hU => ?_
     refine Bj ?_
     obtain rfl := oi_ hg
     exact Bi [] ⟨rfl, rfl⟩
theorem Nw (l : (List Int)) (r : Bool) (hg : A6 l = some r) : Fn Try.prog 5 0 [.sl 1 (Az eI l)] [] (fun d' b' => d' = .val (.bool r) /\ b' = []) := by
 unfold A6 at hg
 refine Fn.of Try.func5 rfl rfl rfl fun w0 I ρ0 => ?_
 show Ci _ ⟨w0, I, ρ0, 0, 0, 150⟩ _ _ _
 refine Bn 0 8 Bg ?_
 refine Al ?_
 refine Ai fun hU => ?_
 refine Ah ?_
 refine Bn 8 32 hU ?_
 refine Al ?_
 obtain ⟨y, hy, hg⟩ := Ac hg
 refine E5 (M1 _ _ hy) ?_
 refine Al ?_
 refine Ai fun hU => ?_
 refine C4 rfl hg (fun h3 hg => ?_) fun h3 hg => ?_
 ·refine Ah ?_
  refine Ad (Bo _ _ []) 32 48 hU rfl rfl ?_
  obtain ⟨y_2, hy_2, hg⟩ := Ac hg
  refine E5 (He _ hy_2) ?_
  refine Al ?_
  refine Ai fun hU => ?_
  refine Bj ?_
  obtain rfl := oi_ hg
  exact Bi [] ⟨rfl, rfl⟩
 ·refine Aq ?_
  repeat first | refine Cw ?_ | refine Cz ?_
  refine Bn 32 56 hU ?_
  refine Al ?_
  obtain ⟨y_3, hy_3, hg⟩ := Ac hg
  refine Gh (rd := []) (ps := []) (gs := []) false rfl (Oe _ _ hy_3) rfl rfl (.cons .sl .nil) rfl rfl (by intro h; cases h) rfl (by intro h; first | (cases h; done) | exact ⟨_, _, ⟨rfl, rfl⟩, by simp, by simp⟩) ?_
  rintro _ _ ⟨rfl, rfl⟩
  refine Al ?_
  refine Ai fun hU => ?_
  refine Bn 56 128 hU ?_
  refine Al ?_
  obtain ⟨y_4, hy_4, hg⟩ := Ac hg
  refine Gh (rd := [40]) (ps := [40]) (gs := []) false rfl (Fp _ _ _ hy_4) rfl rfl (.cons (.ptr rfl) (.cons .val .nil)) ⟨_, _, _, rfl, .head _, ⟨_, rfl, (by repeat' (first | exact Le.nil | apply Le.cons | exact Ag.val | exact Ag.sl | exact Ag.nils | exact Ag.ptr rfl | exact Ag.rowK rfl))⟩, rfl⟩ rfl (by intro h; cases h) rfl (by intro h; first | (cases h; done) | exact ⟨_, _, ⟨rfl, rfl⟩, by simp, by simp⟩) ?_
  rintro _ _ ⟨rfl, rfl⟩
  refine Al ?_
  obtain ⟨y_5, hy_5, hg⟩ := Ac hg
  refine Gh (rd := [40]) (ps := [40]) (gs := []) false rfl (Fp _ _ _ hy_5) rfl rfl (.cons (.ptr rfl) (.cons .val .nil)) ⟨_, _, _, rfl, .head _, ⟨_, rfl, (by repeat' (first | exact Le.nil | apply Le.cons | exact Ag.val | exact Ag.sl | exact Ag.nils | exact Ag.ptr rfl | exact Ag.rowK rfl))⟩, rfl⟩ rfl (by intro h; cases h) rfl (by intro h; first | (cases h; done) | exact ⟨_, _, ⟨rfl, rfl⟩, by simp, by simp⟩) ?_
  rintro _ _ ⟨rfl, rfl⟩
  refine Al ?_
  obtain ⟨y_6, hy_6, hg⟩ := Ac hg
  refine Gh (rd := [40]) (ps := [40]) (gs := []) false rfl (Fp _ _ _ hy_6) rfl rfl (.cons (.ptr rfl) (.cons .val .nil)) ⟨_, _, _, rfl, .head _, ⟨_, rfl, (by repeat' (first | exact Le.nil | apply Le.cons | exact Ag.val | exact Ag.sl | exact Ag.nils | exact Ag.ptr rfl | exact Ag.rowK rfl))⟩, rfl⟩ rfl (by intro h; cases h) rfl (by intro h; first | (cases h; done) | exact ⟨_, _, ⟨rfl, rfl⟩, by simp, by simp⟩) ?_
  rintro _ _ ⟨rfl, rfl⟩
  refine Al ?_
  refine Ai fun hU => ?_
  refine Ah ?_
  refine Em (σ' := mk [(4, .sl 11 (Az Aa.enc y_4.1)), (5, .row 0), (6, .row 1)] [(0, .row 30 11 (Az Aa.enc y_5.1)), (1, .row 30 11 (Az Aa.enc y_6.1))] 2) (Ba [(0, 80), (1, 96)]) ?_
  refine Em (σ' := mk [(4, .sl 11 (Az Aa.enc y_4.1)), (5, .sl 11 (Az Aa.enc y_5.1)), (6, .row 0)] [(0, .row 30 11 (Az Aa.enc y_6.1))] 1) (Ba [(0, 1)]) ?_
  refine Ad (Bo _ _ []) 1 65 Bg rfl rfl ?_
  refine Al ?_
  obtain ⟨y_7, hy_7, hg⟩ := Ac hg
  refine E5 (Fg _ _ _ hy_7) ?_
  refine Al ?_
  refine Ai fun hU => ?_
  refine Bn 65 129 hU ?_
  refine Al ?_
  obtain ⟨y_8, hy_8, hg⟩ := Ac hg
  refine E5 (Fg _ _ _ hy_8) ?_
  refine Al ?_
  refine Ai fun hU => ?_
  refine Ah ?_
  refine Em (σ' := mk [(4, .sl 11 (Az Aa.enc y_4.1)), (5, .sl 11 (Az Aa.enc y_5.1)), (6, .sl 11 (Az Aa.enc y_6.1)), (7, .sl 11 (Az Aa.enc y_7.1)), (8, .val (.int .i64 y_7.2)), (9, .sl 11 (Az Aa.enc y_8.1)), (10, .val (.int .i64 y_8.2))] [] 0) (Ba []) ?_
  refine Ad (Bo _ _ []) 0 64 Bg rfl rfl ?_
  refine Al ?_
  obtain ⟨y_9, hy_9, hg⟩ := Ac hg
  refine E5 (Fg _ _ _ hy_9) ?_
  refine Al ?_
  refine Ai fun hU => ?_
  refine Bn 64 128 hU ?_
  refine Al ?_
  obtain ⟨y_10, hy_10, hg⟩ := Ac hg
  refine E5 (Fg _ _ _ hy_10) ?_
  refine Al ?_
  refine Ai fun hU => ?_
  refine Bn 128 192 hU ?_
  refine Al ?_
  obtain ⟨y_11, hy_11, hg⟩ := Ac hg
  refine E5 (Fg _ _ _ hy_11) ?_
  refine Al ?_
  refine Ai fun hU => ?_
  refine Bn 192 256 hU ?_
  refine Al ?_
  obtain ⟨y_12, hy_12, hg⟩ := Ac hg
  refine E5 (Fg _ _ _ hy_12) ?_
  refine Al ?_
  refine Ai fun hU => ?_
  refine Ah ?_
  refine By (ι := Bool) (fun (x109_4 : Bool) => mk [(4, .sl 11 (Az Aa.enc y_4.1)), (5, .sl 11 (Az Aa.enc y_5.1)), (6, .sl 11 (Az Aa.enc y_6.1)), (13, .sl 11 (Az Aa.enc y_10.1)), (109, .val (.bool x109_4))] [] 0) (fun (x109_4 : Bool) => A6.j4 y_4 y_5 y_6 y_10 x109_4 = some r) ?_ ?_
  ·refine Ad (Bo _ _ []) 256 576 hU rfl rfl ?_
   refine Al ?_
   rcases Ea hg with ⟨h13, hg⟩ | ⟨h13, hg⟩
   ·refine Al ?_
    refine Ai fun hU => ?_
    exact ⟨true, hg, Ba []⟩
   ·refine Al ?_
    rcases Ea hg with ⟨h15, hg⟩ | ⟨h15, hg⟩
    ·refine Al ?_
     refine Ai fun hU => ?_
     exact ⟨true, hg, Ba []⟩
    ·refine Al ?_
     rcases Ea hg with ⟨h17, hg⟩ | ⟨h17, hg⟩
     ·refine Al ?_
      refine Ai fun hU => ?_
      exact ⟨true, hg, Ba []⟩
     ·refine Al ?_
      rcases Ea hg with ⟨h19, hg⟩ | ⟨h19, hg⟩
      ·refine Al ?_
       refine Ai fun hU => ?_
       exact ⟨true, hg, Ba []⟩
      ·refine Al ?_
       rcases Ea hg with ⟨h21, hg⟩ | ⟨h21, hg⟩
       ·refine Al ?_
        refine Ai fun hU => ?_
        exact ⟨true, hg, Ba []⟩
       ·refine Al ?_
        rcases Ea hg with ⟨h23, hg⟩ | ⟨h23, hg⟩
        ·refine Al ?_
         refine Ai fun hU => ?_
         exact ⟨true, hg, Ba []⟩
        ·refine Al ?_
         obtain ⟨y_13, hy_13, hg⟩ := Ac hg
         refine E5 (Is _ _ _ hy_13) ?_
         refine Al ?_
         rcases Ea hg with ⟨h25, hg⟩ | ⟨h25, hg⟩
         ·refine Al ?_
          refine Ai fun hU => ?_
          exact ⟨true, hg, Ba []⟩
         ·refine Al ?_
          obtain ⟨y_14, hy_14, hg⟩ := Ac hg
          refine E5 (Is _ _ _ hy_14) ?_
          refine Al ?_
          rcases Ea hg with ⟨h27, hg⟩ | ⟨h27, hg⟩
          ·refine Al ?_
           refine Ai fun hU => ?_
           exact ⟨true, hg, Ba []⟩
          ·refine Al ?_
           obtain ⟨y_15, hy_15, hg⟩ := Ac hg
           refine E5 (Is _ _ _ hy_15) ?_
           refine Al ?_
           refine Ai fun hU => ?_
           exact ⟨!y_15, hg, Ba []⟩
  ·rintro x109_4 hg
   replace hg : A6.j4 y_4 y_5 y_6 y_10 x109_4 = some r := hg
   show Ci _ _ _ _ (mk _ _ _)
   unfold A6.j4 at hg
   refine C4 rfl hg (fun h30 hg => ?_) fun h30 hg => ?_
   ·refine Ah ?_
    refine Ad (Bo _ _ []) 0 8 Bg rfl rfl ?_
    refine Al ?_
    refine Ai fun hU => ?_
    refine Bj ?_
    obtain rfl := oi_ hg
    exact Bi [] ⟨rfl, rfl⟩
   ·refine Aq ?_
    repeat first | refine Cw ?_ | refine Cz ?_
    refine Ah ?_
    refine Bn 0 8 Bg ?_
    refine Al ?_
    refine Ai fun hU => ?_
    refine A4 ?_
    refine Ll (fun (n_5 : Int) => mk [(4, .sl 11 (Az Aa.enc y_4.1)), (5, .sl 11 (Az Aa.enc y_5.1)), (6, .sl 11 (Az Aa.enc y_6.1)), (13, .sl 11 (Az Aa.enc y_10.1)), (19, .val (.int .i64 n_5))] [] 0) hg (Ba []) ?_
    rintro n_5 m5 o5 hg hn5
    replace hg : A6.l5 y_4 y_5 y_6 y_10 n_5 = some o5 := hg
    show Ci _ _ _ _ (mk _ _ _)
    unfold A6.l5 at hg
    refine Ah ?_
    refine Bn 0 32 Bg ?_
    refine Al ?_
    refine Ai fun hU => ?_
    refine C4 rfl hg (fun h34 hg => ?_) fun h34 hg => ?_
    ·refine Aq ?_
     repeat first | refine Cw ?_ | refine Cz ?_
     refine Ah ?_
     refine A4 ?_
     refine Bn 32 40 hU ?_
     refine Al ?_
     refine Ai fun hU => ?_
     refine Ah ?_
     refine Bn 40 48 hU ?_
     refine Al ?_
     refine Ai fun hU => ?_
     refine A4 ?_
     refine Ll (fun ((found_6, m_6) : Bool × Int) => mk [(4, .sl 11 (Az Aa.enc y_4.1)), (5, .sl 11 (Az Aa.enc y_5.1)), (6, .sl 11 (Az Aa.enc y_6.1)), (13, .sl 11 (Az Aa.enc y_10.1)), (19, .val (.int .i64 n_5)), (20, .val (.bool found_6)), (21, .val (.int .i64 m_6))] [] 0) hg (Ba []) ?_
     rintro ⟨found_6, m_6⟩ m6 o6 hg hn6
     replace hg : A6.l6 y_6 y_10 n_5 found_6 m_6 = some o6 := hg
     show Ci _ _ _ _ (mk _ _ _)
     unfold A6.l6 at hg
     refine Ah ?_
     refine Bn 0 32 Bg ?_
     refine Al ?_
     refine Ai fun hU => ?_
     refine C4 rfl hg (fun h38 hg => ?_) fun h38 hg => ?_
     ·refine Aq ?_
      repeat first | refine Cw ?_ | refine Cz ?_
      refine By (ι := Bool) (fun (found_7 : Bool) => mk [(4, .sl 11 (Az Aa.enc y_4.1)), (5, .sl 11 (Az Aa.enc y_5.1)), (6, .sl 11 (Az Aa.enc y_6.1)), (13, .sl 11 (Az Aa.enc y_10.1)), (19, .val (.int .i64 n_5)), (20, .val (.bool found_7)), (21, .val (.int .i64 m_6))] [] 0) (fun (found_7 : Bool) => A6.j7 m_6 found_7 = some o6) ?_ ?_
      ·refine A4 ?_
       refine Bv (Bo _ _ []) (by kernel_rfl) [0, 1, 3, 3, 15, 31, 3, 3, 195, 451, 1023, 2047, 4095] 32 136 hU rfl rfl (by kernel_rfl) ?_
       refine Al ?_
       rcases Ea hg with ⟨h39, hg⟩ | ⟨h39, hg⟩
       ·refine Al ?_
        refine Ai fun hU => ?_
        exact ⟨true, hg, Ba []⟩
       ·refine Al ?_
        obtain ⟨e, he, hg⟩ := Ac hg
        refine Al ?_
        refine Ca (B7 rfl rfl h39) rfl (Cd Cg (Bd Aa.enc_len (Ao he) (o := 0) (m := 11) (cs := [.int .i64 e.Source, .str e.Host, .int .i64 e.Machine, .int .i64 e.Day, .int .i64 e.Confidence, .int .i64 e.Kind, .str e.Subject, .int .i64 e.Use.Alg, .int .i64 e.Use.Bits, .int .i64 e.Number, .str e.Text]) rfl (by decide) rfl) (Ap Aa.enc_len (Ao he) (o := 0) (m := 11) (by decide) rfl)) rfl rfl ?_
        refine Al ?_
        obtain ⟨e_2, he_2, hg⟩ := Ac hg
        refine Al ?_
        refine Ca (B7 rfl rfl h39) rfl (Cd Cg (Bd Aa.enc_len (Ao he_2) (o := 0) (m := 11) (cs := [.int .i64 e_2.Source, .str e_2.Host, .int .i64 e_2.Machine, .int .i64 e_2.Day, .int .i64 e_2.Confidence, .int .i64 e_2.Kind, .str e_2.Subject, .int .i64 e_2.Use.Alg, .int .i64 e_2.Use.Bits, .int .i64 e_2.Number, .str e_2.Text]) rfl (by decide) rfl) (Ap Aa.enc_len (Ao he_2) (o := 0) (m := 11) (by decide) rfl)) rfl rfl ?_
        refine Ca (B7 rfl rfl h39) rfl (Lc e e_2) rfl rfl ?_
        refine Al ?_
        refine Ai fun hU => ?_
        exact ⟨decide (e = e_2), hg, Ba []⟩
      ·rintro found_7 hg
       replace hg : A6.j7 m_6 found_7 = some o6 := hg
       show Ci _ _ _ _ (mk _ _ _)
       unfold A6.j7 at hg
       refine Ad (Bo _ _ []) 0 24 Bg rfl rfl ?_
       refine Al ?_
       refine Ai fun hU => ?_
       obtain rfl := oi_ hg
       exact ⟨((found_7, W (m_6 + 1)), m6), Nat.lt_succ_self _, hn6, Ba []⟩
     ·refine Cb ?_
      repeat first | refine Cw ?_ | refine Cz ?_
      replace hg := C3 hg hn6
      refine Bn 32 48 hU ?_
      refine Al ?_
      refine Ai fun hU => ?_
      refine C4 rfl hg (fun h44 hg => ?_) fun h44 hg => ?_
      ·refine Ah ?_
       refine Ad (Bo _ _ []) 48 56 hU rfl rfl ?_
       refine Al ?_
       refine Ai fun hU => ?_
       refine Bj ?_
       replace hg := C3 hg hn5
       obtain rfl := oi_ hg
       exact Bi [] ⟨rfl, rfl⟩
      ·refine Aq ?_
       repeat first | refine Cw ?_ | refine Cz ?_
       refine Ad (Bo _ _ []) 48 72 hU rfl rfl ?_
       refine Al ?_
       refine Ai fun hU => ?_
       obtain rfl := oi_ hg
       exact ⟨(W (n_5 + 1), m5), Nat.lt_succ_self _, hn5, Ba []⟩
    ·refine Cb ?_
     repeat first | refine Cw ?_ | refine Cz ?_
     replace hg := C3 hg hn5
     refine Bn 32 152 hU ?_
     refine Al ?_
     rcases Ea hg with ⟨h47, hg⟩ | ⟨h47, hg⟩
     ·obtain ⟨y_16, hy_16, hg⟩ := Ac hg
      refine E5 (He _ hy_16) ?_
      refine Al ?_
      refine Ai fun hU => ?_
      refine Bj ?_
      obtain rfl := oi_ hg
      exact Bi [] ⟨rfl, rfl⟩
     ·refine Al ?_
      refine Ai fun hU => ?_
      refine Bj ?_
      obtain rfl := oi_ hg
      exact Bi [] ⟨rfl, rfl⟩
end Go.Proofs.Ytjomajedgbcngaa
