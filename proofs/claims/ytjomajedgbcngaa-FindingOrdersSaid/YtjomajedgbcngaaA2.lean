import Derived.Test.YtjomajedgbcngaaT1
import Derived.Test.YtjomajedgbcngaaA1
set_option linter.unusedVariables false
set_option linter.unusedSimpArgs false
set_option maxRecDepth 100000
set_option maxHeartbeats 1600000
namespace Go.Proofs.Ytjomajedgbcngaa
open Go.RowKit
theorem Ih (n : Int) (r : Bool) (hg : E9 n = some r) : Fn Try.prog 86 0 [.val (.int .i64 n)] [] (fun d' b' => d' = .val (.bool r) /\ b' = []) := by
 unfold E9 at hg
 refine Fn.of Try.func86 rfl rfl rfl fun w0 I ρ0 => ?_
 show Ci _ ⟨w0, I, ρ0, 0, 0, 9⟩ _ _ _
 refine Bn 0 8 Bg ?_
 refine Al ?_
 refine Ai fun hU => ?_
 refine Bn 8 64 hU ?_
 refine Al ?_
 rcases Ea hg with ⟨h2, hg⟩ | ⟨h2, hg⟩
 ·refine Al ?_
  refine Ai fun hU => ?_
  refine Bj ?_
  obtain rfl := oi_ hg
  exact Bi [] ⟨rfl, rfl⟩
 ·refine Al ?_
  refine Ai fun hU => ?_
  refine Bj ?_
  obtain rfl := oi_ hg
  exact Bi [] ⟨rfl, rfl⟩
theorem Pb (l : (List ByteArray)) (r : Bool) (hg : Co l = some r) : Fn Try.prog 99 0 [.sl 1 (Az eS l)] [] (fun d' b' => d' = .val (.bool r) /\ b' = []) := by
 unfold Co at hg
 refine Fn.of Try.func99 rfl rfl rfl fun w0 I ρ0 => ?_
 show Ci _ ⟨w0, I, ρ0, 0, 0, 32⟩ _ _ _
 refine Bn 0 8 Bg ?_
 refine Al ?_
 refine Ai fun hU => ?_
 refine Ah ?_
 refine Bn 8 32 hU ?_
 refine Al ?_
 refine Ai fun hU => ?_
 refine A4 ?_
 refine Ll (fun (x7_1 : Int) => mk [(0, .sl 1 (Az eS l)), (5, .sl 1 (Az eS l)), (6, .val (.int .i64 (l.length : Int))), (7, .val (.int .i64 x7_1))] [] 0) hg (Ba []) ?_
 rintro x7_1 m1 o1 hg hn1
 replace hg : Co.l1 l x7_1 = some o1 := hg
 show Ci _ _ _ _ (mk _ _ _)
 unfold Co.l1 at hg
 refine Bn 0 8 Bg ?_
 refine Al ?_
 refine Ai fun hU => ?_
 refine Ah ?_
 refine C4 rfl hg (fun h4 hg => ?_) fun h4 hg => ?_
 ·refine Aq ?_
  repeat first | refine Cw ?_ | refine Cz ?_
  refine Ah ?_
  refine A4 ?_
  refine Bn 8 48 hU ?_
  refine Al ?_
  obtain ⟨e, he, hg⟩ := Ac hg
  refine Al ?_
  refine Ca rfl rfl (Ch mE (D6 Vy (Ao he) (o := 0) (c := .str e) rfl rfl)) rfl rfl ?_
  refine Al ?_
  refine Ai fun hU => ?_
  refine By (ι := Bool) (fun (x27_2 : Bool) => mk [(0, .sl 1 (Az eS l)), (5, .sl 1 (Az eS l)), (6, .val (.int .i64 (l.length : Int))), (7, .val (.int .i64 x7_1)), (27, .val (.bool x27_2))] [] 0) (fun (x27_2 : Bool) => Co.j2 x7_1 x27_2 = some o1) ?_ ?_
  ·refine Ad (Bo _ _ []) 48 176 hU rfl rfl ?_
   refine Al ?_
   obtain ⟨y, hy, hg⟩ := Ac hg
   refine E5 (Fe _ _ hy) ?_
   refine Al ?_
   rcases Ea hg with ⟨h6, hg⟩ | ⟨h6, hg⟩
   ·refine Al ?_
    refine Ai fun hU => ?_
    exact ⟨true, hg, Ba []⟩
   ·refine Al ?_
    rcases Ea hg with ⟨h8, hg⟩ | ⟨h8, hg⟩
    ·refine Al ?_
     obtain ⟨e_2, he_2, hg⟩ := Ac hg
     refine Al ?_
     refine Ca (B7 rfl rfl h8) rfl (Ch mE (D6 Vy (Ao he_2) (o := 0) (c := .str e_2) rfl rfl)) rfl rfl ?_
     refine Al ?_
     refine Ca (B7 rfl rfl h8) rfl bF rfl rfl ?_
     refine Al ?_
     refine Ai fun hU => ?_
     exact ⟨!Iz (Hk e_2) (Hk e), hg, Ba []⟩
    ·refine Al ?_
     refine Ai fun hU => ?_
     exact ⟨false, hg, Ba []⟩
  ·rintro x27_2 hg
   replace hg : Co.j2 x7_1 x27_2 = some o1 := hg
   show Ci _ _ _ _ (mk _ _ _)
   unfold Co.j2 at hg
   refine C4 rfl hg (fun h11 hg => ?_) fun h11 hg => ?_
   ·refine Ah ?_
    refine Ad (Bo _ _ []) 0 8 Bg rfl rfl ?_
    refine Al ?_
    refine Ai fun hU => ?_
    refine Bj ?_
    replace hg := C3 hg hn1
    obtain rfl := oi_ hg
    exact Bi [] ⟨rfl, rfl⟩
   ·refine Aq ?_
    repeat first | refine Cw ?_ | refine Cz ?_
    refine Ad (Bo _ _ []) 0 16 Bg rfl rfl ?_
    refine Al ?_
    refine Ai fun hU => ?_
    obtain rfl := oi_ hg
    exact ⟨(W (x7_1 + 1), m1), Nat.lt_succ_self _, hn1, Ba []⟩
 ·refine Cb ?_
  repeat first | refine Cw ?_ | refine Cz ?_
  replace hg := C3 hg hn1
  refine Bn 8 40 hU ?_
  refine Al ?_
  refine Ai fun hU => ?_
  refine Bj ?_
  obtain rfl := oi_ hg
  exact Bi [] ⟨rfl, rfl⟩
theorem L7 (u : Bk) (kind : Int) (r : Bool) (hg : Hv u kind = some r) : Fn Try.prog 100 0 [.agg [.val (.int .i64 u.Alg), .val (.int .i64 u.Bits)], .val (.int .i64 kind)] [] (fun d' b' => d' = .val (.bool r) /\ b' = []) := by
 unfold Hv at hg
 refine Fn.of Try.func100 rfl rfl rfl fun w0 I ρ0 => ?_
 show Ci _ ⟨w0, I, ρ0, 0, 0, 14⟩ _ _ _
 refine Bn 0 16 Bg ?_
 refine Al ?_
 refine Ai fun hU => ?_
 refine Bn 16 96 hU ?_
 refine Al ?_
 obtain ⟨y, hy, hg⟩ := Ac hg
 refine E5 (H6 _ _ hy) ?_
 refine Al ?_
 rcases Ea hg with ⟨h2, hg⟩ | ⟨h2, hg⟩
 ·refine Al ?_
  obtain ⟨y_2, hy_2, hg⟩ := Ac hg
  refine E5 (Ko _ _ hy_2) ?_
  refine Al ?_
  refine Ai fun hU => ?_
  refine Bj ?_
  obtain rfl := oi_ hg
  exact Bi [] ⟨rfl, rfl⟩
 ·refine Al ?_
  refine Ai fun hU => ?_
  refine Bj ?_
  obtain rfl := oi_ hg
  exact Bi [] ⟨rfl, rfl⟩
theorem P7 (n : Int) (r : Bool) (hg : In n = some r) : Fn Try.prog 101 0 [.val (.int .i64 n)] [] (fun d' b' => d' = .val (.bool r) /\ b' = []) := by
 unfold In at hg
 refine Fn.of Try.func101 rfl rfl rfl fun w0 I ρ0 => ?_
 show Ci _ ⟨w0, I, ρ0, 0, 0, 9⟩ _ _ _
 refine Bn 0 8 Bg ?_
 refine Al ?_
 refine Ai fun hU => ?_
 refine Bn 8 64 hU ?_
 refine Al ?_
 rcases Ea hg with ⟨h2, hg⟩ | ⟨h2, hg⟩
 ·refine Al ?_
  refine Ai fun hU => ?_
  refine Bj ?_
  obtain rfl := oi_ hg
  exact Bi [] ⟨rfl, rfl⟩
 ·refine Al ?_
  refine Ai fun hU => ?_
  refine Bj ?_
  obtain rfl := oi_ hg
  exact Bi [] ⟨rfl, rfl⟩
theorem Pg (c : Bc) (r : Bool) (hg : Bl c = some r) : Fn Try.prog 97 0 [.agg (Bc.dv c)] [] (fun d' b' => d' = .val (.bool r) /\ b' = []) := by
 unfold Bl at hg
 refine Fn.of Try.func97 rfl rfl rfl fun w0 I ρ0 => ?_
 show Ci _ ⟨w0, I, ρ0, 0, 0, 91⟩ _ _ _
 refine Bn 0 16 Bg ?_
 refine Al ?_
 refine Ai fun hU => ?_
 refine Ah ?_
 refine By (ι := Bool) (fun (x28_1 : Bool) => mk [(1, .ptr 0 0), (28, .val (.bool x28_1))] [(0, .box (Bc.dv c) 110)] 1) (fun (x28_1 : Bool) => Bl.j1 c x28_1 = some r) ?_ ?_
 ·refine Ad (Bo _ _ []) 16 224 hU rfl rfl ?_
  refine Al ?_
  rcases Ea hg with ⟨h2, hg⟩ | ⟨h2, hg⟩
  ·refine Al ?_
   refine Ai fun hU => ?_
   exact ⟨true, hg, Ba [(0, 0)]⟩
  ·refine Al ?_
   rcases Ea hg with ⟨h4, hg⟩ | ⟨h4, hg⟩
   ·refine Al ?_
    refine Ai fun hU => ?_
    exact ⟨true, hg, Ba [(0, 0)]⟩
   ·refine Al ?_
    obtain ⟨y, hy, hg⟩ := Ac hg
    refine E5 (Fe _ _ hy) ?_
    refine Al ?_
    rcases Ea hg with ⟨h6, hg⟩ | ⟨h6, hg⟩
    ·refine Al ?_
     refine Ai fun hU => ?_
     exact ⟨true, hg, Ba [(0, 0)]⟩
    ·refine Al ?_
     obtain ⟨y_2, hy_2, hg⟩ := Ac hg
     refine E5 (Fe _ _ hy_2) ?_
     refine Al ?_
     rcases Ea hg with ⟨h8, hg⟩ | ⟨h8, hg⟩
     ·refine Al ?_
      refine Ai fun hU => ?_
      exact ⟨true, hg, Ba [(0, 0)]⟩
     ·refine Al ?_
      obtain ⟨y_3, hy_3, hg⟩ := Ac hg
      refine E5 (Pb _ _ hy_3) ?_
      refine Al ?_
      refine Ai fun hU => ?_
      exact ⟨!y_3, hg, Ba [(0, 0)]⟩
 ·rintro x28_1 hg
  replace hg : Bl.j1 c x28_1 = some r := hg
  show Ci _ _ _ _ (mk _ _ _)
  unfold Bl.j1 at hg
  refine C4 rfl hg (fun h11 hg => ?_) fun h11 hg => ?_
  ·refine Ah ?_
   refine Ad (Bo _ _ []) 1 9 Bg rfl rfl ?_
   refine Al ?_
   refine Ai fun hU => ?_
   refine Bj ?_
   obtain rfl := oi_ hg
   exact Bi [] ⟨rfl, rfl⟩
  ·refine Aq ?_
   repeat first | refine Cw ?_ | refine Cz ?_
   refine Ah ?_
   refine By (ι := Bool) (fun (x58_2 : Bool) => mk [(1, .ptr 0 0), (58, .val (.bool x58_2))] [(0, .box (Bc.dv c) 110)] 1) (fun (x58_2 : Bool) => Bl.j2 c x58_2 = some r) ?_ ?_
   ·refine Ad (Bo _ _ []) 1 241 Bg rfl rfl ?_
    refine Al ?_
    obtain ⟨y_4, hy_4, hg⟩ := Ac hg
    refine E5 (L7 _ _ _ hy_4) ?_
    refine Al ?_
    rcases Ea hg with ⟨h13, hg⟩ | ⟨h13, hg⟩
    ·refine Al ?_
     refine Ai fun hU => ?_
     exact ⟨true, hg, Ba [(0, 0)]⟩
    ·refine Al ?_
     obtain ⟨y_5, hy_5, hg⟩ := Ac hg
     refine E5 (Ih _ _ hy_5) ?_
     refine Al ?_
     rcases Ea hg with ⟨h15, hg⟩ | ⟨h15, hg⟩
     ·refine Al ?_
      refine Ai fun hU => ?_
      exact ⟨true, hg, Ba [(0, 0)]⟩
     ·refine Al ?_
      obtain ⟨y_6, hy_6, hg⟩ := Ac hg
      refine E5 (L7 _ _ _ hy_6) ?_
      refine Al ?_
      rcases Ea hg with ⟨h17, hg⟩ | ⟨h17, hg⟩
      ·refine Al ?_
       refine Ai fun hU => ?_
       exact ⟨true, hg, Ba [(0, 0)]⟩
      ·refine Al ?_
       obtain ⟨y_7, hy_7, hg⟩ := Ac hg
       refine E5 (Ih _ _ hy_7) ?_
       refine Al ?_
       rcases Ea hg with ⟨h19, hg⟩ | ⟨h19, hg⟩
       ·refine Al ?_
        refine Ai fun hU => ?_
        exact ⟨true, hg, Ba [(0, 0)]⟩
       ·refine Al ?_
        obtain ⟨y_8, hy_8, hg⟩ := Ac hg
        refine E5 (P7 _ _ hy_8) ?_
        refine Al ?_
        refine Ai fun hU => ?_
        exact ⟨!y_8, hg, Ba [(0, 0)]⟩
   ·rintro x58_2 hg
    replace hg : Bl.j2 c x58_2 = some r := hg
    show Ci _ _ _ _ (mk _ _ _)
    unfold Bl.j2 at hg
    refine C4 rfl hg (fun h22 hg => ?_) fun h22 hg => ?_
    ·refine Ah ?_
     refine Ad (Bo _ _ []) 1 9 Bg rfl rfl ?_
     refine Al ?_
     refine Ai fun hU => ?_
     refine Bj ?_
     obtain rfl := oi_ hg
     exact Bi [] ⟨rfl, rfl⟩
    ·refine Aq ?_
     repeat first | refine Cw ?_ | refine Cz ?_
     refine Ah ?_
     refine By (ι := Bool) (fun (x73_3 : Bool) => mk [(1, .ptr 0 0), (73, .val (.bool x73_3))] [(0, .box (Bc.dv c) 110)] 1) (fun (x73_3 : Bool) => Bl.j3 c x73_3 = some r) ?_ ?_
     ·refine Ad (Bo _ _ []) 1 121 Bg rfl rfl ?_
      refine Al ?_
      rcases Ea hg with ⟨h24, hg⟩ | ⟨h24, hg⟩
      ·refine Al ?_
       refine Ai fun hU => ?_
       exact ⟨true, hg, Ba [(0, 0)]⟩
      ·refine Al ?_
       rcases Ea hg with ⟨h26, hg⟩ | ⟨h26, hg⟩
       ·refine Al ?_
        refine Ai fun hU => ?_
        exact ⟨true, hg, Ba [(0, 0)]⟩
       ·refine Al ?_
        refine Ai fun hU => ?_
        exact ⟨decide (40000 < c.To), hg, Ba [(0, 0)]⟩
     ·rintro x73_3 hg
      replace hg : Bl.j3 c x73_3 = some r := hg
      show Ci _ _ _ _ (mk _ _ _)
      unfold Bl.j3 at hg
      refine C4 rfl hg (fun h29 hg => ?_) fun h29 hg => ?_
      ·refine Ah ?_
       refine Ad (Bo _ _ []) 1 9 Bg rfl rfl ?_
       refine Al ?_
       refine Ai fun hU => ?_
       refine Bj ?_
       obtain rfl := oi_ hg
       exact Bi [] ⟨rfl, rfl⟩
      ·refine Aq ?_
       repeat first | refine Cw ?_ | refine Cz ?_
       refine Bn 1 145 Bg ?_
       refine Al ?_
       rcases Ea hg with ⟨h31, hg⟩ | ⟨h31, hg⟩
       ·refine Al ?_
        rcases Ea hg with ⟨h32, hg⟩ | ⟨h32, hg⟩
        ·refine Al ?_
         rcases Ea hg with ⟨h33, hg⟩ | ⟨h33, hg⟩
         ·refine Al ?_
          refine Ai fun hU => ?_
          refine Bj ?_
          obtain rfl := oi_ hg
          exact Bi [] ⟨rfl, rfl⟩
         ·refine Al ?_
          refine Ai fun hU => ?_
          refine Bj ?_
          obtain rfl := oi_ hg
          exact Bi [] ⟨rfl, rfl⟩
        ·refine Al ?_
         refine Ai fun hU => ?_
         refine Bj ?_
         obtain rfl := oi_ hg
         exact Bi [] ⟨rfl, rfl⟩
       ·refine Al ?_
        refine Ai fun hU => ?_
        refine Bj ?_
        obtain rfl := oi_ hg
        exact Bi [] ⟨rfl, rfl⟩
theorem Pc (c : Bc) (r : Int) (hg : Hz c = some r) : Fn Try.prog 87 0 [.agg (Bc.dv c)] [] (fun d' b' => d' = .val (.int .i64 r) /\ b' = []) := by
 unfold Hz at hg
 refine Fn.of Try.func87 rfl rfl rfl fun w0 I ρ0 => ?_
 show Ci _ ⟨w0, I, ρ0, 0, 0, 6⟩ _ _ _
 refine Bn 0 16 Bg ?_
 refine Al ?_
 refine Ai fun hU => ?_
 refine Ah ?_
 refine Bn 16 40 hU ?_
 refine Al ?_
 obtain ⟨y, hy, hg⟩ := Ac hg
 refine E5 (Pg _ _ hy) ?_
 refine Al ?_
 refine Ai fun hU => ?_
 refine C4 rfl hg (fun h3 hg => ?_) fun h3 hg => ?_
 ·refine Ah ?_
  refine Ad (Bo _ _ []) 40 48 hU rfl rfl ?_
  refine Al ?_
  refine Ai fun hU => ?_
  refine Bj ?_
  obtain rfl := oi_ hg
  exact Bi [] ⟨rfl, rfl⟩
 ·refine Aq ?_
  repeat first | refine Cw ?_ | refine Cz ?_
  refine Bn 40 48 hU ?_
  refine Al ?_
  refine Ai fun hU => ?_
  refine Bj ?_
  obtain rfl := oi_ hg
  exact Bi [] ⟨rfl, rfl⟩
theorem Mu (key : Bk) (id : Int) (l : (List Bc)) (r : Bool) (hg : B5 key id l = some r) : Fn Try.prog 68 0 [.agg [.val (.int .i64 key.Alg), .val (.int .i64 key.Bits)], .val (.int .i64 id), .sl 15 (Az Bc.enc l)] [] (fun d' b' => d' = .val (.bool r) /\ b' = []) := by
 unfold B5 at hg
 refine Fn.of Try.func68 rfl rfl rfl fun w0 I ρ0 => ?_
 show Ci _ ⟨w0, I, ρ0, 0, 0, 57⟩ _ _ _
 refine Bn 0 16 Bg ?_
 refine Al ?_
 refine Ai fun hU => ?_
 refine Ah ?_
 refine By (ι := Bool) (fun (x27_1 : Bool) => mk [(1, .val (.int .i64 id)), (2, .sl 15 (Az Bc.enc l)), (3, .ptr 0 0), (27, .val (.bool x27_1))] [(0, .box [.val (.int .i64 key.Alg), .val (.int .i64 key.Bits)] 28)] 1) (fun (x27_1 : Bool) => B5.j1 key id l x27_1 = some r) ?_ ?_
 ·refine Ad (Bo _ _ []) 16 168 hU rfl rfl ?_
  refine Al ?_
  obtain ⟨y, hy, hg⟩ := Ac hg
  refine E5 (H6 _ _ hy) ?_
  refine Al ?_
  rcases Ea hg with ⟨h2, hg⟩ | ⟨h2, hg⟩
  ·refine Al ?_
   refine Ai fun hU => ?_
   exact ⟨true, hg, Ba [(0, 0)]⟩
  ·refine Al ?_
   obtain ⟨y_2, hy_2, hg⟩ := Ac hg
   refine E5 (Ko _ _ hy_2) ?_
   refine Al ?_
   rcases Ea hg with ⟨h4, hg⟩ | ⟨h4, hg⟩
   ·refine Al ?_
    refine Ai fun hU => ?_
    exact ⟨true, hg, Ba [(0, 0)]⟩
   ·refine Al ?_
    obtain ⟨y_3, hy_3, hg⟩ := Ac hg
    refine E5 (Ih _ _ hy_3) ?_
    refine Al ?_
    rcases Ea hg with ⟨h6, hg⟩ | ⟨h6, hg⟩
    ·refine Al ?_
     refine Ai fun hU => ?_
     exact ⟨true, hg, Ba [(0, 0)]⟩
    ·refine Al ?_
     refine Ai fun hU => ?_
     exact ⟨decide (8 < (l.length : Int)), hg, Ba [(0, 0)]⟩
 ·rintro x27_1 hg
  replace hg : B5.j1 key id l x27_1 = some r := hg
  show Ci _ _ _ _ (mk _ _ _)
  unfold B5.j1 at hg
  refine C4 rfl hg (fun h9 hg => ?_) fun h9 hg => ?_
  ·refine Ah ?_
   refine Ad (Bo _ _ []) 1 9 Bg rfl rfl ?_
   refine Al ?_
   refine Ai fun hU => ?_
   refine Bj ?_
   obtain rfl := oi_ hg
   exact Bi [] ⟨rfl, rfl⟩
  ·refine Aq ?_
   repeat first | refine Cw ?_ | refine Cz ?_
   refine Ah ?_
   refine Bn 1 25 Bg ?_
   refine Al ?_
   refine Ai fun hU => ?_
   refine A4 ?_
   refine Ll (fun (x30_2 : Int) => mk [(1, .val (.int .i64 id)), (2, .sl 15 (Az Bc.enc l)), (3, .ptr 0 0), (28, .sl 15 (Az Bc.enc l)), (29, .val (.int .i64 (l.length : Int))), (30, .val (.int .i64 x30_2))] [(0, .box [.val (.int .i64 key.Alg), .val (.int .i64 key.Bits)] 28)] 1) hg (Ba [(0, 0)]) ?_
   rintro x30_2 m2 o2 hg hn2
   replace hg : B5.l2 key id l x30_2 = some o2 := hg
   show Ci _ _ _ _ (mk _ _ _)
   unfold B5.l2 at hg
   refine Bn 1 9 Bg ?_
   refine Al ?_
   refine Ai fun hU => ?_
   refine Ah ?_
   refine C4 rfl hg (fun h13 hg => ?_) fun h13 hg => ?_
   ·refine Aq ?_
    repeat first | refine Cw ?_ | refine Cz ?_
    refine Ah ?_
    refine A4 ?_
    refine Bn 9 41 hU ?_
    obtain ⟨e, he, hg⟩ := Ac hg
    refine Al ?_
    refine Ca rfl rfl (Cd gZ (Bd Bc.enc_len (Ao he) (o := 0) (m := 15) (cs := [.int .i64 e.Serial, .str e.Issuer, .str e.Subject, .int .i64 e.Key.Alg, .int .i64 e.Key.Bits, .int .i64 e.KeyId, .int .i64 e.Hash.Alg, .int .i64 e.Hash.Bits, .int .i64 e.From, .int .i64 e.To, .bool e.Authority, .int .i64 e.Path, .sl 1 (Az eS e.Names), .int .i64 e.Seal.Key, .int .i64 e.Seal.Sum]) rfl (by decide) rfl) (Ap Bc.enc_len (Ao he) (o := 0) (m := 15) (by decide) rfl)) rfl rfl ?_
    refine Al ?_
    refine Ai fun hU => ?_
    refine Bn 41 65 hU ?_
    refine Al ?_
    obtain ⟨y_4, hy_4, hg⟩ := Ac hg
    refine E5 (Pc _ _ hy_4) ?_
    refine Al ?_
    refine Ai fun hU => ?_
    refine C4 rfl hg (fun h16 hg => ?_) fun h16 hg => ?_
    ·refine Ah ?_
     refine Ad (Bo _ _ []) 65 73 hU rfl rfl ?_
     refine Al ?_
     refine Ai fun hU => ?_
     refine Bj ?_
     replace hg := C3 hg hn2
     obtain rfl := oi_ hg
     exact Bi [] ⟨rfl, rfl⟩
    ·refine Aq ?_
     repeat first | refine Cw ?_ | refine Cz ?_
     refine Ad (Bo _ _ []) 65 81 hU rfl rfl ?_
     refine Al ?_
     refine Ai fun hU => ?_
     obtain rfl := oi_ hg
     exact ⟨(W (x30_2 + 1), m2), Nat.lt_succ_self _, hn2, Ba [(0, 0)]⟩
   ·refine Cb ?_
    repeat first | refine Cw ?_ | refine Cz ?_
    replace hg := C3 hg hn2
    refine Ah ?_
    refine Bv (Bo _ _ []) (by kernel_rfl) [0, 1, 3, 7, 15, 31, 63, 127, 15, 511, 1023, 2047, 4095, 8191, 16383, 2047, 65535, 131071, 262143, 524287] 9 169 hU rfl rfl (by kernel_rfl) ?_
    refine Al ?_
    rcases Ea hg with ⟨h19, hg⟩ | ⟨h19, hg⟩
    ·refine Al ?_
     refine Ai fun hU => ?_
     refine Bj ?_
     obtain rfl := oi_ hg
     exact Bi [] ⟨rfl, rfl⟩
    ·refine Al ?_
     obtain ⟨e_2, he_2, hg⟩ := Ac hg
     refine Al ?_
     refine Ca (B7 rfl rfl h19) rfl (Mm Yq fE (by decide) (Q5 Bc.enc_len (Ao he_2) (o := 3) (by decide) rfl)) rfl rfl ?_
     refine Ca (B7 rfl rfl h19) rfl (Cd fE (Bd Bc.enc_len (Ao he_2) (o := 3) (m := 2) (cs := [.int .i64 e_2.Key.Alg, .int .i64 e_2.Key.Bits]) rfl (by decide) rfl) (Ap Bc.enc_len (Ao he_2) (o := 3) (m := 2) (by decide) rfl)) rfl rfl ?_
     refine Al ?_
     refine Ca (B7 rfl rfl h19) rfl (M6 e_2.Key key) rfl rfl ?_
     refine Al ?_
     rcases Ea hg with ⟨h21, hg⟩ | ⟨h21, hg⟩
     ·refine Al ?_
      refine Ca (B7 rfl rfl h21) rfl (Mm Yu T7 (by decide) (Q5 Bc.enc_len (Ao he_2) (o := 5) (by decide) rfl)) rfl rfl ?_
      refine Ca (B7 rfl rfl h21) rfl (Ch T7 (D6 Bc.enc_len (Ao he_2) (o := 5) (c := .int .i64 e_2.KeyId) rfl rfl)) rfl rfl ?_
      refine Al ?_
      refine Ai fun hU => ?_
      refine Bj ?_
      obtain rfl := oi_ hg
      exact Bi [] ⟨rfl, rfl⟩
     ·refine Al ?_
      refine Ai fun hU => ?_
      refine Bj ?_
      obtain rfl := oi_ hg
      exact Bi [] ⟨rfl, rfl⟩
theorem Q2 (l : (List Ce)) (r : Int) (hg : B0 l = some r) : Fn Try.prog 56 0 [.sl 6 (Az Ce.enc l)] [] (fun d' b' => d' = .val (.int .i64 r) /\ b' = []) := by
 unfold B0 at hg
 refine Fn.of Try.func56 rfl rfl rfl fun w0 I ρ0 => ?_
 show Ci _ ⟨w0, I, ρ0, 0, 0, 45⟩ _ _ _
 refine Bn 0 8 Bg ?_
 refine Al ?_
 refine Ai fun hU => ?_
 refine Ah ?_
 refine Bn 8 32 hU ?_
 refine Al ?_
 refine Ai fun hU => ?_
 refine A4 ?_
 refine Ll (fun (x7_1 : Int) => mk [(0, .sl 6 (Az Ce.enc l)), (5, .sl 6 (Az Ce.enc l)), (6, .val (.int .i64 (l.length : Int))), (7, .val (.int .i64 x7_1))] [] 0) hg (Ba []) ?_
 rintro x7_1 m1 o1 hg hn1
 replace hg : B0.l1 l x7_1 = some o1 := hg
 show Ci _ _ _ _ (mk _ _ _)
 unfold B0.l1 at hg
 refine Bn 0 8 Bg ?_
 refine Al ?_
 refine Ai fun hU => ?_
 refine Ah ?_
 refine C4 rfl hg (fun h4 hg => ?_) fun h4 hg => ?_
 ·refine Aq ?_
  repeat first | refine Cw ?_ | refine Cz ?_
  refine Ah ?_
  refine A4 ?_
  refine Bn 8 56 hU ?_
  refine Al ?_
  obtain ⟨e, he, hg⟩ := Ac hg
  refine Al ?_
  refine Ca rfl rfl (Cd lC (Bd Ce.enc_len (Ao he) (o := 0) (m := 6) (cs := [.str e.Alias, .int .i64 e.Key.Alg, .int .i64 e.Key.Bits, .int .i64 e.KeyId, .bool e.Secret, .sl 15 (Az Bc.enc e.Chain)]) rfl (by decide) rfl) (Ap Ce.enc_len (Ao he) (o := 0) (m := 6) (by decide) rfl)) rfl rfl ?_
  refine Al ?_
  refine Ai fun hU => ?_
  refine By (ι := Bool) (fun (x40_2 : Bool) => mk [(0, .sl 6 (Az Ce.enc l)), (5, .sl 6 (Az Ce.enc l)), (6, .val (.int .i64 (l.length : Int))), (7, .val (.int .i64 x7_1)), (40, .val (.bool x40_2))] [] 0) (fun (x40_2 : Bool) => B0.j2 x7_1 x40_2 = some o1) ?_ ?_
  ·refine Bv (Bo _ _ []) (by kernel_rfl) [0, 1, 3, 7, 15, 31, 63, 127, 255, 255, 767, 2047, 4095, 8191, 255, 16639, 65535, 131071, 262143, 524287, 1048575, 2097151, 1048575, 5242879, 1048575, 17825791, 67108863, 134217727, 268435455] 56 288 hU rfl rfl (by kernel_rfl) ?_
   refine Al ?_
   obtain ⟨y, hy, hg⟩ := Ac hg
   refine E5 (Fe _ _ hy) ?_
   refine Al ?_
   rcases Ea hg with ⟨h6, hg⟩ | ⟨h6, hg⟩
   ·refine Al ?_
    refine Ai fun hU => ?_
    exact ⟨true, hg, Ba []⟩
   ·refine Al ?_
    rcases Ea hg with ⟨h8, hg⟩ | ⟨h8, hg⟩
    ·refine Al ?_
     obtain ⟨e_2, he_2, hg⟩ := Ac hg
     refine Al ?_
     refine Ca (B7 rfl rfl h8) rfl (Mm bL mE (by decide) (Q5 Ce.enc_len (Ao he_2) (o := 0) (by decide) rfl)) rfl rfl ?_
     refine Ca (B7 rfl rfl h8) rfl (Ch mE (D6 Ce.enc_len (Ao he_2) (o := 0) (c := .str e_2.Alias) rfl rfl)) rfl rfl ?_
     refine Al ?_
     refine Ca (B7 rfl rfl h8) rfl bF rfl rfl ?_
     refine Al ?_
     rcases Ea hg with ⟨h9, hg⟩ | ⟨h9, hg⟩
     ·refine Al ?_
      refine Ai fun hU => ?_
      exact ⟨true, hg, Ba []⟩
     ·refine Al ?_
      obtain ⟨y_2, hy_2, hg⟩ := Ac hg
      refine E5 (Mu _ _ _ _ hy_2) ?_
      refine Al ?_
      refine Ai fun hU => ?_
      exact ⟨!y_2, hg, Ba []⟩
    ·refine Al ?_
     obtain ⟨y_3, hy_3, hg⟩ := Ac hg
     refine E5 (Mu _ _ _ _ hy_3) ?_
     refine Al ?_
     refine Ai fun hU => ?_
     exact ⟨!y_3, hg, Ba []⟩
  ·rintro x40_2 hg
   replace hg : B0.j2 x7_1 x40_2 = some o1 := hg
   show Ci _ _ _ _ (mk _ _ _)
   unfold B0.j2 at hg
   refine C4 rfl hg (fun h13 hg => ?_) fun h13 hg => ?_
   ·refine Ah ?_
    refine Ad (Bo _ _ []) 0 8 Bg rfl rfl ?_
    refine Al ?_
    refine Ai fun hU => ?_
    refine Bj ?_
    replace hg := C3 hg hn1
    obtain rfl := oi_ hg
    exact Bi [] ⟨rfl, rfl⟩
   ·refine Aq ?_
    repeat first | refine Cw ?_ | refine Cz ?_
    refine Ad (Bo _ _ []) 0 16 Bg rfl rfl ?_
    refine Al ?_
    refine Ai fun hU => ?_
    obtain rfl := oi_ hg
    exact ⟨(W (x7_1 + 1), m1), Nat.lt_succ_self _, hn1, Ba []⟩
 ·refine Cb ?_
  repeat first | refine Cw ?_ | refine Cz ?_
  replace hg := C3 hg hn1
  refine Ah ?_
  refine Bn 8 32 hU ?_
  refine Al ?_
  refine Ai fun hU => ?_
  refine C4 rfl hg (fun h17 hg => ?_) fun h17 hg => ?_
  ·refine Ah ?_
   refine Ad (Bo _ _ []) 32 40 hU rfl rfl ?_
   refine Al ?_
   refine Ai fun hU => ?_
   refine Bj ?_
   obtain rfl := oi_ hg
   exact Bi [] ⟨rfl, rfl⟩
  ·refine Aq ?_
   repeat first | refine Cw ?_ | refine Cz ?_
   refine Bn 32 40 hU ?_
   refine Al ?_
   refine Ai fun hU => ?_
   refine Bj ?_
   obtain rfl := oi_ hg
   exact Bi [] ⟨rfl, rfl⟩
theorem Pv (p : Dk) (kind : Int) (u : Bk) (number : Int) (r : Dk) (hg : H9 p kind u number = some r) : Fn Try.prog 57 1 [.ptr 0 0, .val (.int .i64 kind), .agg [.val (.int .i64 u.Alg), .val (.int .i64 u.Bits)], .val (.int .i64 number)] [.box [.val (.int .i64 p.at_.Source), .val (.string p.at_.Host), .val (.int .i64 p.at_.Machine), .val (.int .i64 p.at_.Day), .val (.int .i64 p.at_.Confidence), .val (.int .i64 p.at_.Kind), .val (.string p.at_.Subject), .val (.int .i64 p.at_.Use.Alg), .val (.int .i64 p.at_.Use.Bits), .val (.int .i64 p.at_.Number), .val (.string p.at_.Text), .row 1] 76, .row 30 11 (Az Aa.enc p.l)] (fun d' b' => d' = .tup [] /\ b' = [.box [.val (.int .i64 r.at_.Source), .val (.string r.at_.Host), .val (.int .i64 r.at_.Machine), .val (.int .i64 r.at_.Day), .val (.int .i64 r.at_.Confidence), .val (.int .i64 r.at_.Kind), .val (.string r.at_.Subject), .val (.int .i64 r.at_.Use.Alg), .val (.int .i64 r.at_.Use.Bits), .val (.int .i64 r.at_.Number), .val (.string r.at_.Text), .row 1] 76, .row 30 11 (Az Aa.enc r.l)]) := by
 unfold H9 at hg
 refine Fn.of Try.func57 rfl rfl rfl fun w0 I ρ0 => ?_
 show Ci _ ⟨w0, I, ρ0, 1, 2, 29⟩ _ _ _
 refine Bn 2 10 Bg ?_
 refine Al ?_
 refine Ai fun hU => ?_
 refine Bn 10 58 hU ?_
 refine Al ?_
 refine Ai fun hU => ?_
 refine Ah ?_
 refine Bv (Bo _ _ []) (by kernel_rfl) [0, 0, 0, 1, 9, 27, 59, 127, 255] 58 130 hU rfl rfl (by kernel_rfl) ?_
 refine Al ?_
 refine Ai fun hU => ?_
 refine Bv (Bo _ _ []) (by kernel_rfl) [0, 0, 2, 6, 14, 0, 32, 126, 255, 511, 1023] 130 218 hU rfl rfl (by kernel_rfl) ?_
 refine Al ?_
 refine Ca rfl rfl (Bb Ha Yy (by decide) rfl rfl rfl rfl G3 (cs := [.int .i64 p.at_.Source, .str p.at_.Host, .int .i64 p.at_.Machine, .int .i64 p.at_.Day, .int .i64 p.at_.Confidence, .int .i64 kind, .str p.at_.Subject, .int .i64 u.Alg, .int .i64 u.Bits, .int .i64 number, .str p.at_.Text]) (.cons .int (.cons .str (.cons .int (.cons .int (.cons .int (.cons .int (.cons .str (.cons .int (.cons .int (.cons .int (.cons .str .nil))))))))))) rfl (l := ([(Aa.mk p.at_.Source p.at_.Host p.at_.Machine p.at_.Day p.at_.Confidence kind p.at_.Subject u number p.at_.Text)] : List Aa)) (f := Aa.enc) rfl) rfl rfl ?_
 obtain ⟨l, hl, hg⟩ := Ac hg
 refine Cu (rd := [1, 178]) rfl rfl (Hm Ha Aa.enc_len .row rfl .row rfl hl rfl) rfl rfl ?_
 refine Al ?_
 refine Ai fun hU => ?_
 obtain rfl := oi_ hg
 exact Bi [(0, 0), (1, 186)] ⟨rfl, rfl⟩
theorem Jd (s : (List Aa)) (r : (List Aa)) (hg : Bz s = some r) : Fn Try.prog 43 0 [.sl 11 (Az Aa.enc s)] [] (fun d' b' => d' = .row 0 /\ b' = [.row 30 11 (Az Aa.enc r)]) := by
 unfold Bz at hg
 refine Fn.of Try.func43 rfl rfl rfl fun w0 I ρ0 => ?_
 show Ci _ ⟨w0, I, ρ0, 0, 0, 8⟩ _ _ _
 refine Bn 0 8 Bg ?_
 refine Al ?_
 refine Ai fun hU => ?_
 refine Ah ?_
 refine By (ι := Bool) (fun (x4_1 : Bool) => mk [(0, .sl 11 (Az Aa.enc s)), (4, .val (.bool x4_1))] [] 0) (fun (x4_1 : Bool) => Bz.j1 s x4_1 = some r) ?_ ?_
 ·refine Ad (Bo _ _ []) 8 24 hU rfl rfl ?_
  refine Al ?_
  refine dW rfl rfl ⟨_, oD⟩ rfl ?_
  intro bz hz2
  rcases bz with _ | _
  ·replace hg := lZ hg
   refine Ai fun hU => ?_
   exact ⟨false, hg, Ba []⟩
  ·replace hg := jG ((Xn Aa.enc_len (by decide) (hz2 rfl))) hg
   refine Ai fun hU => ?_
   exact ⟨true, hg, Ba []⟩
 ·rintro x4_1 hg
  replace hg : Bz.j1 s x4_1 = some r := hg
  show Ci _ _ _ _ (mk _ _ _)
  unfold Bz.j1 at hg
  refine C4 rfl hg (fun h5 hg => ?_) fun h5 hg => ?_
  ·refine Ah ?_
   refine Ad (Bo _ _ []) 0 8 Bg rfl rfl ?_
   refine Al ?_
   refine Ai fun hU => ?_
   refine Bj ?_
   obtain rfl := oi_ hg
   exact Bi [] ⟨rfl, rfl⟩
  ·refine Aq ?_
   repeat first | refine Cw ?_ | refine Cz ?_
   refine Bn 0 32 Bg ?_
   refine Ca rfl rfl (Bb Ha Yy (by decide) rfl rfl rfl rfl G3 (cs := []) .nil rfl (l := ([] : List Aa)) (f := Aa.enc) rfl) rfl rfl ?_
   refine Al ?_
   obtain ⟨l, hl, hg⟩ := Ac hg
   refine Cu (rd := [0]) rfl rfl (Hm Ha Aa.enc_len .row rfl .sl rfl hl rfl) rfl rfl ?_
   refine Al ?_
   refine Ai fun hU => ?_
   refine Bj ?_
   obtain rfl := oi_ hg
   exact Bi [(0, 16)] ⟨rfl, rfl⟩
theorem Qk (x' : Int) (r : Int) (hg : Bh x' = some r) : Fn Try.prog 79 0 [.val (.int .u64 x')] [] (fun d' b' => d' = .val (.int .i64 r) /\ b' = []) := by
 unfold Bh at hg
 refine Fn.of Try.func79 rfl rfl rfl fun w0 I ρ0 => ?_
 show Ci _ ⟨w0, I, ρ0, 0, 0, 25⟩ _ _ _
 refine Bn 0 8 Bg ?_
 refine Al ?_
 refine Ai fun hU => ?_
 refine By (ι := Int × Int) (fun ((x_1, n_1) : Int × Int) => mk [(0, .val (.int .u64 x_1)), (2, .val (.int .i64 n_1))] [] 0) (fun ((x_1, n_1) : Int × Int) => Bh.j1 x_1 n_1 = some r) ?_ ?_
 ·refine Ah ?_
  refine Ad (Bo _ _ []) 8 24 hU rfl rfl ?_
  refine Al ?_
  refine Ai fun hU => ?_
  refine C4 rfl hg (fun h3 hg => ?_) fun h3 hg => ?_
  ·refine Ah ?_
   refine Ad (Bo _ _ []) 24 48 hU rfl rfl ?_
   refine Al ?_
   obtain ⟨q, hq, hg⟩ := Ac hg
   refine Ca rfl rfl (Vl hq) rfl rfl ?_
   refine Al ?_
   refine Ai fun hU => ?_
   refine Ad (Bo _ _ []) 48 56 hU rfl rfl ?_
   refine Al ?_
   refine Ai fun hU => ?_
   exact ⟨(q, 32), hg, Ba []⟩
  ·refine Aq ?_
   repeat first | refine Cw ?_ | refine Cz ?_
   exact ⟨(x', 0), hg, Ba []⟩
 ·rintro ⟨x_1, n_1⟩ hg
  replace hg : Bh.j1 x_1 n_1 = some r := hg
  show Ci _ _ _ _ (mk _ _ _)
  unfold Bh.j1 at hg
  refine By (ι := Int × Int) (fun ((x_2, n_2) : Int × Int) => mk [(0, .val (.int .u64 x_2)), (2, .val (.int .i64 n_2))] [] 0) (fun ((x_2, n_2) : Int × Int) => Bh.j2 x_2 n_2 = some r) ?_ ?_
  ·refine Ah ?_
   refine Ad (Bo _ _ []) 0 16 Bg rfl rfl ?_
   refine Al ?_
   refine Ai fun hU => ?_
   refine C4 rfl hg (fun h7 hg => ?_) fun h7 hg => ?_
   ·refine Ah ?_
    refine Ad (Bo _ _ []) 16 40 hU rfl rfl ?_
    refine Al ?_
    obtain ⟨q_2, hq_2, hg⟩ := Ac hg
    refine Ca rfl rfl (Vl hq_2) rfl rfl ?_
    refine Al ?_
    refine Ai fun hU => ?_
    refine Ad (Bo _ _ []) 40 64 hU rfl rfl ?_
    refine Al ?_
    refine Ai fun hU => ?_
    exact ⟨(q_2, W (n_1 + 16)), hg, Ba []⟩
   ·refine Aq ?_
    repeat first | refine Cw ?_ | refine Cz ?_
    exact ⟨(x_1, n_1), hg, Ba []⟩
  ·rintro ⟨x_2, n_2⟩ hg
   replace hg : Bh.j2 x_2 n_2 = some r := hg
   show Ci _ _ _ _ (mk _ _ _)
   unfold Bh.j2 at hg
   refine By (ι := Int × Int) (fun ((x_3, n_3) : Int × Int) => mk [(0, .val (.int .u64 x_3)), (2, .val (.int .i64 n_3))] [] 0) (fun ((x_3, n_3) : Int × Int) => Bh.j3 x_3 n_3 = some r) ?_ ?_
   ·refine Ah ?_
    refine Ad (Bo _ _ []) 0 16 Bg rfl rfl ?_
    refine Al ?_
    refine Ai fun hU => ?_
    refine C4 rfl hg (fun h11 hg => ?_) fun h11 hg => ?_
    ·refine Ah ?_
     refine Ad (Bo _ _ []) 16 40 hU rfl rfl ?_
     refine Al ?_
     obtain ⟨q_3, hq_3, hg⟩ := Ac hg
     refine Ca rfl rfl (Vl hq_3) rfl rfl ?_
     refine Al ?_
     refine Ai fun hU => ?_
     refine Ad (Bo _ _ []) 40 64 hU rfl rfl ?_
     refine Al ?_
     refine Ai fun hU => ?_
     exact ⟨(q_3, W (n_2 + 8)), hg, Ba []⟩
    ·refine Aq ?_
     repeat first | refine Cw ?_ | refine Cz ?_
     exact ⟨(x_2, n_2), hg, Ba []⟩
   ·rintro ⟨x_3, n_3⟩ hg
    replace hg : Bh.j3 x_3 n_3 = some r := hg
    show Ci _ _ _ _ (mk _ _ _)
    unfold Bh.j3 at hg
    refine Bn 0 56 Bg ?_
    refine Al ?_
    refine Ca rfl rfl (Zd nJ iU) rfl rfl ?_
    obtain ⟨c, hc, hg⟩ := Ac hg
    refine Ca rfl rfl (Xs Vw hc) rfl rfl ?_
    refine Ca rfl rfl (Z6 (u := c) iU Zb) rfl rfl ?_
    refine Al ?_
    refine Ai fun hU => ?_
    refine Bj ?_
    obtain rfl := oi_ hg
    exact Bi [] ⟨rfl, rfl⟩
theorem Ns (x' : Int) (r : Int) (hg : Fb x' = some r) : Fn Try.prog 62 0 [.val (.int .u64 x')] [] (fun d' b' => d' = .val (.int .i64 r) /\ b' = []) := by
 unfold Fb at hg
 refine Fn.of Try.func62 rfl rfl rfl fun w0 I ρ0 => ?_
 show Ci _ ⟨w0, I, ρ0, 0, 0, 8⟩ _ _ _
 refine Bn 0 8 Bg ?_
 refine Al ?_
 refine Ai fun hU => ?_
 refine Ah ?_
 refine Z7 (fun h => ?_) (fun h => ?_)
 ·exact absurd h (by first | decide | exact fun h => nomatch (show false = true from h) | exact fun h => nomatch (show true = false from h))
 ·refine Aq ?_
  repeat first | refine Cw ?_ | refine Cz ?_
  refine Bn 8 32 hU ?_
  refine Al ?_
  obtain ⟨y, hy, hg⟩ := Ac hg
  refine E5 (Qk _ _ hy) ?_
  refine Al ?_
  refine Ai fun hU => ?_
  refine Bj ?_
  obtain rfl := oi_ hg
  exact Bi [] ⟨rfl, rfl⟩
theorem Nb (c0 : Aa) (c1 : Aa) (r : (Aa × Aa)) (hg : F2 c0 c1 = some r) : Fn Try.prog 29 0 [.val (.func (.func 32) #[] #[]), .elt (([.int .i64 c0.Source, .str c0.Host, .int .i64 c0.Machine, .int .i64 c0.Day, .int .i64 c0.Confidence, .int .i64 c0.Kind, .str c0.Subject, .int .i64 c0.Use.Alg, .int .i64 c0.Use.Bits, .int .i64 c0.Number, .str c0.Text] : List C).drop 0), .elt (([.int .i64 c1.Source, .str c1.Host, .int .i64 c1.Machine, .int .i64 c1.Day, .int .i64 c1.Confidence, .int .i64 c1.Kind, .str c1.Subject, .int .i64 c1.Use.Alg, .int .i64 c1.Use.Bits, .int .i64 c1.Number, .str c1.Text] : List C).drop 0)] [] (fun d' b' => d' = .clo 30 0 [.elt (([.raw (.func (.func 32) #[] #[])] : List C).drop 0), .elt (([.int .i64 r.1.Source, .str r.1.Host, .int .i64 r.1.Machine, .int .i64 r.1.Day, .int .i64 r.1.Confidence, .int .i64 r.1.Kind, .str r.1.Subject, .int .i64 r.1.Use.Alg, .int .i64 r.1.Use.Bits, .int .i64 r.1.Number, .str r.1.Text] : List C).drop 0), .elt (([.int .i64 r.2.Source, .str r.2.Host, .int .i64 r.2.Machine, .int .i64 r.2.Day, .int .i64 r.2.Confidence, .int .i64 r.2.Kind, .str r.2.Subject, .int .i64 r.2.Use.Alg, .int .i64 r.2.Use.Bits, .int .i64 r.2.Number, .str r.2.Text] : List C).drop 0)] /\ b' = []) := by
 unfold F2 at hg
 refine Fn.of Try.func29 rfl rfl rfl fun w0 I ρ0 => ?_
 show Ci _ ⟨w0, I, ρ0, 0, 0, 6⟩ _ _ _
 refine Bn 0 16 Bg ?_
 refine Al ?_
 refine Ai fun hU => ?_
 refine Ah ?_
 refine Em (σ' := mk [(1, .elt (([.int .i64 c0.Source, .str c0.Host, .int .i64 c0.Machine, .int .i64 c0.Day, .int .i64 c0.Confidence, .int .i64 c0.Kind, .str c0.Subject, .int .i64 c0.Use.Alg, .int .i64 c0.Use.Bits, .int .i64 c0.Number, .str c0.Text] : List C).drop 0)), (2, .elt (([.int .i64 c1.Source, .str c1.Host, .int .i64 c1.Machine, .int .i64 c1.Day, .int .i64 c1.Confidence, .int .i64 c1.Kind, .str c1.Subject, .int .i64 c1.Use.Alg, .int .i64 c1.Use.Bits, .int .i64 c1.Number, .str c1.Text] : List C).drop 0)), (3, .elt (([.raw (.func (.func 32) #[] #[])] : List C).drop 0))] [] 0) ((by exact Nl.lists [] rfl rfl ⟨⟨_, rfl, .elt _⟩, ⟨_, rfl, .elt _⟩, ⟨_, rfl, .frzb (ks := [none]) rfl (.cons .func .nil) (E6 rfl)⟩, trivial⟩ trivial)) ?_
 refine Ad (Bo _ _ []) 0 16 Bg rfl rfl ?_
 refine Al ?_
 refine Ai fun hU => ?_
 refine Bj ?_
 obtain rfl := oi_ hg
 exact Bi [] ⟨rfl, rfl⟩
theorem Mv (c0 : Aa) (c1 : Aa) (r : (Aa × Aa)) (hg : Fs c0 c1 = some r) : Fn Try.prog 26 0 [.val (.func (.func 33) #[] #[]), .elt (([.int .i64 c0.Source, .str c0.Host, .int .i64 c0.Machine, .int .i64 c0.Day, .int .i64 c0.Confidence, .int .i64 c0.Kind, .str c0.Subject, .int .i64 c0.Use.Alg, .int .i64 c0.Use.Bits, .int .i64 c0.Number, .str c0.Text] : List C).drop 0), .elt (([.int .i64 c1.Source, .str c1.Host, .int .i64 c1.Machine, .int .i64 c1.Day, .int .i64 c1.Confidence, .int .i64 c1.Kind, .str c1.Subject, .int .i64 c1.Use.Alg, .int .i64 c1.Use.Bits, .int .i64 c1.Number, .str c1.Text] : List C).drop 0)] [] (fun d' b' => d' = .clo 27 0 [.elt (([.raw (.func (.func 33) #[] #[])] : List C).drop 0), .elt (([.int .i64 r.1.Source, .str r.1.Host, .int .i64 r.1.Machine, .int .i64 r.1.Day, .int .i64 r.1.Confidence, .int .i64 r.1.Kind, .str r.1.Subject, .int .i64 r.1.Use.Alg, .int .i64 r.1.Use.Bits, .int .i64 r.1.Number, .str r.1.Text] : List C).drop 0), .elt (([.int .i64 r.2.Source, .str r.2.Host, .int .i64 r.2.Machine, .int .i64 r.2.Day, .int .i64 r.2.Confidence, .int .i64 r.2.Kind, .str r.2.Subject, .int .i64 r.2.Use.Alg, .int .i64 r.2.Use.Bits, .int .i64 r.2.Number, .str r.2.Text] : List C).drop 0)] /\ b' = []) := by
 unfold Fs at hg
 refine Fn.of Try.func26 rfl rfl rfl fun w0 I ρ0 => ?_
 show Ci _ ⟨w0, I, ρ0, 0, 0, 6⟩ _ _ _
 refine Bn 0 16 Bg ?_
 refine Al ?_
 refine Ai fun hU => ?_
 refine Ah ?_
 refine Em (σ' := mk [(1, .elt (([.int .i64 c0.Source, .str c0.Host, .int .i64 c0.Machine, .int .i64 c0.Day, .int .i64 c0.Confidence, .int .i64 c0.Kind, .str c0.Subject, .int .i64 c0.Use.Alg, .int .i64 c0.Use.Bits, .int .i64 c0.Number, .str c0.Text] : List C).drop 0)), (2, .elt (([.int .i64 c1.Source, .str c1.Host, .int .i64 c1.Machine, .int .i64 c1.Day, .int .i64 c1.Confidence, .int .i64 c1.Kind, .str c1.Subject, .int .i64 c1.Use.Alg, .int .i64 c1.Use.Bits, .int .i64 c1.Number, .str c1.Text] : List C).drop 0)), (3, .elt (([.raw (.func (.func 33) #[] #[])] : List C).drop 0))] [] 0) ((by exact Nl.lists [] rfl rfl ⟨⟨_, rfl, .elt _⟩, ⟨_, rfl, .elt _⟩, ⟨_, rfl, .frzb (ks := [none]) rfl (.cons .func .nil) (E6 rfl)⟩, trivial⟩ trivial)) ?_
 refine Ad (Bo _ _ []) 0 16 Bg rfl rfl ?_
 refine Al ?_
 refine Ai fun hU => ?_
 refine Bj ?_
 obtain rfl := oi_ hg
 exact Bi [] ⟨rfl, rfl⟩
theorem M7 (c0 : Aa) (c1 : Aa) (r : (Aa × Aa)) (hg : F1 c0 c1 = some r) : Fn Try.prog 26 0 [.val (.func (.func 34) #[] #[]), .elt (([.int .i64 c0.Source, .str c0.Host, .int .i64 c0.Machine, .int .i64 c0.Day, .int .i64 c0.Confidence, .int .i64 c0.Kind, .str c0.Subject, .int .i64 c0.Use.Alg, .int .i64 c0.Use.Bits, .int .i64 c0.Number, .str c0.Text] : List C).drop 0), .elt (([.int .i64 c1.Source, .str c1.Host, .int .i64 c1.Machine, .int .i64 c1.Day, .int .i64 c1.Confidence, .int .i64 c1.Kind, .str c1.Subject, .int .i64 c1.Use.Alg, .int .i64 c1.Use.Bits, .int .i64 c1.Number, .str c1.Text] : List C).drop 0)] [] (fun d' b' => d' = .clo 27 0 [.elt (([.raw (.func (.func 34) #[] #[])] : List C).drop 0), .elt (([.int .i64 r.1.Source, .str r.1.Host, .int .i64 r.1.Machine, .int .i64 r.1.Day, .int .i64 r.1.Confidence, .int .i64 r.1.Kind, .str r.1.Subject, .int .i64 r.1.Use.Alg, .int .i64 r.1.Use.Bits, .int .i64 r.1.Number, .str r.1.Text] : List C).drop 0), .elt (([.int .i64 r.2.Source, .str r.2.Host, .int .i64 r.2.Machine, .int .i64 r.2.Day, .int .i64 r.2.Confidence, .int .i64 r.2.Kind, .str r.2.Subject, .int .i64 r.2.Use.Alg, .int .i64 r.2.Use.Bits, .int .i64 r.2.Number, .str r.2.Text] : List C).drop 0)] /\ b' = []) := by
 unfold F1 at hg
 refine Fn.of Try.func26 rfl rfl rfl fun w0 I ρ0 => ?_
 show Ci _ ⟨w0, I, ρ0, 0, 0, 6⟩ _ _ _
 refine Bn 0 16 Bg ?_
 refine Al ?_
 refine Ai fun hU => ?_
 refine Ah ?_
 refine Em (σ' := mk [(1, .elt (([.int .i64 c0.Source, .str c0.Host, .int .i64 c0.Machine, .int .i64 c0.Day, .int .i64 c0.Confidence, .int .i64 c0.Kind, .str c0.Subject, .int .i64 c0.Use.Alg, .int .i64 c0.Use.Bits, .int .i64 c0.Number, .str c0.Text] : List C).drop 0)), (2, .elt (([.int .i64 c1.Source, .str c1.Host, .int .i64 c1.Machine, .int .i64 c1.Day, .int .i64 c1.Confidence, .int .i64 c1.Kind, .str c1.Subject, .int .i64 c1.Use.Alg, .int .i64 c1.Use.Bits, .int .i64 c1.Number, .str c1.Text] : List C).drop 0)), (3, .elt (([.raw (.func (.func 34) #[] #[])] : List C).drop 0))] [] 0) ((by exact Nl.lists [] rfl rfl ⟨⟨_, rfl, .elt _⟩, ⟨_, rfl, .elt _⟩, ⟨_, rfl, .frzb (ks := [none]) rfl (.cons .func .nil) (E6 rfl)⟩, trivial⟩ trivial)) ?_
 refine Ad (Bo _ _ []) 0 16 Bg rfl rfl ?_
 refine Al ?_
 refine Ai fun hU => ?_
 refine Bj ?_
 obtain rfl := oi_ hg
 exact Bi [] ⟨rfl, rfl⟩
theorem Mz (c0 : Aa) (c1 : Aa) (r : (Aa × Aa)) (hg : F0 c0 c1 = some r) : Fn Try.prog 29 0 [.val (.func (.func 35) #[] #[]), .elt (([.int .i64 c0.Source, .str c0.Host, .int .i64 c0.Machine, .int .i64 c0.Day, .int .i64 c0.Confidence, .int .i64 c0.Kind, .str c0.Subject, .int .i64 c0.Use.Alg, .int .i64 c0.Use.Bits, .int .i64 c0.Number, .str c0.Text] : List C).drop 0), .elt (([.int .i64 c1.Source, .str c1.Host, .int .i64 c1.Machine, .int .i64 c1.Day, .int .i64 c1.Confidence, .int .i64 c1.Kind, .str c1.Subject, .int .i64 c1.Use.Alg, .int .i64 c1.Use.Bits, .int .i64 c1.Number, .str c1.Text] : List C).drop 0)] [] (fun d' b' => d' = .clo 30 0 [.elt (([.raw (.func (.func 35) #[] #[])] : List C).drop 0), .elt (([.int .i64 r.1.Source, .str r.1.Host, .int .i64 r.1.Machine, .int .i64 r.1.Day, .int .i64 r.1.Confidence, .int .i64 r.1.Kind, .str r.1.Subject, .int .i64 r.1.Use.Alg, .int .i64 r.1.Use.Bits, .int .i64 r.1.Number, .str r.1.Text] : List C).drop 0), .elt (([.int .i64 r.2.Source, .str r.2.Host, .int .i64 r.2.Machine, .int .i64 r.2.Day, .int .i64 r.2.Confidence, .int .i64 r.2.Kind, .str r.2.Subject, .int .i64 r.2.Use.Alg, .int .i64 r.2.Use.Bits, .int .i64 r.2.Number, .str r.2.Text] : List C).drop 0)] /\ b' = []) := by
 unfold F0 at hg
 refine Fn.of Try.func29 rfl rfl rfl fun w0 I ρ0 => ?_
 show Ci _ ⟨w0, I, ρ0, 0, 0, 6⟩ _ _ _
 refine Bn 0 16 Bg ?_
 refine Al ?_
 refine Ai fun hU => ?_
 refine Ah ?_
 refine Em (σ' := mk [(1, .elt (([.int .i64 c0.Source, .str c0.Host, .int .i64 c0.Machine, .int .i64 c0.Day, .int .i64 c0.Confidence, .int .i64 c0.Kind, .str c0.Subject, .int .i64 c0.Use.Alg, .int .i64 c0.Use.Bits, .int .i64 c0.Number, .str c0.Text] : List C).drop 0)), (2, .elt (([.int .i64 c1.Source, .str c1.Host, .int .i64 c1.Machine, .int .i64 c1.Day, .int .i64 c1.Confidence, .int .i64 c1.Kind, .str c1.Subject, .int .i64 c1.Use.Alg, .int .i64 c1.Use.Bits, .int .i64 c1.Number, .str c1.Text] : List C).drop 0)), (3, .elt (([.raw (.func (.func 35) #[] #[])] : List C).drop 0))] [] 0) ((by exact Nl.lists [] rfl rfl ⟨⟨_, rfl, .elt _⟩, ⟨_, rfl, .elt _⟩, ⟨_, rfl, .frzb (ks := [none]) rfl (.cons .func .nil) (E6 rfl)⟩, trivial⟩ trivial)) ?_
 refine Ad (Bo _ _ []) 0 16 Bg rfl rfl ?_
 refine Al ?_
 refine Ai fun hU => ?_
 refine Bj ?_
 obtain rfl := oi_ hg
 exact Bi [] ⟨rfl, rfl⟩
theorem Nf (c0 : Aa) (c1 : Aa) (r : (Aa × Aa)) (hg : Fu c0 c1 = some r) : Fn Try.prog 26 0 [.val (.func (.func 36) #[] #[]), .elt (([.int .i64 c0.Source, .str c0.Host, .int .i64 c0.Machine, .int .i64 c0.Day, .int .i64 c0.Confidence, .int .i64 c0.Kind, .str c0.Subject, .int .i64 c0.Use.Alg, .int .i64 c0.Use.Bits, .int .i64 c0.Number, .str c0.Text] : List C).drop 0), .elt (([.int .i64 c1.Source, .str c1.Host, .int .i64 c1.Machine, .int .i64 c1.Day, .int .i64 c1.Confidence, .int .i64 c1.Kind, .str c1.Subject, .int .i64 c1.Use.Alg, .int .i64 c1.Use.Bits, .int .i64 c1.Number, .str c1.Text] : List C).drop 0)] [] (fun d' b' => d' = .clo 27 0 [.elt (([.raw (.func (.func 36) #[] #[])] : List C).drop 0), .elt (([.int .i64 r.1.Source, .str r.1.Host, .int .i64 r.1.Machine, .int .i64 r.1.Day, .int .i64 r.1.Confidence, .int .i64 r.1.Kind, .str r.1.Subject, .int .i64 r.1.Use.Alg, .int .i64 r.1.Use.Bits, .int .i64 r.1.Number, .str r.1.Text] : List C).drop 0), .elt (([.int .i64 r.2.Source, .str r.2.Host, .int .i64 r.2.Machine, .int .i64 r.2.Day, .int .i64 r.2.Confidence, .int .i64 r.2.Kind, .str r.2.Subject, .int .i64 r.2.Use.Alg, .int .i64 r.2.Use.Bits, .int .i64 r.2.Number, .str r.2.Text] : List C).drop 0)] /\ b' = []) := by
 unfold Fu at hg
 refine Fn.of Try.func26 rfl rfl rfl fun w0 I ρ0 => ?_
 show Ci _ ⟨w0, I, ρ0, 0, 0, 6⟩ _ _ _
 refine Bn 0 16 Bg ?_
 refine Al ?_
 refine Ai fun hU => ?_
 refine Ah ?_
 refine Em (σ' := mk [(1, .elt (([.int .i64 c0.Source, .str c0.Host, .int .i64 c0.Machine, .int .i64 c0.Day, .int .i64 c0.Confidence, .int .i64 c0.Kind, .str c0.Subject, .int .i64 c0.Use.Alg, .int .i64 c0.Use.Bits, .int .i64 c0.Number, .str c0.Text] : List C).drop 0)), (2, .elt (([.int .i64 c1.Source, .str c1.Host, .int .i64 c1.Machine, .int .i64 c1.Day, .int .i64 c1.Confidence, .int .i64 c1.Kind, .str c1.Subject, .int .i64 c1.Use.Alg, .int .i64 c1.Use.Bits, .int .i64 c1.Number, .str c1.Text] : List C).drop 0)), (3, .elt (([.raw (.func (.func 36) #[] #[])] : List C).drop 0))] [] 0) ((by exact Nl.lists [] rfl rfl ⟨⟨_, rfl, .elt _⟩, ⟨_, rfl, .elt _⟩, ⟨_, rfl, .frzb (ks := [none]) rfl (.cons .func .nil) (E6 rfl)⟩, trivial⟩ trivial)) ?_
 refine Ad (Bo _ _ []) 0 16 Bg rfl rfl ?_
 refine Al ?_
 refine Ai fun hU => ?_
 refine Bj ?_
 obtain rfl := oi_ hg
 exact Bi [] ⟨rfl, rfl⟩
theorem Ng (c0 : Aa) (c1 : Aa) (r : (Aa × Aa)) (hg : Fx c0 c1 = some r) : Fn Try.prog 26 0 [.val (.func (.func 37) #[] #[]), .elt (([.int .i64 c0.Source, .str c0.Host, .int .i64 c0.Machine, .int .i64 c0.Day, .int .i64 c0.Confidence, .int .i64 c0.Kind, .str c0.Subject, .int .i64 c0.Use.Alg, .int .i64 c0.Use.Bits, .int .i64 c0.Number, .str c0.Text] : List C).drop 0), .elt (([.int .i64 c1.Source, .str c1.Host, .int .i64 c1.Machine, .int .i64 c1.Day, .int .i64 c1.Confidence, .int .i64 c1.Kind, .str c1.Subject, .int .i64 c1.Use.Alg, .int .i64 c1.Use.Bits, .int .i64 c1.Number, .str c1.Text] : List C).drop 0)] [] (fun d' b' => d' = .clo 27 0 [.elt (([.raw (.func (.func 37) #[] #[])] : List C).drop 0), .elt (([.int .i64 r.1.Source, .str r.1.Host, .int .i64 r.1.Machine, .int .i64 r.1.Day, .int .i64 r.1.Confidence, .int .i64 r.1.Kind, .str r.1.Subject, .int .i64 r.1.Use.Alg, .int .i64 r.1.Use.Bits, .int .i64 r.1.Number, .str r.1.Text] : List C).drop 0), .elt (([.int .i64 r.2.Source, .str r.2.Host, .int .i64 r.2.Machine, .int .i64 r.2.Day, .int .i64 r.2.Confidence, .int .i64 r.2.Kind, .str r.2.Subject, .int .i64 r.2.Use.Alg, .int .i64 r.2.Use.Bits, .int .i64 r.2.Number, .str r.2.Text] : List C).drop 0)] /\ b' = []) := by
 unfold Fx at hg
 refine Fn.of Try.func26 rfl rfl rfl fun w0 I ρ0 => ?_
 show Ci _ ⟨w0, I, ρ0, 0, 0, 6⟩ _ _ _
 refine Bn 0 16 Bg ?_
 refine Al ?_
 refine Ai fun hU => ?_
 refine Ah ?_
 refine Em (σ' := mk [(1, .elt (([.int .i64 c0.Source, .str c0.Host, .int .i64 c0.Machine, .int .i64 c0.Day, .int .i64 c0.Confidence, .int .i64 c0.Kind, .str c0.Subject, .int .i64 c0.Use.Alg, .int .i64 c0.Use.Bits, .int .i64 c0.Number, .str c0.Text] : List C).drop 0)), (2, .elt (([.int .i64 c1.Source, .str c1.Host, .int .i64 c1.Machine, .int .i64 c1.Day, .int .i64 c1.Confidence, .int .i64 c1.Kind, .str c1.Subject, .int .i64 c1.Use.Alg, .int .i64 c1.Use.Bits, .int .i64 c1.Number, .str c1.Text] : List C).drop 0)), (3, .elt (([.raw (.func (.func 37) #[] #[])] : List C).drop 0))] [] 0) ((by exact Nl.lists [] rfl rfl ⟨⟨_, rfl, .elt _⟩, ⟨_, rfl, .elt _⟩, ⟨_, rfl, .frzb (ks := [none]) rfl (.cons .func .nil) (E6 rfl)⟩, trivial⟩ trivial)) ?_
 refine Ad (Bo _ _ []) 0 16 Bg rfl rfl ?_
 refine Al ?_
 refine Ai fun hU => ?_
 refine Bj ?_
 obtain rfl := oi_ hg
 exact Bi [] ⟨rfl, rfl⟩
theorem Nc (c0 : Aa) (c1 : Aa) (r : (Aa × Aa)) (hg : Fq c0 c1 = some r) : Fn Try.prog 26 0 [.val (.func (.func 38) #[] #[]), .elt (([.int .i64 c0.Source, .str c0.Host, .int .i64 c0.Machine, .int .i64 c0.Day, .int .i64 c0.Confidence, .int .i64 c0.Kind, .str c0.Subject, .int .i64 c0.Use.Alg, .int .i64 c0.Use.Bits, .int .i64 c0.Number, .str c0.Text] : List C).drop 0), .elt (([.int .i64 c1.Source, .str c1.Host, .int .i64 c1.Machine, .int .i64 c1.Day, .int .i64 c1.Confidence, .int .i64 c1.Kind, .str c1.Subject, .int .i64 c1.Use.Alg, .int .i64 c1.Use.Bits, .int .i64 c1.Number, .str c1.Text] : List C).drop 0)] [] (fun d' b' => d' = .clo 27 0 [.elt (([.raw (.func (.func 38) #[] #[])] : List C).drop 0), .elt (([.int .i64 r.1.Source, .str r.1.Host, .int .i64 r.1.Machine, .int .i64 r.1.Day, .int .i64 r.1.Confidence, .int .i64 r.1.Kind, .str r.1.Subject, .int .i64 r.1.Use.Alg, .int .i64 r.1.Use.Bits, .int .i64 r.1.Number, .str r.1.Text] : List C).drop 0), .elt (([.int .i64 r.2.Source, .str r.2.Host, .int .i64 r.2.Machine, .int .i64 r.2.Day, .int .i64 r.2.Confidence, .int .i64 r.2.Kind, .str r.2.Subject, .int .i64 r.2.Use.Alg, .int .i64 r.2.Use.Bits, .int .i64 r.2.Number, .str r.2.Text] : List C).drop 0)] /\ b' = []) := by
 unfold Fq at hg
 refine Fn.of Try.func26 rfl rfl rfl fun w0 I ρ0 => ?_
 show Ci _ ⟨w0, I, ρ0, 0, 0, 6⟩ _ _ _
 refine Bn 0 16 Bg ?_
 refine Al ?_
 refine Ai fun hU => ?_
 refine Ah ?_
 refine Em (σ' := mk [(1, .elt (([.int .i64 c0.Source, .str c0.Host, .int .i64 c0.Machine, .int .i64 c0.Day, .int .i64 c0.Confidence, .int .i64 c0.Kind, .str c0.Subject, .int .i64 c0.Use.Alg, .int .i64 c0.Use.Bits, .int .i64 c0.Number, .str c0.Text] : List C).drop 0)), (2, .elt (([.int .i64 c1.Source, .str c1.Host, .int .i64 c1.Machine, .int .i64 c1.Day, .int .i64 c1.Confidence, .int .i64 c1.Kind, .str c1.Subject, .int .i64 c1.Use.Alg, .int .i64 c1.Use.Bits, .int .i64 c1.Number, .str c1.Text] : List C).drop 0)), (3, .elt (([.raw (.func (.func 38) #[] #[])] : List C).drop 0))] [] 0) ((by exact Nl.lists [] rfl rfl ⟨⟨_, rfl, .elt _⟩, ⟨_, rfl, .elt _⟩, ⟨_, rfl, .frzb (ks := [none]) rfl (.cons .func .nil) (E6 rfl)⟩, trivial⟩ trivial)) ?_
 refine Ad (Bo _ _ []) 0 16 Bg rfl rfl ?_
 refine Al ?_
 refine Ai fun hU => ?_
 refine Bj ?_
 obtain rfl := oi_ hg
 exact Bi [] ⟨rfl, rfl⟩
theorem Nd (c0 : Aa) (c1 : Aa) (r : (Aa × Aa)) (hg : Fv c0 c1 = some r) : Fn Try.prog 26 0 [.val (.func (.func 39) #[] #[]), .elt (([.int .i64 c0.Source, .str c0.Host, .int .i64 c0.Machine, .int .i64 c0.Day, .int .i64 c0.Confidence, .int .i64 c0.Kind, .str c0.Subject, .int .i64 c0.Use.Alg, .int .i64 c0.Use.Bits, .int .i64 c0.Number, .str c0.Text] : List C).drop 0), .elt (([.int .i64 c1.Source, .str c1.Host, .int .i64 c1.Machine, .int .i64 c1.Day, .int .i64 c1.Confidence, .int .i64 c1.Kind, .str c1.Subject, .int .i64 c1.Use.Alg, .int .i64 c1.Use.Bits, .int .i64 c1.Number, .str c1.Text] : List C).drop 0)] [] (fun d' b' => d' = .clo 27 0 [.elt (([.raw (.func (.func 39) #[] #[])] : List C).drop 0), .elt (([.int .i64 r.1.Source, .str r.1.Host, .int .i64 r.1.Machine, .int .i64 r.1.Day, .int .i64 r.1.Confidence, .int .i64 r.1.Kind, .str r.1.Subject, .int .i64 r.1.Use.Alg, .int .i64 r.1.Use.Bits, .int .i64 r.1.Number, .str r.1.Text] : List C).drop 0), .elt (([.int .i64 r.2.Source, .str r.2.Host, .int .i64 r.2.Machine, .int .i64 r.2.Day, .int .i64 r.2.Confidence, .int .i64 r.2.Kind, .str r.2.Subject, .int .i64 r.2.Use.Alg, .int .i64 r.2.Use.Bits, .int .i64 r.2.Number, .str r.2.Text] : List C).drop 0)] /\ b' = []) := by
 unfold Fv at hg
 refine Fn.of Try.func26 rfl rfl rfl fun w0 I ρ0 => ?_
 show Ci _ ⟨w0, I, ρ0, 0, 0, 6⟩ _ _ _
 refine Bn 0 16 Bg ?_
 refine Al ?_
 refine Ai fun hU => ?_
 refine Ah ?_
 refine Em (σ' := mk [(1, .elt (([.int .i64 c0.Source, .str c0.Host, .int .i64 c0.Machine, .int .i64 c0.Day, .int .i64 c0.Confidence, .int .i64 c0.Kind, .str c0.Subject, .int .i64 c0.Use.Alg, .int .i64 c0.Use.Bits, .int .i64 c0.Number, .str c0.Text] : List C).drop 0)), (2, .elt (([.int .i64 c1.Source, .str c1.Host, .int .i64 c1.Machine, .int .i64 c1.Day, .int .i64 c1.Confidence, .int .i64 c1.Kind, .str c1.Subject, .int .i64 c1.Use.Alg, .int .i64 c1.Use.Bits, .int .i64 c1.Number, .str c1.Text] : List C).drop 0)), (3, .elt (([.raw (.func (.func 39) #[] #[])] : List C).drop 0))] [] 0) ((by exact Nl.lists [] rfl rfl ⟨⟨_, rfl, .elt _⟩, ⟨_, rfl, .elt _⟩, ⟨_, rfl, .frzb (ks := [none]) rfl (.cons .func .nil) (E6 rfl)⟩, trivial⟩ trivial)) ?_
 refine Ad (Bo _ _ []) 0 16 Bg rfl rfl ?_
 refine Al ?_
 refine Ai fun hU => ?_
 refine Bj ?_
 obtain rfl := oi_ hg
 exact Bi [] ⟨rfl, rfl⟩
theorem Mx (c0 : Aa) (c1 : Aa) (r : (Aa × Aa)) (hg : Ft c0 c1 = some r) : Fn Try.prog 29 0 [.val (.func (.func 40) #[] #[]), .elt (([.int .i64 c0.Source, .str c0.Host, .int .i64 c0.Machine, .int .i64 c0.Day, .int .i64 c0.Confidence, .int .i64 c0.Kind, .str c0.Subject, .int .i64 c0.Use.Alg, .int .i64 c0.Use.Bits, .int .i64 c0.Number, .str c0.Text] : List C).drop 0), .elt (([.int .i64 c1.Source, .str c1.Host, .int .i64 c1.Machine, .int .i64 c1.Day, .int .i64 c1.Confidence, .int .i64 c1.Kind, .str c1.Subject, .int .i64 c1.Use.Alg, .int .i64 c1.Use.Bits, .int .i64 c1.Number, .str c1.Text] : List C).drop 0)] [] (fun d' b' => d' = .clo 30 0 [.elt (([.raw (.func (.func 40) #[] #[])] : List C).drop 0), .elt (([.int .i64 r.1.Source, .str r.1.Host, .int .i64 r.1.Machine, .int .i64 r.1.Day, .int .i64 r.1.Confidence, .int .i64 r.1.Kind, .str r.1.Subject, .int .i64 r.1.Use.Alg, .int .i64 r.1.Use.Bits, .int .i64 r.1.Number, .str r.1.Text] : List C).drop 0), .elt (([.int .i64 r.2.Source, .str r.2.Host, .int .i64 r.2.Machine, .int .i64 r.2.Day, .int .i64 r.2.Confidence, .int .i64 r.2.Kind, .str r.2.Subject, .int .i64 r.2.Use.Alg, .int .i64 r.2.Use.Bits, .int .i64 r.2.Number, .str r.2.Text] : List C).drop 0)] /\ b' = []) := by
 unfold Ft at hg
 refine Fn.of Try.func29 rfl rfl rfl fun w0 I ρ0 => ?_
 show Ci _ ⟨w0, I, ρ0, 0, 0, 6⟩ _ _ _
 refine Bn 0 16 Bg ?_
 refine Al ?_
 refine Ai fun hU => ?_
 refine Ah ?_
 refine Em (σ' := mk [(1, .elt (([.int .i64 c0.Source, .str c0.Host, .int .i64 c0.Machine, .int .i64 c0.Day, .int .i64 c0.Confidence, .int .i64 c0.Kind, .str c0.Subject, .int .i64 c0.Use.Alg, .int .i64 c0.Use.Bits, .int .i64 c0.Number, .str c0.Text] : List C).drop 0)), (2, .elt (([.int .i64 c1.Source, .str c1.Host, .int .i64 c1.Machine, .int .i64 c1.Day, .int .i64 c1.Confidence, .int .i64 c1.Kind, .str c1.Subject, .int .i64 c1.Use.Alg, .int .i64 c1.Use.Bits, .int .i64 c1.Number, .str c1.Text] : List C).drop 0)), (3, .elt (([.raw (.func (.func 40) #[] #[])] : List C).drop 0))] [] 0) ((by exact Nl.lists [] rfl rfl ⟨⟨_, rfl, .elt _⟩, ⟨_, rfl, .elt _⟩, ⟨_, rfl, .frzb (ks := [none]) rfl (.cons .func .nil) (E6 rfl)⟩, trivial⟩ trivial)) ?_
 refine Ad (Bo _ _ []) 0 16 Bg rfl rfl ?_
 refine Al ?_
 refine Ai fun hU => ?_
 refine Bj ?_
 obtain rfl := oi_ hg
 exact Bi [] ⟨rfl, rfl⟩
theorem M8 (c0 : Aa) (c1 : Aa) (r : (Aa × Aa)) (hg : Fw c0 c1 = some r) : Fn Try.prog 26 0 [.val (.func (.func 41) #[] #[]), .elt (([.int .i64 c0.Source, .str c0.Host, .int .i64 c0.Machine, .int .i64 c0.Day, .int .i64 c0.Confidence, .int .i64 c0.Kind, .str c0.Subject, .int .i64 c0.Use.Alg, .int .i64 c0.Use.Bits, .int .i64 c0.Number, .str c0.Text] : List C).drop 0), .elt (([.int .i64 c1.Source, .str c1.Host, .int .i64 c1.Machine, .int .i64 c1.Day, .int .i64 c1.Confidence, .int .i64 c1.Kind, .str c1.Subject, .int .i64 c1.Use.Alg, .int .i64 c1.Use.Bits, .int .i64 c1.Number, .str c1.Text] : List C).drop 0)] [] (fun d' b' => d' = .clo 27 0 [.elt (([.raw (.func (.func 41) #[] #[])] : List C).drop 0), .elt (([.int .i64 r.1.Source, .str r.1.Host, .int .i64 r.1.Machine, .int .i64 r.1.Day, .int .i64 r.1.Confidence, .int .i64 r.1.Kind, .str r.1.Subject, .int .i64 r.1.Use.Alg, .int .i64 r.1.Use.Bits, .int .i64 r.1.Number, .str r.1.Text] : List C).drop 0), .elt (([.int .i64 r.2.Source, .str r.2.Host, .int .i64 r.2.Machine, .int .i64 r.2.Day, .int .i64 r.2.Confidence, .int .i64 r.2.Kind, .str r.2.Subject, .int .i64 r.2.Use.Alg, .int .i64 r.2.Use.Bits, .int .i64 r.2.Number, .str r.2.Text] : List C).drop 0)] /\ b' = []) := by
 unfold Fw at hg
 refine Fn.of Try.func26 rfl rfl rfl fun w0 I ρ0 => ?_
 show Ci _ ⟨w0, I, ρ0, 0, 0, 6⟩ _ _ _
 refine Bn 0 16 Bg ?_
 refine Al ?_
 refine Ai fun hU => ?_
 refine Ah ?_
 refine Em (σ' := mk [(1, .elt (([.int .i64 c0.Source, .str c0.Host, .int .i64 c0.Machine, .int .i64 c0.Day, .int .i64 c0.Confidence, .int .i64 c0.Kind, .str c0.Subject, .int .i64 c0.Use.Alg, .int .i64 c0.Use.Bits, .int .i64 c0.Number, .str c0.Text] : List C).drop 0)), (2, .elt (([.int .i64 c1.Source, .str c1.Host, .int .i64 c1.Machine, .int .i64 c1.Day, .int .i64 c1.Confidence, .int .i64 c1.Kind, .str c1.Subject, .int .i64 c1.Use.Alg, .int .i64 c1.Use.Bits, .int .i64 c1.Number, .str c1.Text] : List C).drop 0)), (3, .elt (([.raw (.func (.func 41) #[] #[])] : List C).drop 0))] [] 0) ((by exact Nl.lists [] rfl rfl ⟨⟨_, rfl, .elt _⟩, ⟨_, rfl, .elt _⟩, ⟨_, rfl, .frzb (ks := [none]) rfl (.cons .func .nil) (E6 rfl)⟩, trivial⟩ trivial)) ?_
 refine Ad (Bo _ _ []) 0 16 Bg rfl rfl ?_
 refine Al ?_
 refine Ai fun hU => ?_
 refine Bj ?_
 obtain rfl := oi_ hg
 exact Bi [] ⟨rfl, rfl⟩
end Go.Proofs.Ytjomajedgbcngaa
