import Derived.Test.YtjomajedgbcngaaT1
import Derived.Test.YtjomajedgbcngaaA6
set_option linter.unusedVariables false
set_option linter.unusedSimpArgs false
set_option maxRecDepth 100000
set_option maxHeartbeats 1600000
namespace Go.Proofs.Ytjomajedgbcngaa
open Go.RowKit
theorem Q1 (u : Bk) (r : Int) (hg : Au u = some r) : Fn Try.prog 66 0 [.agg [.val (.int .i64 u.Alg), .val (.int .i64 u.Bits)]] [] (fun d' b' => d' = .val (.int .i64 r) /\ b' = []) := by
 unfold Au at hg
 refine Fn.of Try.func66 rfl rfl rfl fun w0 I ρ0 => ?_
 show Ci _ ⟨w0, I, ρ0, 0, 0, 76⟩ _ _ _
 refine Bn 0 16 Bg ?_
 refine Al ?_
 refine Ai fun hU => ?_
 refine Bn 16 40 hU ?_
 refine Al ?_
 refine Ai fun hU => ?_
 refine Ah ?_
 refine Bn 40 56 hU ?_
 refine Al ?_
 refine Ai fun hU => ?_
 refine A4 ?_
 refine By (ι := Bool) (fun (x8_1 : Bool) => mk [(1, .ptr 0 0), (3, .val (.int .i64 u.Bits)), (7, .val (.int .i64 u.Alg)), (8, .val (.bool x8_1))] [(0, .box [.val (.int .i64 u.Alg), .val (.int .i64 u.Bits)] 28)] 1) (fun (x8_1 : Bool) => Au.j1 u x8_1 = some r) ?_ ?_
 ·refine Ah ?_
  refine Ad (Bo _ _ []) 56 72 hU rfl rfl ?_
  refine Al ?_
  refine Ai fun hU => ?_
  refine C4 rfl hg (fun h5 hg => ?_) fun h5 hg => ?_
  ·refine Aq ?_
   repeat first | refine Cw ?_ | refine Cz ?_
   exact ⟨decide (u.Alg = 5), hg, Ba [(0, 0)]⟩
  ·refine Ah ?_
   refine Ad (Bo _ _ []) 72 88 hU rfl rfl ?_
   refine Al ?_
   refine Ai fun hU => ?_
   refine C4 rfl hg (fun h7 hg => ?_) fun h7 hg => ?_
   ·refine Aq ?_
    repeat first | refine Cw ?_ | refine Cz ?_
    exact ⟨decide (u.Alg = 6), hg, Ba [(0, 0)]⟩
   ·refine Ah ?_
    refine Ad (Bo _ _ []) 88 104 hU rfl rfl ?_
    refine Al ?_
    refine Ai fun hU => ?_
    refine C4 rfl hg (fun h9 hg => ?_) fun h9 hg => ?_
    ·refine Aq ?_
     repeat first | refine Cw ?_ | refine Cz ?_
     exact ⟨decide (u.Alg = 10), hg, Ba [(0, 0)]⟩
    ·refine Ad (Bo _ _ []) 104 120 hU rfl rfl ?_
     refine Al ?_
     refine Ai fun hU => ?_
     exact ⟨decide (u.Alg = 11), hg, Ba [(0, 0)]⟩
 ·rintro x8_1 hg
  replace hg : Au.j1 u x8_1 = some r := hg
  show Ci _ _ _ _ (mk _ _ _)
  unfold Au.j1 at hg
  refine C4 rfl hg (fun h11 hg => ?_) fun h11 hg => ?_
  ·refine Ah ?_
   refine Ad (Bo _ _ []) 1 25 Bg rfl rfl ?_
   refine Al ?_
   obtain ⟨y, hy, hg⟩ := Ac hg
   refine E5 (R7 _ _ hy) ?_
   refine Al ?_
   refine Ai fun hU => ?_
   refine Bj ?_
   obtain rfl := oi_ hg
   exact Bi [] ⟨rfl, rfl⟩
  ·refine By (ι := Bool) (fun (x15_2 : Bool) => mk [(1, .ptr 0 0), (3, .val (.int .i64 u.Bits)), (7, .val (.int .i64 u.Alg)), (15, .val (.bool x15_2))] [(0, .box [.val (.int .i64 u.Alg), .val (.int .i64 u.Bits)] 28)] 1) (fun (x15_2 : Bool) => Au.j2 u x15_2 = some r) ?_ ?_
   ·refine Ah ?_
    refine Ad (Bo _ _ []) 1 17 Bg rfl rfl ?_
    refine Al ?_
    refine Ai fun hU => ?_
    refine C4 rfl hg (fun h14 hg => ?_) fun h14 hg => ?_
    ·refine Aq ?_
     repeat first | refine Cw ?_ | refine Cz ?_
     exact ⟨decide (u.Alg = 7), hg, Ba [(0, 0)]⟩
    ·refine Ad (Bo _ _ []) 17 33 hU rfl rfl ?_
     refine Al ?_
     refine Ai fun hU => ?_
     exact ⟨decide (u.Alg = 12), hg, Ba [(0, 0)]⟩
   ·rintro x15_2 hg
    replace hg : Au.j2 u x15_2 = some r := hg
    show Ci _ _ _ _ (mk _ _ _)
    unfold Au.j2 at hg
    refine C4 rfl hg (fun h16 hg => ?_) fun h16 hg => ?_
    ·refine Ah ?_
     refine By (ι := Bool) (fun (x35_3 : Bool) => mk [(3, .val (.int .i64 u.Bits)), (35, .val (.bool x35_3))] [] 0) (fun (x35_3 : Bool) => Au.j3 u x35_3 = some r) ?_ ?_
     ·refine Ad (Bo _ _ []) 1 145 Bg rfl rfl ?_
      refine Al ?_
      rcases Ea hg with ⟨h17, hg⟩ | ⟨h17, hg⟩
      ·refine Al ?_
       refine Ai fun hU => ?_
       exact ⟨true, hg, Ba []⟩
      ·refine Al ?_
       rcases Ea hg with ⟨h19, hg⟩ | ⟨h19, hg⟩
       ·refine Al ?_
        refine Ai fun hU => ?_
        exact ⟨true, hg, Ba []⟩
       ·refine Al ?_
        rcases Ea hg with ⟨h21, hg⟩ | ⟨h21, hg⟩
        ·refine Al ?_
         refine Ai fun hU => ?_
         exact ⟨true, hg, Ba []⟩
        ·refine Al ?_
         rcases Ea hg with ⟨h23, hg⟩ | ⟨h23, hg⟩
         ·refine Al ?_
          refine Ai fun hU => ?_
          exact ⟨true, hg, Ba []⟩
         ·refine Al ?_
          refine Ai fun hU => ?_
          exact ⟨decide (u.Bits = 521), hg, Ba []⟩
     ·rintro x35_3 hg
      replace hg : Au.j3 u x35_3 = some r := hg
      show Ci _ _ _ _ (mk _ _ _)
      unfold Au.j3 at hg
      refine C4 rfl hg (fun h26 hg => ?_) fun h26 hg => ?_
      ·refine Ah ?_
       refine Ad (Bo _ _ []) 0 24 Bg rfl rfl ?_
       refine Al ?_
       obtain ⟨q, hq, hg⟩ := Ac hg
       refine Ca rfl rfl (Qq hq) rfl rfl ?_
       refine Al ?_
       refine Ai fun hU => ?_
       refine Bj ?_
       obtain rfl := oi_ hg
       exact Bi [] ⟨rfl, rfl⟩
      ·refine Aq ?_
       repeat first | refine Cw ?_ | refine Cz ?_
       refine Bn 0 8 Bg ?_
       refine Al ?_
       refine Ai fun hU => ?_
       refine Bj ?_
       obtain rfl := oi_ hg
       exact Bi [] ⟨rfl, rfl⟩
    ·refine Ah ?_
     refine Ad (Bo _ _ []) 1 17 Bg rfl rfl ?_
     refine Al ?_
     refine Ai fun hU => ?_
     refine C4 rfl hg (fun h30 hg => ?_) fun h30 hg => ?_
     ·refine Ah ?_
      refine Ad (Bo _ _ []) 17 57 hU rfl rfl ?_
      refine Al ?_
      refine Ca rfl rfl (Bb E7 z3 (by decide) rfl rfl rfl rfl Ju (cs := [.int .i64 44, .int .i64 65, .int .i64 87]) (.cons .int (.cons .int (.cons .int .nil))) rfl (l := ([44, 65, 87] : List Int)) (f := eI) rfl) rfl rfl ?_
      refine Ca rfl rfl (Bb E7 z3 (by decide) rfl rfl rfl rfl Ju (cs := [.int .i64 128, .int .i64 192, .int .i64 256]) (.cons .int (.cons .int (.cons .int .nil))) rfl (l := ([128, 192, 256] : List Int)) (f := eI) rfl) rfl rfl ?_
      obtain ⟨y_2, hy_2, hg⟩ := Ac hg
      refine Hr [25, 33] [] [] true (Hf _ _ _ _ hy_2) ?_
      refine Al ?_
      refine Ai fun hU => ?_
      refine Bj ?_
      obtain rfl := oi_ hg
      exact Bi [] ⟨rfl, rfl⟩
     ·refine Ah ?_
      refine Ad (Bo _ _ []) 17 33 hU rfl rfl ?_
      refine Al ?_
      refine Ai fun hU => ?_
      refine C4 rfl hg (fun h33 hg => ?_) fun h33 hg => ?_
      ·refine Ah ?_
       refine Ad (Bo _ _ []) 33 73 hU rfl rfl ?_
       refine Al ?_
       refine Ca rfl rfl (Bb E7 z3 (by decide) rfl rfl rfl rfl Ju (cs := [.int .i64 512, .int .i64 768, .int .i64 1024]) (.cons .int (.cons .int (.cons .int .nil))) rfl (l := ([512, 768, 1024] : List Int)) (f := eI) rfl) rfl rfl ?_
       refine Ca rfl rfl (Bb E7 z3 (by decide) rfl rfl rfl rfl Ju (cs := [.int .i64 128, .int .i64 192, .int .i64 256]) (.cons .int (.cons .int (.cons .int .nil))) rfl (l := ([128, 192, 256] : List Int)) (f := eI) rfl) rfl rfl ?_
       obtain ⟨y_3, hy_3, hg⟩ := Ac hg
       refine Hr [41, 49] [] [] true (Hf _ _ _ _ hy_3) ?_
       refine Al ?_
       refine Ai fun hU => ?_
       refine Bj ?_
       obtain rfl := oi_ hg
       exact Bi [] ⟨rfl, rfl⟩
      ·refine Ah ?_
       refine Ad (Bo _ _ []) 33 49 hU rfl rfl ?_
       refine Al ?_
       refine Ai fun hU => ?_
       refine C4 rfl hg (fun h36 hg => ?_) fun h36 hg => ?_
       ·refine Ah ?_
        refine Ad (Bo _ _ []) 49 89 hU rfl rfl ?_
        refine Al ?_
        refine Ca rfl rfl (Bb E7 z3 (by decide) rfl rfl rfl rfl Ju (cs := [.int .i64 40, .int .i64 128]) (.cons .int (.cons .int .nil)) rfl (l := ([40, 128] : List Int)) (f := eI) rfl) rfl rfl ?_
        refine Ca rfl rfl (Bb E7 z3 (by decide) rfl rfl rfl rfl Ju (cs := [.int .i64 40, .int .i64 60]) (.cons .int (.cons .int .nil)) rfl (l := ([40, 60] : List Int)) (f := eI) rfl) rfl rfl ?_
        obtain ⟨y_4, hy_4, hg⟩ := Ac hg
        refine Hr [57, 65] [] [] true (Hf _ _ _ _ hy_4) ?_
        refine Al ?_
        refine Ai fun hU => ?_
        refine Bj ?_
        obtain rfl := oi_ hg
        exact Bi [] ⟨rfl, rfl⟩
       ·refine Ah ?_
        refine Ad (Bo _ _ []) 49 65 hU rfl rfl ?_
        refine Al ?_
        refine Ai fun hU => ?_
        refine C4 rfl hg (fun h39 hg => ?_) fun h39 hg => ?_
        ·refine Ah ?_
         refine Ad (Bo _ _ []) 65 105 hU rfl rfl ?_
         refine Al ?_
         refine Ca rfl rfl (Bb E7 z3 (by decide) rfl rfl rfl rfl Ju (cs := [.int .i64 112, .int .i64 168]) (.cons .int (.cons .int .nil)) rfl (l := ([112, 168] : List Int)) (f := eI) rfl) rfl rfl ?_
         refine Ca rfl rfl (Bb E7 z3 (by decide) rfl rfl rfl rfl Ju (cs := [.int .i64 80, .int .i64 112]) (.cons .int (.cons .int .nil)) rfl (l := ([80, 112] : List Int)) (f := eI) rfl) rfl rfl ?_
         obtain ⟨y_5, hy_5, hg⟩ := Ac hg
         refine Hr [73, 81] [] [] true (Hf _ _ _ _ hy_5) ?_
         refine Al ?_
         refine Ai fun hU => ?_
         refine Bj ?_
         obtain rfl := oi_ hg
         exact Bi [] ⟨rfl, rfl⟩
        ·refine By (ι := Bool) (fun (x62_4 : Bool) => mk [(1, .ptr 0 0), (3, .val (.int .i64 u.Bits)), (62, .val (.bool x62_4))] [(0, .box [.val (.int .i64 u.Alg), .val (.int .i64 u.Bits)] 28)] 1) (fun (x62_4 : Bool) => Au.j4 u x62_4 = some r) ?_ ?_
         ·refine Ah ?_
          refine Ad (Bo _ _ []) 65 81 hU rfl rfl ?_
          refine Al ?_
          refine Ai fun hU => ?_
          refine C4 rfl hg (fun h42 hg => ?_) fun h42 hg => ?_
          ·refine Aq ?_
           repeat first | refine Cw ?_ | refine Cz ?_
           exact ⟨decide (u.Alg = 16), hg, Ba [(0, 0)]⟩
          ·refine Ad (Bo _ _ []) 81 97 hU rfl rfl ?_
           refine Al ?_
           refine Ai fun hU => ?_
           exact ⟨decide (u.Alg = 17), hg, Ba [(0, 0)]⟩
         ·rintro x62_4 hg
          replace hg : Au.j4 u x62_4 = some r := hg
          show Ci _ _ _ _ (mk _ _ _)
          unfold Au.j4 at hg
          refine C4 rfl hg (fun h44 hg => ?_) fun h44 hg => ?_
          ·refine Ah ?_
           refine Ad (Bo _ _ []) 1 41 Bg rfl rfl ?_
           refine Al ?_
           refine Ca rfl rfl (Bb E7 z3 (by decide) rfl rfl rfl rfl Ju (cs := [.int .i64 128, .int .i64 256]) (.cons .int (.cons .int .nil)) rfl (l := ([128, 256] : List Int)) (f := eI) rfl) rfl rfl ?_
           refine Ca rfl rfl (Bb E7 z3 (by decide) rfl rfl rfl rfl Ju (cs := [.int .i64 128, .int .i64 256]) (.cons .int (.cons .int .nil)) rfl (l := ([128, 256] : List Int)) (f := eI) rfl) rfl rfl ?_
           obtain ⟨y_6, hy_6, hg⟩ := Ac hg
           refine Hr [9, 17] [] [] true (Hf _ _ _ _ hy_6) ?_
           refine Al ?_
           refine Ai fun hU => ?_
           refine Bj ?_
           obtain rfl := oi_ hg
           exact Bi [] ⟨rfl, rfl⟩
          ·refine Aq ?_
           repeat first | refine Cw ?_ | refine Cz ?_
           refine Bn 1 65 Bg ?_
           refine Al ?_
           refine Ca rfl rfl (Bb E7 z3 (by decide) rfl rfl rfl rfl Ju (cs := [.int .i64 0]) (.cons .int .nil) rfl (l := ([0] : List Int)) (f := eI) rfl) rfl rfl ?_
           refine Al ?_
           obtain ⟨y_7, hy_7, hg⟩ := Ac hg
           refine E5 (Tq _ _ hy_7) ?_
           refine Ca rfl rfl (Bb E7 z3 (by decide) rfl rfl rfl rfl Ju (cs := [.int .i64 y_7]) (.cons .int .nil) rfl (l := ([y_7] : List Int)) (f := eI) rfl) rfl rfl ?_
           obtain ⟨y_8, hy_8, hg⟩ := Ac hg
           refine Hr [9, 41] [] [] true (Hf _ _ _ _ hy_8) ?_
           refine Al ?_
           refine Ai fun hU => ?_
           refine Bj ?_
           obtain rfl := oi_ hg
           exact Bi [] ⟨rfl, rfl⟩
theorem Pq (u : Bk) (r : Bool) (hg : Hd u = some r) : Fn Try.prog 51 0 [.agg [.val (.int .i64 u.Alg), .val (.int .i64 u.Bits)]] [] (fun d' b' => d' = .val (.bool r) /\ b' = []) := by
 unfold Hd at hg
 refine Fn.of Try.func51 rfl rfl rfl fun w0 I ρ0 => ?_
 show Ci _ ⟨w0, I, ρ0, 0, 0, 6⟩ _ _ _
 refine Bn 0 16 Bg ?_
 refine Al ?_
 refine Ai fun hU => ?_
 refine Bn 16 48 hU ?_
 refine Al ?_
 obtain ⟨y, hy, hg⟩ := Ac hg
 refine E5 (Q1 _ _ hy) ?_
 refine Al ?_
 refine Ai fun hU => ?_
 refine Bj ?_
 obtain rfl := oi_ hg
 exact Bi [] ⟨rfl, rfl⟩
theorem Vq  (r : (List Ar)) (hg : M3 = some r) : Fn Try.prog 85 0 [] [] (fun d' b' => d' = .sl 2 (Az Ar.enc r) /\ b' = []) := by
 unfold M3 at hg
 refine Fn.of Try.func85 rfl rfl rfl fun w0 I ρ0 => ?_
 show Ci _ ⟨w0, I, ρ0, 0, 0, 25⟩ _ _ _
 refine Bn 0 8 Bg ?_
 refine Al ?_
 refine Ai fun hU => ?_
 refine Bn 8 208 hU ?_
 refine Ca rfl rfl (.build (r := [.val (.string (⟨#[]⟩ : ByteArray)), .val (.int .i64 0)]) Fz Hp Jx (by kernel_rfl) rfl) rfl rfl ?_
 refine Ca rfl rfl (.build (r := [.val (.string (⟨#[109, 100, 53]⟩ : ByteArray)), .val (.int .i64 1)]) Fz Hp Jx (by kernel_rfl) rfl) rfl rfl ?_
 refine Ca rfl rfl (.build (r := [.val (.string (⟨#[115, 104, 97, 49]⟩ : ByteArray)), .val (.int .i64 1)]) Fz Hp Jx (by kernel_rfl) rfl) rfl rfl ?_
 refine Ca rfl rfl (.build (r := [.val (.string (⟨#[115, 104, 97, 50, 53, 54]⟩ : ByteArray)), .val (.int .i64 1)]) Fz Hp Jx (by kernel_rfl) rfl) rfl rfl ?_
 refine Ca rfl rfl (.build (r := [.val (.string (⟨#[115, 104, 97, 51, 56, 52]⟩ : ByteArray)), .val (.int .i64 1)]) Fz Hp Jx (by kernel_rfl) rfl) rfl rfl ?_
 refine Ca rfl rfl (.build (r := [.val (.string (⟨#[114, 115, 97]⟩ : ByteArray)), .val (.int .i64 2)]) Fz Hp Jx (by kernel_rfl) rfl) rfl rfl ?_
 refine Ca rfl rfl (.build (r := [.val (.string (⟨#[100, 115, 97]⟩ : ByteArray)), .val (.int .i64 2)]) Fz Hp Jx (by kernel_rfl) rfl) rfl rfl ?_
 refine Ca rfl rfl (.build (r := [.val (.string (⟨#[101, 99, 100, 115, 97]⟩ : ByteArray)), .val (.int .i64 2)]) Fz Hp Jx (by kernel_rfl) rfl) rfl rfl ?_
 refine Ca rfl rfl (.build (r := [.val (.string (⟨#[101, 100, 50, 53, 53, 49, 57]⟩ : ByteArray)), .val (.int .i64 2)]) Fz Hp Jx (by kernel_rfl) rfl) rfl rfl ?_
 refine Ca rfl rfl (.build (r := [.val (.string (⟨#[109, 108, 100, 115, 97]⟩ : ByteArray)), .val (.int .i64 2)]) Fz Hp Jx (by kernel_rfl) rfl) rfl rfl ?_
 refine Ca rfl rfl (.build (r := [.val (.string (⟨#[114, 115, 97, 107, 120]⟩ : ByteArray)), .val (.int .i64 3)]) Fz Hp Jx (by kernel_rfl) rfl) rfl rfl ?_
 refine Ca rfl rfl (.build (r := [.val (.string (⟨#[100, 104, 101]⟩ : ByteArray)), .val (.int .i64 3)]) Fz Hp Jx (by kernel_rfl) rfl) rfl rfl ?_
 refine Ca rfl rfl (.build (r := [.val (.string (⟨#[101, 99, 100, 104, 101]⟩ : ByteArray)), .val (.int .i64 3)]) Fz Hp Jx (by kernel_rfl) rfl) rfl rfl ?_
 refine Ca rfl rfl (.build (r := [.val (.string (⟨#[109, 108, 107, 101, 109]⟩ : ByteArray)), .val (.int .i64 3)]) Fz Hp Jx (by kernel_rfl) rfl) rfl rfl ?_
 refine Ca rfl rfl (.build (r := [.val (.string (⟨#[114, 99, 52]⟩ : ByteArray)), .val (.int .i64 4)]) Fz Hp Jx (by kernel_rfl) rfl) rfl rfl ?_
 refine Ca rfl rfl (.build (r := [.val (.string (⟨#[100, 101, 115, 51]⟩ : ByteArray)), .val (.int .i64 4)]) Fz Hp Jx (by kernel_rfl) rfl) rfl rfl ?_
 refine Ca rfl rfl (.build (r := [.val (.string (⟨#[97, 101, 115, 99, 98, 99]⟩ : ByteArray)), .val (.int .i64 4)]) Fz Hp Jx (by kernel_rfl) rfl) rfl rfl ?_
 refine Ca rfl rfl (.build (r := [.val (.string (⟨#[97, 101, 115, 103, 99, 109]⟩ : ByteArray)), .val (.int .i64 4)]) Fz Hp Jx (by kernel_rfl) rfl) rfl rfl ?_
 refine Ca rfl rfl (.build (r := [.val (.string (⟨#[99, 104, 97, 99, 104, 97]⟩ : ByteArray)), .val (.int .i64 4)]) Fz Hp Jx (by kernel_rfl) rfl) rfl rfl ?_
 refine Ca rfl rfl (.build (r := [.val (.string (⟨#[104, 109, 97, 99, 109, 100, 53]⟩ : ByteArray)), .val (.int .i64 5)]) Fz Hp Jx (by kernel_rfl) rfl) rfl rfl ?_
 refine Ca rfl rfl (.build (r := [.val (.string (⟨#[104, 109, 97, 99, 115, 104, 97, 49]⟩ : ByteArray)), .val (.int .i64 5)]) Fz Hp Jx (by kernel_rfl) rfl) rfl rfl ?_
 refine Ca rfl rfl (.build (r := [.val (.string (⟨#[104, 109, 97, 99, 115, 104, 97, 50, 53, 54]⟩ : ByteArray)), .val (.int .i64 5)]) Fz Hp Jx (by kernel_rfl) rfl) rfl rfl ?_
 refine Ca rfl rfl (.build (r := [.val (.string (⟨#[97, 101, 97, 100]⟩ : ByteArray)), .val (.int .i64 5)]) Fz Hp Jx (by kernel_rfl) rfl) rfl rfl ?_
 refine Ca rfl rfl (Bb hG Jx (by decide) rfl rfl rfl rfl nV (cs := [.str (⟨#[]⟩ : ByteArray), .int .i64 0, .str (⟨#[109, 100, 53]⟩ : ByteArray), .int .i64 1, .str (⟨#[115, 104, 97, 49]⟩ : ByteArray), .int .i64 1, .str (⟨#[115, 104, 97, 50, 53, 54]⟩ : ByteArray), .int .i64 1, .str (⟨#[115, 104, 97, 51, 56, 52]⟩ : ByteArray), .int .i64 1, .str (⟨#[114, 115, 97]⟩ : ByteArray), .int .i64 2, .str (⟨#[100, 115, 97]⟩ : ByteArray), .int .i64 2, .str (⟨#[101, 99, 100, 115, 97]⟩ : ByteArray), .int .i64 2, .str (⟨#[101, 100, 50, 53, 53, 49, 57]⟩ : ByteArray), .int .i64 2, .str (⟨#[109, 108, 100, 115, 97]⟩ : ByteArray), .int .i64 2, .str (⟨#[114, 115, 97, 107, 120]⟩ : ByteArray), .int .i64 3, .str (⟨#[100, 104, 101]⟩ : ByteArray), .int .i64 3, .str (⟨#[101, 99, 100, 104, 101]⟩ : ByteArray), .int .i64 3, .str (⟨#[109, 108, 107, 101, 109]⟩ : ByteArray), .int .i64 3, .str (⟨#[114, 99, 52]⟩ : ByteArray), .int .i64 4, .str (⟨#[100, 101, 115, 51]⟩ : ByteArray), .int .i64 4, .str (⟨#[97, 101, 115, 99, 98, 99]⟩ : ByteArray), .int .i64 4, .str (⟨#[97, 101, 115, 103, 99, 109]⟩ : ByteArray), .int .i64 4, .str (⟨#[99, 104, 97, 99, 104, 97]⟩ : ByteArray), .int .i64 4, .str (⟨#[104, 109, 97, 99, 109, 100, 53]⟩ : ByteArray), .int .i64 5, .str (⟨#[104, 109, 97, 99, 115, 104, 97, 49]⟩ : ByteArray), .int .i64 5, .str (⟨#[104, 109, 97, 99, 115, 104, 97, 50, 53, 54]⟩ : ByteArray), .int .i64 5, .str (⟨#[97, 101, 97, 100]⟩ : ByteArray), .int .i64 5]) (.cons .str (.cons .int (.cons .str (.cons .int (.cons .str (.cons .int (.cons .str (.cons .int (.cons .str (.cons .int (.cons .str (.cons .int (.cons .str (.cons .int (.cons .str (.cons .int (.cons .str (.cons .int (.cons .str (.cons .int (.cons .str (.cons .int (.cons .str (.cons .int (.cons .str (.cons .int (.cons .str (.cons .int (.cons .str (.cons .int (.cons .str (.cons .int (.cons .str (.cons .int (.cons .str (.cons .int (.cons .str (.cons .int (.cons .str (.cons .int (.cons .str (.cons .int (.cons .str (.cons .int (.cons .str (.cons .int .nil)))))))))))))))))))))))))))))))))))))))))))))) rfl (l := ([(Ar.mk (⟨#[]⟩ : ByteArray) 0), (Ar.mk (⟨#[109, 100, 53]⟩ : ByteArray) 1), (Ar.mk (⟨#[115, 104, 97, 49]⟩ : ByteArray) 1), (Ar.mk (⟨#[115, 104, 97, 50, 53, 54]⟩ : ByteArray) 1), (Ar.mk (⟨#[115, 104, 97, 51, 56, 52]⟩ : ByteArray) 1), (Ar.mk (⟨#[114, 115, 97]⟩ : ByteArray) 2), (Ar.mk (⟨#[100, 115, 97]⟩ : ByteArray) 2), (Ar.mk (⟨#[101, 99, 100, 115, 97]⟩ : ByteArray) 2), (Ar.mk (⟨#[101, 100, 50, 53, 53, 49, 57]⟩ : ByteArray) 2), (Ar.mk (⟨#[109, 108, 100, 115, 97]⟩ : ByteArray) 2), (Ar.mk (⟨#[114, 115, 97, 107, 120]⟩ : ByteArray) 3), (Ar.mk (⟨#[100, 104, 101]⟩ : ByteArray) 3), (Ar.mk (⟨#[101, 99, 100, 104, 101]⟩ : ByteArray) 3), (Ar.mk (⟨#[109, 108, 107, 101, 109]⟩ : ByteArray) 3), (Ar.mk (⟨#[114, 99, 52]⟩ : ByteArray) 4), (Ar.mk (⟨#[100, 101, 115, 51]⟩ : ByteArray) 4), (Ar.mk (⟨#[97, 101, 115, 99, 98, 99]⟩ : ByteArray) 4), (Ar.mk (⟨#[97, 101, 115, 103, 99, 109]⟩ : ByteArray) 4), (Ar.mk (⟨#[99, 104, 97, 99, 104, 97]⟩ : ByteArray) 4), (Ar.mk (⟨#[104, 109, 97, 99, 109, 100, 53]⟩ : ByteArray) 5), (Ar.mk (⟨#[104, 109, 97, 99, 115, 104, 97, 49]⟩ : ByteArray) 5), (Ar.mk (⟨#[104, 109, 97, 99, 115, 104, 97, 50, 53, 54]⟩ : ByteArray) 5), (Ar.mk (⟨#[97, 101, 97, 100]⟩ : ByteArray) 5)] : List Ar)) (f := Ar.enc) rfl) rfl rfl ?_
 refine Al ?_
 refine Ai fun hU => ?_
 refine Bj ?_
 obtain rfl := oi_ hg
 exact Bi [] ⟨rfl, rfl⟩
theorem Va (alg : Int) (r : Int) (hg : D4 alg = some r) : Fn Try.prog 67 0 [.val (.int .i64 alg)] [] (fun d' b' => d' = .val (.int .i64 r) /\ b' = []) := by
 unfold D4 at hg
 refine Fn.of Try.func67 rfl rfl rfl fun w0 I ρ0 => ?_
 show Ci _ ⟨w0, I, ρ0, 0, 0, 14⟩ _ _ _
 refine Bn 0 8 Bg ?_
 refine Al ?_
 refine Ai fun hU => ?_
 refine Ah ?_
 refine By (ι := Bool) (fun (x8_1 : Bool) => mk [(0, .val (.int .i64 alg)), (8, .val (.bool x8_1))] [] 0) (fun (x8_1 : Bool) => D4.j1 alg x8_1 = some r) ?_ ?_
 ·refine Ad (Bo _ _ []) 8 56 hU rfl rfl ?_
  refine Al ?_
  rcases Ea hg with ⟨h2, hg⟩ | ⟨h2, hg⟩
  ·refine Al ?_
   refine Ai fun hU => ?_
   exact ⟨true, hg, Ba []⟩
  ·refine Al ?_
   refine Ai fun hU => ?_
   exact ⟨decide (22 < alg), hg, Ba []⟩
 ·rintro x8_1 hg
  replace hg : D4.j1 alg x8_1 = some r := hg
  show Ci _ _ _ _ (mk _ _ _)
  unfold D4.j1 at hg
  refine C4 rfl hg (fun h5 hg => ?_) fun h5 hg => ?_
  ·refine Ah ?_
   refine Ad (Bo _ _ []) 0 8 Bg rfl rfl ?_
   refine Al ?_
   refine Ai fun hU => ?_
   refine Bj ?_
   obtain rfl := oi_ hg
   exact Bi [] ⟨rfl, rfl⟩
  ·refine Aq ?_
   repeat first | refine Cw ?_ | refine Cz ?_
   refine Bn 0 48 Bg ?_
   obtain ⟨y, hy, hg⟩ := Ac hg
   refine E5 (Vq _ hy) ?_
   refine Al ?_
   obtain ⟨e, he, hg⟩ := Ac hg
   refine Al ?_
   refine Ca rfl rfl (Mm Yv T7 (by decide) (Q5 Ar.enc_len (Ao he) (o := 1) (by decide) rfl)) rfl rfl ?_
   refine Ca rfl rfl (Ch T7 (D6 Ar.enc_len (Ao he) (o := 1) (c := .int .i64 e.kind) rfl rfl)) rfl rfl ?_
   refine Al ?_
   refine Ai fun hU => ?_
   refine Bj ?_
   obtain rfl := oi_ hg
   exact Bi [] ⟨rfl, rfl⟩
theorem Qp (u : Bk) (r : Bool) (hg : Gq u = some r) : Fn Try.prog 52 0 [.agg [.val (.int .i64 u.Alg), .val (.int .i64 u.Bits)]] [] (fun d' b' => d' = .val (.bool r) /\ b' = []) := by
 unfold Gq at hg
 refine Fn.of Try.func52 rfl rfl rfl fun w0 I ρ0 => ?_
 show Ci _ ⟨w0, I, ρ0, 0, 0, 11⟩ _ _ _
 refine Bn 0 16 Bg ?_
 refine Al ?_
 refine Ai fun hU => ?_
 refine Bn 16 88 hU ?_
 refine Al ?_
 obtain ⟨y, hy, hg⟩ := Ac hg
 refine E5 (Pq _ _ hy) ?_
 refine Al ?_
 rcases Ea hg with ⟨h2, hg⟩ | ⟨h2, hg⟩
 ·refine Al ?_
  obtain ⟨y_2, hy_2, hg⟩ := Ac hg
  refine E5 (Va _ _ hy_2) ?_
  refine Al ?_
  refine Ai fun hU => ?_
  refine Bj ?_
  obtain rfl := oi_ hg
  exact Bi [] ⟨rfl, rfl⟩
 ·refine Al ?_
  refine Ai fun hU => ?_
  refine Bj ?_
  obtain rfl := oi_ hg
  exact Bi [] ⟨rfl, rfl⟩
theorem Po (f : Aa) (r : Int) (hg : Ay f = some r) : Fn Try.prog 20 0 [.agg (Aa.dv f)] [] (fun d' b' => d' = .val (.int .i64 r) /\ b' = []) := by
 unfold Ay at hg
 refine Fn.of Try.func20 rfl rfl rfl fun w0 I ρ0 => ?_
 show Ci _ ⟨w0, I, ρ0, 0, 0, 161⟩ _ _ _
 refine Bn 0 16 Bg ?_
 refine Al ?_
 refine Ai fun hU => ?_
 refine Ah ?_
 refine By (ι := Bool) (fun (x56_1 : Bool) => mk [(1, .ptr 0 0), (56, .val (.bool x56_1))] [(0, .box (Aa.dv f) 30)] 1) (fun (x56_1 : Bool) => Ay.j1 f x56_1 = some r) ?_ ?_
 ·refine Ad (Bo _ _ []) 16 416 hU rfl rfl ?_
  refine Al ?_
  rcases Ea hg with ⟨h2, hg⟩ | ⟨h2, hg⟩
  ·refine Al ?_
   refine Ai fun hU => ?_
   exact ⟨true, hg, Ba [(0, 0)]⟩
  ·refine Al ?_
   rcases Ea hg with ⟨h4, hg⟩ | ⟨h4, hg⟩
   ·refine Al ?_
    refine Ai fun hU => ?_
    exact ⟨true, hg, Ba [(0, 0)]⟩
   ·refine Al ?_
    obtain ⟨y, hy, hg⟩ := Ac hg
    refine E5 (M0 _ _ hy) ?_
    refine Al ?_
    rcases Ea hg with ⟨h6, hg⟩ | ⟨h6, hg⟩
    ·refine Al ?_
     refine Ai fun hU => ?_
     exact ⟨true, hg, Ba [(0, 0)]⟩
    ·refine Al ?_
     rcases Ea hg with ⟨h8, hg⟩ | ⟨h8, hg⟩
     ·refine Al ?_
      refine Ai fun hU => ?_
      exact ⟨true, hg, Ba [(0, 0)]⟩
     ·refine Al ?_
      rcases Ea hg with ⟨h10, hg⟩ | ⟨h10, hg⟩
      ·refine Al ?_
       refine Ai fun hU => ?_
       exact ⟨true, hg, Ba [(0, 0)]⟩
      ·refine Al ?_
       rcases Ea hg with ⟨h12, hg⟩ | ⟨h12, hg⟩
       ·refine Al ?_
        refine Ai fun hU => ?_
        exact ⟨true, hg, Ba [(0, 0)]⟩
       ·refine Al ?_
        rcases Ea hg with ⟨h14, hg⟩ | ⟨h14, hg⟩
        ·refine Al ?_
         refine Ai fun hU => ?_
         exact ⟨true, hg, Ba [(0, 0)]⟩
        ·refine Al ?_
         rcases Ea hg with ⟨h16, hg⟩ | ⟨h16, hg⟩
         ·refine Al ?_
          refine Ai fun hU => ?_
          exact ⟨true, hg, Ba [(0, 0)]⟩
         ·refine Al ?_
          rcases Ea hg with ⟨h18, hg⟩ | ⟨h18, hg⟩
          ·refine Al ?_
           refine Ai fun hU => ?_
           exact ⟨true, hg, Ba [(0, 0)]⟩
          ·refine Al ?_
           obtain ⟨y_2, hy_2, hg⟩ := Ac hg
           refine E5 (M0 _ _ hy_2) ?_
           refine Al ?_
           refine Ai fun hU => ?_
           exact ⟨!y_2, hg, Ba [(0, 0)]⟩
 ·rintro x56_1 hg
  replace hg : Ay.j1 f x56_1 = some r := hg
  show Ci _ _ _ _ (mk _ _ _)
  unfold Ay.j1 at hg
  refine C4 rfl hg (fun h21 hg => ?_) fun h21 hg => ?_
  ·refine Ah ?_
   refine Ad (Bo _ _ []) 1 9 Bg rfl rfl ?_
   refine Al ?_
   refine Ai fun hU => ?_
   refine Bj ?_
   obtain rfl := oi_ hg
   exact Bi [] ⟨rfl, rfl⟩
  ·refine Aq ?_
   repeat first | refine Cw ?_ | refine Cz ?_
   refine Ah ?_
   refine Bv (Bo _ _ []) (by kernel_rfl) [0, 1, 0, 7, 0, 16, 48, 0, 128, 384, 15, 1151, 4095] 1 105 Bg rfl rfl (by kernel_rfl) ?_
   refine Al ?_
   refine Ca rfl rfl (.build (r := [.val (.int .i64 0), .val (.int .i64 0)]) Mr Tg Yl (by kernel_rfl) rfl) rfl rfl ?_
   refine Ca rfl rfl (M6 f.Use (Bk.mk 0 0)) rfl rfl ?_
   refine Al ?_
   refine Ai fun hU => ?_
   refine Bn 105 113 hU ?_
   refine Al ?_
   refine Ai fun hU => ?_
   refine By (ι := Bool) (fun (ok_4 : Bool) => mk [(6, .val (.bool ok_4))] [] 0) (fun (ok_4 : Bool) => Ay.j4 ok_4 = some r) ?_ ?_
   ·refine Ah ?_
    refine Ad (Bo _ _ []) 113 129 hU rfl rfl ?_
    refine Al ?_
    refine Ai fun hU => ?_
    refine A4 ?_
    refine By (ι := Bool) (fun (x69_2 : Bool) => mk [(1, .ptr 0 0), (3, .val (.bool (decide (f.Use = (Bk.mk 0 0))))), (4, .val (.bool (decide (f.Number = 0)))), (5, .val (.bool (decide (f.Text = (⟨#[]⟩ : ByteArray))))), (6, .val (.bool false)), (68, .val (.int .i64 f.Kind)), (69, .val (.bool x69_2))] [(0, .box (Aa.dv f) 30)] 1) (fun (x69_2 : Bool) => Ay.j2 f x69_2 = some r) ?_ ?_
    ·refine Ah ?_
     refine Ad (Bo _ _ []) 129 145 hU rfl rfl ?_
     refine Al ?_
     refine Ai fun hU => ?_
     refine C4 rfl hg (fun h27 hg => ?_) fun h27 hg => ?_
     ·refine Aq ?_
      repeat first | refine Cw ?_ | refine Cz ?_
      exact ⟨decide (f.Kind = 1), hg, Ba [(0, 0)]⟩
     ·refine Ad (Bo _ _ []) 145 161 hU rfl rfl ?_
      refine Al ?_
      refine Ai fun hU => ?_
      exact ⟨decide (f.Kind = 8), hg, Ba [(0, 0)]⟩
    ·rintro x69_2 hg
     replace hg : Ay.j2 f x69_2 = some r := hg
     show Ci _ _ _ _ (mk _ _ _)
     unfold Ay.j2 at hg
     refine C4 rfl hg (fun h29 hg => ?_) fun h29 hg => ?_
     ·refine Ad (Bo _ _ []) 1 81 Bg rfl rfl ?_
      refine Al ?_
      obtain ⟨y_3, hy_3, hg⟩ := Ac hg
      refine E5 (Pq _ _ hy_3) ?_
      refine Al ?_
      rcases Ea hg with ⟨h30, hg⟩ | ⟨h30, hg⟩
      ·refine Al ?_
       rcases Ea hg with ⟨h31, hg⟩ | ⟨h31, hg⟩
       ·refine Al ?_
        refine Ai fun hU => ?_
        exact ⟨decide (f.Text = (⟨#[]⟩ : ByteArray)), hg, Ba []⟩
       ·refine Al ?_
        refine Ai fun hU => ?_
        exact ⟨false, hg, Ba []⟩
      ·refine Al ?_
       refine Ai fun hU => ?_
       exact ⟨false, hg, Ba []⟩
     ·refine Ah ?_
      refine Ad (Bo _ _ []) 1 17 Bg rfl rfl ?_
      refine Al ?_
      refine Ai fun hU => ?_
      refine C4 rfl hg (fun h36 hg => ?_) fun h36 hg => ?_
      ·refine Ad (Bo _ _ []) 17 137 hU rfl rfl ?_
       refine Al ?_
       rcases Ea hg with ⟨h37, hg⟩ | ⟨h37, hg⟩
       ·refine Al ?_
        rcases Ea hg with ⟨h38, hg⟩ | ⟨h38, hg⟩
        ·refine Al ?_
         rcases Ea hg with ⟨h39, hg⟩ | ⟨h39, hg⟩
         ·refine Al ?_
          refine Ai fun hU => ?_
          exact ⟨decide (f.Text = (⟨#[]⟩ : ByteArray)), hg, Ba []⟩
         ·refine Al ?_
          refine Ai fun hU => ?_
          exact ⟨false, hg, Ba []⟩
        ·refine Al ?_
         refine Ai fun hU => ?_
         exact ⟨false, hg, Ba []⟩
       ·refine Al ?_
        refine Ai fun hU => ?_
        exact ⟨false, hg, Ba []⟩
      ·refine Ah ?_
       refine Ad (Bo _ _ []) 17 33 hU rfl rfl ?_
       refine Al ?_
       refine Ai fun hU => ?_
       refine C4 rfl hg (fun h45 hg => ?_) fun h45 hg => ?_
       ·refine Ad (Bo _ _ []) 33 169 hU rfl rfl ?_
        refine Al ?_
        obtain ⟨y_4, hy_4, hg⟩ := Ac hg
        refine E5 (Qp _ _ hy_4) ?_
        refine Al ?_
        rcases Ea hg with ⟨h46, hg⟩ | ⟨h46, hg⟩
        ·refine Al ?_
         rcases Ea hg with ⟨h47, hg⟩ | ⟨h47, hg⟩
         ·refine Al ?_
          rcases Ea hg with ⟨h48, hg⟩ | ⟨h48, hg⟩
          ·refine Al ?_
           refine Ai fun hU => ?_
           exact ⟨decide (f.Text = (⟨#[]⟩ : ByteArray)), hg, Ba []⟩
          ·refine Al ?_
           refine Ai fun hU => ?_
           exact ⟨false, hg, Ba []⟩
         ·refine Al ?_
          refine Ai fun hU => ?_
          exact ⟨false, hg, Ba []⟩
        ·refine Al ?_
         refine Ai fun hU => ?_
         exact ⟨false, hg, Ba []⟩
       ·refine By (ι := Bool) (fun (x115_3 : Bool) => mk [(1, .ptr 0 0), (3, .val (.bool (decide (f.Use = (Bk.mk 0 0))))), (4, .val (.bool (decide (f.Number = 0)))), (5, .val (.bool (decide (f.Text = (⟨#[]⟩ : ByteArray))))), (6, .val (.bool false)), (68, .val (.int .i64 f.Kind)), (115, .val (.bool x115_3))] [(0, .box (Aa.dv f) 30)] 1) (fun (x115_3 : Bool) => Ay.j3 f x115_3 = some r) ?_ ?_
        ·refine Ah ?_
         refine Ad (Bo _ _ []) 33 49 hU rfl rfl ?_
         refine Al ?_
         refine Ai fun hU => ?_
         refine C4 rfl hg (fun h54 hg => ?_) fun h54 hg => ?_
         ·refine Aq ?_
          repeat first | refine Cw ?_ | refine Cz ?_
          exact ⟨decide (f.Kind = 4), hg, Ba [(0, 0)]⟩
         ·refine Ad (Bo _ _ []) 49 65 hU rfl rfl ?_
          refine Al ?_
          refine Ai fun hU => ?_
          exact ⟨decide (f.Kind = 5), hg, Ba [(0, 0)]⟩
        ·rintro x115_3 hg
         replace hg : Ay.j3 f x115_3 = some r := hg
         show Ci _ _ _ _ (mk _ _ _)
         unfold Ay.j3 at hg
         refine C4 rfl hg (fun h56 hg => ?_) fun h56 hg => ?_
         ·refine Ad (Bo _ _ []) 1 121 Bg rfl rfl ?_
          refine Al ?_
          rcases Ea hg with ⟨h57, hg⟩ | ⟨h57, hg⟩
          ·refine Al ?_
           rcases Ea hg with ⟨h58, hg⟩ | ⟨h58, hg⟩
           ·refine Al ?_
            rcases Ea hg with ⟨h59, hg⟩ | ⟨h59, hg⟩
            ·refine Al ?_
             refine Ai fun hU => ?_
             exact ⟨decide (f.Text = (⟨#[]⟩ : ByteArray)), hg, Ba []⟩
            ·refine Al ?_
             refine Ai fun hU => ?_
             exact ⟨false, hg, Ba []⟩
           ·refine Al ?_
            refine Ai fun hU => ?_
            exact ⟨false, hg, Ba []⟩
          ·refine Al ?_
           refine Ai fun hU => ?_
           exact ⟨false, hg, Ba []⟩
         ·refine Ah ?_
          refine Ad (Bo _ _ []) 1 17 Bg rfl rfl ?_
          refine Al ?_
          refine Ai fun hU => ?_
          refine C4 rfl hg (fun h65 hg => ?_) fun h65 hg => ?_
          ·refine Ad (Bo _ _ []) 17 137 hU rfl rfl ?_
           refine Al ?_
           rcases Ea hg with ⟨h66, hg⟩ | ⟨h66, hg⟩
           ·refine Al ?_
            rcases Ea hg with ⟨h67, hg⟩ | ⟨h67, hg⟩
            ·refine Al ?_
             rcases Ea hg with ⟨h68, hg⟩ | ⟨h68, hg⟩
             ·refine Al ?_
              refine Ai fun hU => ?_
              exact ⟨decide (f.Text = (⟨#[]⟩ : ByteArray)), hg, Ba []⟩
             ·refine Al ?_
              refine Ai fun hU => ?_
              exact ⟨false, hg, Ba []⟩
            ·refine Al ?_
             refine Ai fun hU => ?_
             exact ⟨false, hg, Ba []⟩
           ·refine Al ?_
            refine Ai fun hU => ?_
            exact ⟨false, hg, Ba []⟩
          ·refine Ah ?_
           refine Ad (Bo _ _ []) 17 33 hU rfl rfl ?_
           refine Al ?_
           refine Ai fun hU => ?_
           refine C4 rfl hg (fun h74 hg => ?_) fun h74 hg => ?_
           ·refine Ad (Bo _ _ []) 33 113 hU rfl rfl ?_
            refine Al ?_
            rcases Ea hg with ⟨h75, hg⟩ | ⟨h75, hg⟩
            ·refine Al ?_
             rcases Ea hg with ⟨h76, hg⟩ | ⟨h76, hg⟩
             ·refine Al ?_
              obtain ⟨y_5, hy_5, hg⟩ := Ac hg
              refine E5 (M0 _ _ hy_5) ?_
              refine Al ?_
              refine Ai fun hU => ?_
              exact ⟨y_5, hg, Ba []⟩
             ·refine Al ?_
              refine Ai fun hU => ?_
              exact ⟨false, hg, Ba []⟩
            ·refine Al ?_
             refine Ai fun hU => ?_
             exact ⟨false, hg, Ba []⟩
           ·refine Aq ?_
            repeat first | refine Cw ?_ | refine Cz ?_
            exact ⟨false, hg, Ba []⟩
   ·rintro ok_4 hg
    replace hg : Ay.j4 ok_4 = some r := hg
    show Ci _ _ _ _ (mk _ _ _)
    unfold Ay.j4 at hg
    refine Ah ?_
    refine Bn 0 16 Bg ?_
    refine Al ?_
    refine Ai fun hU => ?_
    refine C4 rfl hg (fun h81 hg => ?_) fun h81 hg => ?_
    ·refine Ah ?_
     refine Ad (Bo _ _ []) 16 24 hU rfl rfl ?_
     refine Al ?_
     refine Ai fun hU => ?_
     refine Bj ?_
     obtain rfl := oi_ hg
     exact Bi [] ⟨rfl, rfl⟩
    ·refine Aq ?_
     repeat first | refine Cw ?_ | refine Cz ?_
     refine Bn 16 24 hU ?_
     refine Al ?_
     refine Ai fun hU => ?_
     refine Bj ?_
     obtain rfl := oi_ hg
     exact Bi [] ⟨rfl, rfl⟩
theorem Lz (a : ByteArray) (b : ByteArray) (r : Int) (hg : Gt a b = some r) : Fn Try.prog 53 0 [.val (.string a), .val (.string b)] [] (fun d' b' => d' = .val (.int .i64 r) /\ b' = []) := by
 unfold Gt at hg
 refine Fn.of Try.func53 rfl rfl rfl fun w0 I ρ0 => ?_
 show Ci _ ⟨w0, I, ρ0, 0, 0, 11⟩ _ _ _
 refine Bn 0 8 Bg ?_
 refine Al ?_
 refine Ai fun hU => ?_
 refine Ah ?_
 refine Bn 8 32 hU ?_
 refine Al ?_
 refine Ca rfl rfl iO rfl rfl ?_
 refine Ai fun hU => ?_
 refine C4 rfl hg (fun h3 hg => ?_) fun h3 hg => ?_
 ·refine Ah ?_
  refine Ad (Bo _ _ []) 32 40 hU rfl rfl ?_
  refine Al ?_
  refine Ai fun hU => ?_
  refine Bj ?_
  obtain rfl := oi_ hg
  exact Bi [] ⟨rfl, rfl⟩
 ·refine Aq ?_
  repeat first | refine Cw ?_ | refine Cz ?_
  refine Ah ?_
  refine Bn 32 56 hU ?_
  refine Al ?_
  refine Ca rfl rfl jF rfl rfl ?_
  refine Ai fun hU => ?_
  refine C4 rfl hg (fun h6 hg => ?_) fun h6 hg => ?_
  ·refine Ah ?_
   refine Ad (Bo _ _ []) 56 64 hU rfl rfl ?_
   refine Al ?_
   refine Ai fun hU => ?_
   refine Bj ?_
   obtain rfl := oi_ hg
   exact Bi [] ⟨rfl, rfl⟩
  ·refine Aq ?_
   repeat first | refine Cw ?_ | refine Cz ?_
   refine Bn 56 64 hU ?_
   refine Al ?_
   refine Ai fun hU => ?_
   refine Bj ?_
   obtain rfl := oi_ hg
   exact Bi [] ⟨rfl, rfl⟩
theorem M9 (a : (List Int)) (b : (List Int)) (r : Int) (hg : C7 a b = some r) : Fn Try.prog 54 0 [.sl 1 (Az eI a), .sl 1 (Az eI b)] [] (fun d' b' => d' = .val (.int .i64 r) /\ b' = []) := by
 unfold C7 at hg
 refine Fn.of Try.func54 rfl rfl rfl fun w0 I ρ0 => ?_
 show Ci _ ⟨w0, I, ρ0, 0, 0, 30⟩ _ _ _
 refine Bn 0 8 Bg ?_
 refine Al ?_
 refine Ai fun hU => ?_
 refine Ah ?_
 refine Bn 8 16 hU ?_
 refine Al ?_
 refine Ai fun hU => ?_
 refine A4 ?_
 refine Ll (fun (i_1 : Int) => mk [(0, .sl 1 (Az eI a)), (1, .sl 1 (Az eI b)), (5, .val (.int .i64 i_1))] [] 0) hg (Ba []) ?_
 rintro i_1 m1 o1 hg hn1
 replace hg : C7.l1 a b i_1 = some o1 := hg
 show Ci _ _ _ _ (mk _ _ _)
 unfold C7.l1 at hg
 refine Ah ?_
 refine Bn 0 32 Bg ?_
 refine Al ?_
 refine Ai fun hU => ?_
 refine C4 rfl hg (fun h4 hg => ?_) fun h4 hg => ?_
 ·refine Aq ?_
  repeat first | refine Cw ?_ | refine Cz ?_
  refine Ah ?_
  refine A4 ?_
  refine Ah ?_
  refine Ah ?_
  refine Bv (Bo _ _ []) (by kernel_rfl) [0, 0, 3, 7, 0, 0, 48, 112, 255] 32 104 hU rfl rfl (by kernel_rfl) ?_
  refine Al ?_
  obtain ⟨e, he, hg⟩ := Ac hg
  refine Al ?_
  refine Ca rfl rfl (Ch T7 (D6 H0 (Ao he) (o := 0) (c := .int .i64 e) rfl rfl)) rfl rfl ?_
  refine Al ?_
  obtain ⟨e_2, he_2, hg⟩ := Ac hg
  refine Al ?_
  refine Ca rfl rfl (Ch T7 (D6 H0 (Ao he_2) (o := 0) (c := .int .i64 e_2) rfl rfl)) rfl rfl ?_
  refine Al ?_
  refine Ai fun hU => ?_
  refine C4 rfl hg (fun h6 hg => ?_) fun h6 hg => ?_
  ·refine Ah ?_
   refine Ad (Bo _ _ []) 104 112 hU rfl rfl ?_
   refine Al ?_
   refine Ai fun hU => ?_
   refine Bj ?_
   replace hg := C3 hg hn1
   obtain rfl := oi_ hg
   exact Bi [] ⟨rfl, rfl⟩
  ·refine Aq ?_
   repeat first | refine Cw ?_ | refine Cz ?_
   refine Ah ?_
   refine Bv (Bo _ _ []) (by kernel_rfl) [0, 0, 3, 7, 0, 0, 48, 112, 255] 104 176 hU rfl rfl (by kernel_rfl) ?_
   refine Al ?_
   refine Ca rfl rfl (Ch T7 (D6 H0 (Ao he) (o := 0) (c := .int .i64 e) rfl rfl)) rfl rfl ?_
   refine Al ?_
   refine Ca rfl rfl (Ch T7 (D6 H0 (Ao he_2) (o := 0) (c := .int .i64 e_2) rfl rfl)) rfl rfl ?_
   refine Al ?_
   refine Ai fun hU => ?_
   refine C4 rfl hg (fun h9 hg => ?_) fun h9 hg => ?_
   ·refine Ah ?_
    refine Ad (Bo _ _ []) 176 184 hU rfl rfl ?_
    refine Al ?_
    refine Ai fun hU => ?_
    refine Bj ?_
    replace hg := C3 hg hn1
    obtain rfl := oi_ hg
    exact Bi [] ⟨rfl, rfl⟩
   ·refine Aq ?_
    repeat first | refine Cw ?_ | refine Cz ?_
    refine Ad (Bo _ _ []) 176 200 hU rfl rfl ?_
    refine Al ?_
    refine Ai fun hU => ?_
    obtain rfl := oi_ hg
    exact ⟨(W (i_1 + 1), m1), Nat.lt_succ_self _, hn1, Ba []⟩
 ·refine Cb ?_
  repeat first | refine Cw ?_ | refine Cz ?_
  replace hg := C3 hg hn1
  refine Bn 32 40 hU ?_
  refine Al ?_
  refine Ai fun hU => ?_
  refine Bj ?_
  obtain rfl := oi_ hg
  exact Bi [] ⟨rfl, rfl⟩
theorem L2 (a : Aa) (b : Aa) (r : Int) (hg : Gv a b = some r) : Fn Try.prog 21 0 [.agg (Aa.dv a), .agg (Aa.dv b)] [] (fun d' b' => d' = .val (.int .i64 r) /\ b' = []) := by
 unfold Gv at hg
 refine Fn.of Try.func21 rfl rfl rfl fun w0 I ρ0 => ?_
 show Ci _ ⟨w0, I, ρ0, 0, 0, 85⟩ _ _ _
 refine Bn 0 24 Bg ?_
 refine Al ?_
 refine Ai fun hU => ?_
 refine Ah ?_
 refine Bn 24 72 hU ?_
 refine Al ?_
 obtain ⟨y, hy, hg⟩ := Ac hg
 refine E5 (Lz _ _ _ hy) ?_
 refine Al ?_
 refine Ai fun hU => ?_
 refine Bn 72 88 hU ?_
 refine Al ?_
 refine Ai fun hU => ?_
 refine C4 rfl hg (fun h4 hg => ?_) fun h4 hg => ?_
 ·refine Ah ?_
  refine Ad (Bo _ _ []) 88 104 hU rfl rfl ?_
  refine Al ?_
  refine Ai fun hU => ?_
  refine Bj ?_
  obtain rfl := oi_ hg
  exact Bi [] ⟨rfl, rfl⟩
 ·refine Aq ?_
  repeat first | refine Cw ?_ | refine Cz ?_
  refine Ah ?_
  refine Bn 88 184 hU ?_
  refine Al ?_
  refine Ca rfl rfl (Bb E7 z3 (by decide) rfl rfl rfl rfl Ju (cs := [.int .i64 a.Machine, .int .i64 a.Day]) (.cons .int (.cons .int .nil)) rfl (l := ([a.Machine, a.Day] : List Int)) (f := eI) rfl) rfl rfl ?_
  refine Al ?_
  refine Ca rfl rfl (Bb E7 z3 (by decide) rfl rfl rfl rfl Ju (cs := [.int .i64 b.Machine, .int .i64 b.Day]) (.cons .int (.cons .int .nil)) rfl (l := ([b.Machine, b.Day] : List Int)) (f := eI) rfl) rfl rfl ?_
  obtain ⟨y_2, hy_2, hg⟩ := Ac hg
  refine Hr [120, 160] [] [] true (M9 _ _ _ hy_2) ?_
  refine Al ?_
  refine Ai fun hU => ?_
  refine Bn 184 200 hU ?_
  refine Al ?_
  refine Ai fun hU => ?_
  refine C4 rfl hg (fun h8 hg => ?_) fun h8 hg => ?_
  ·refine Ah ?_
   refine Ad (Bo _ _ []) 200 216 hU rfl rfl ?_
   refine Al ?_
   refine Ai fun hU => ?_
   refine Bj ?_
   obtain rfl := oi_ hg
   exact Bi [] ⟨rfl, rfl⟩
  ·refine Aq ?_
   repeat first | refine Cw ?_ | refine Cz ?_
   refine Ah ?_
   refine Bn 200 248 hU ?_
   refine Al ?_
   obtain ⟨y_3, hy_3, hg⟩ := Ac hg
   refine E5 (Lz _ _ _ hy_3) ?_
   refine Al ?_
   refine Ai fun hU => ?_
   refine Bn 248 264 hU ?_
   refine Al ?_
   refine Ai fun hU => ?_
   refine C4 rfl hg (fun h12 hg => ?_) fun h12 hg => ?_
   ·refine Ah ?_
    refine Ad (Bo _ _ []) 264 280 hU rfl rfl ?_
    refine Al ?_
    refine Ai fun hU => ?_
    refine Bj ?_
    obtain rfl := oi_ hg
    exact Bi [] ⟨rfl, rfl⟩
   ·refine Aq ?_
    repeat first | refine Cw ?_ | refine Cz ?_
    refine Ah ?_
    refine Bn 264 456 hU ?_
    refine Al ?_
    refine Ca rfl rfl (Bb E7 z3 (by decide) rfl rfl rfl rfl Ju (cs := [.int .i64 a.Kind, .int .i64 a.Use.Alg, .int .i64 a.Use.Bits, .int .i64 a.Number]) (.cons .int (.cons .int (.cons .int (.cons .int .nil)))) rfl (l := ([a.Kind, a.Use.Alg, a.Use.Bits, a.Number] : List Int)) (f := eI) rfl) rfl rfl ?_
    refine Al ?_
    refine Ca rfl rfl (Bb E7 z3 (by decide) rfl rfl rfl rfl Ju (cs := [.int .i64 b.Kind, .int .i64 b.Use.Alg, .int .i64 b.Use.Bits, .int .i64 b.Number]) (.cons .int (.cons .int (.cons .int (.cons .int .nil)))) rfl (l := ([b.Kind, b.Use.Alg, b.Use.Bits, b.Number] : List Int)) (f := eI) rfl) rfl rfl ?_
    obtain ⟨y_4, hy_4, hg⟩ := Ac hg
    refine Hr [344, 432] [] [] true (M9 _ _ _ hy_4) ?_
    refine Al ?_
    refine Ai fun hU => ?_
    refine Bn 456 472 hU ?_
    refine Al ?_
    refine Ai fun hU => ?_
    refine C4 rfl hg (fun h16 hg => ?_) fun h16 hg => ?_
    ·refine Ah ?_
     refine Ad (Bo _ _ []) 472 488 hU rfl rfl ?_
     refine Al ?_
     refine Ai fun hU => ?_
     refine Bj ?_
     obtain rfl := oi_ hg
     exact Bi [] ⟨rfl, rfl⟩
    ·refine Aq ?_
     repeat first | refine Cw ?_ | refine Cz ?_
     refine Ah ?_
     refine Bn 472 520 hU ?_
     refine Al ?_
     obtain ⟨y_5, hy_5, hg⟩ := Ac hg
     refine E5 (Lz _ _ _ hy_5) ?_
     refine Al ?_
     refine Ai fun hU => ?_
     refine Bn 520 536 hU ?_
     refine Al ?_
     refine Ai fun hU => ?_
     refine C4 rfl hg (fun h20 hg => ?_) fun h20 hg => ?_
     ·refine Ah ?_
      refine Ad (Bo _ _ []) 536 552 hU rfl rfl ?_
      refine Al ?_
      refine Ai fun hU => ?_
      refine Bj ?_
      obtain rfl := oi_ hg
      exact Bi [] ⟨rfl, rfl⟩
     ·refine Aq ?_
      repeat first | refine Cw ?_ | refine Cz ?_
      refine Bn 536 632 hU ?_
      refine Al ?_
      refine Ca rfl rfl (Bb E7 z3 (by decide) rfl rfl rfl rfl Ju (cs := [.int .i64 a.Source, .int .i64 a.Confidence]) (.cons .int (.cons .int .nil)) rfl (l := ([a.Source, a.Confidence] : List Int)) (f := eI) rfl) rfl rfl ?_
      refine Al ?_
      refine Ca rfl rfl (Bb E7 z3 (by decide) rfl rfl rfl rfl Ju (cs := [.int .i64 b.Source, .int .i64 b.Confidence]) (.cons .int (.cons .int .nil)) rfl (l := ([b.Source, b.Confidence] : List Int)) (f := eI) rfl) rfl rfl ?_
      obtain ⟨y_6, hy_6, hg⟩ := Ac hg
      refine Hr [568, 608] [] [] true (M9 _ _ _ hy_6) ?_
      refine Al ?_
      refine Ai fun hU => ?_
      refine Bj ?_
      obtain rfl := oi_ hg
      exact Bi [] ⟨rfl, rfl⟩
theorem Ry (l : List Aa) (f : Aa) (r : (List Aa)) (hg : B1 l f = some r) : Fn Try.prog 46 0 [.row 0, .agg (Aa.dv f)] [.row 30 11 (Az Aa.enc l)] (fun d' b' => d' = .row 0 /\ b' = [.row 30 11 (Az Aa.enc r)]) := by
 unfold B1 at hg
 refine Fn.of Try.func46 rfl rfl rfl fun w0 I ρ0 => ?_
 show Ci _ ⟨w0, I, ρ0, 0, 1, 47⟩ _ _ _
 refine Bn 1 17 Bg ?_
 refine Al ?_
 refine Ai fun hU => ?_
 refine Bn 17 41 hU ?_
 refine Al ?_
 refine Ai fun hU => ?_
 refine Ah ?_
 refine A4 ?_
 refine Ll (fun (k_1 : Int) => mk [(0, .row 0), (3, .ptr 1 0), (5, .val (.int .i64 k_1))] [(0, .row 30 11 (Az Aa.enc l)), (1, .box (Aa.dv f) 30)] 2) hg (Ba [(0, 0), (1, 1)]) ?_
 rintro k_1 m1 o1 hg hn1
 replace hg : B1.l1 l f k_1 = some o1 := hg
 show Ci _ _ _ _ (mk _ _ _)
 unfold B1.l1 at hg
 refine Ah ?_
 refine By (ι := Bool) (fun (x19_2 : Bool) => mk [(0, .row 0), (3, .ptr 1 0), (5, .val (.int .i64 k_1)), (19, .val (.bool x19_2))] [(0, .row 30 11 (Az Aa.enc l)), (1, .box (Aa.dv f) 30)] 2) (fun (x19_2 : Bool) => B1.j2 l f k_1 x19_2 = some o1) ?_ ?_
 ·refine Bv (Bo _ _ []) (by kernel_rfl) [0, 1, 3, 7, 7, 23, 63, 127, 7, 511, 1023, 2047] 2 98 Bg rfl rfl (by kernel_rfl) ?_
  refine Al ?_
  rcases Ea hg with ⟨h3, hg⟩ | ⟨h3, hg⟩
  ·refine Al ?_
   obtain ⟨e, he, hg⟩ := Ac hg
   refine Al ?_
   refine Cu (rd := [0]) (B7 rfl rfl h3) rfl (Bt Cg (Bd Aa.enc_len (Ao he) (o := 0) (m := 11) (cs := [.int .i64 e.Source, .str e.Host, .int .i64 e.Machine, .int .i64 e.Day, .int .i64 e.Confidence, .int .i64 e.Kind, .str e.Subject, .int .i64 e.Use.Alg, .int .i64 e.Use.Bits, .int .i64 e.Number, .str e.Text]) rfl (by decide) rfl) (Ap Aa.enc_len (Ao he) (o := 0) (m := 11) (by decide) rfl)) rfl rfl ?_
   refine Al ?_
   obtain ⟨y, hy, hg⟩ := Ac hg
   refine E5 (L2 _ _ _ hy) ?_
   refine Al ?_
   refine Ai fun hU => ?_
   exact ⟨decide (0 < y), hg, Ba [(0, 0), (1, 1)]⟩
  ·refine Al ?_
   refine Ai fun hU => ?_
   exact ⟨false, hg, Ba [(0, 0), (1, 1)]⟩
 ·rintro x19_2 hg
  replace hg : B1.j2 l f k_1 x19_2 = some o1 := hg
  show Ci _ _ _ _ (mk _ _ _)
  unfold B1.j2 at hg
  refine C4 rfl hg (fun h6 hg => ?_) fun h6 hg => ?_
  ·refine Aq ?_
   repeat first | refine Cw ?_ | refine Cz ?_
   refine A4 ?_
   refine Ad (Bo _ _ []) 2 26 Bg rfl rfl ?_
   refine Al ?_
   refine Ai fun hU => ?_
   obtain rfl := oi_ hg
   exact ⟨(W (k_1 - 1), m1), Nat.lt_succ_self _, hn1, Ba [(0, 0), (1, 1)]⟩
  ·refine Cb ?_
   repeat first | refine Cw ?_ | refine Cz ?_
   replace hg := C3 hg hn1
   refine Ah ?_
   refine By (ι := Bool) (fun (x33_3 : Bool) => mk [(0, .row 0), (3, .ptr 1 0), (5, .val (.int .i64 k_1)), (33, .val (.bool x33_3))] [(0, .row 30 11 (Az Aa.enc l)), (1, .box (Aa.dv f) 30)] 2) (fun (x33_3 : Bool) => B1.j3 l f k_1 x33_3 = some r) ?_ ?_
   ·refine Bv (Bo _ _ []) (by kernel_rfl) [0, 1, 3, 7, 7, 23, 63, 127, 7, 511, 1023, 2047] 2 98 Bg rfl rfl (by kernel_rfl) ?_
    refine Al ?_
    rcases Ea hg with ⟨h8, hg⟩ | ⟨h8, hg⟩
    ·refine Al ?_
     obtain ⟨e_2, he_2, hg⟩ := Ac hg
     refine Al ?_
     refine Cu (rd := [0]) (B7 rfl rfl h8) rfl (Bt Cg (Bd Aa.enc_len (Ao he_2) (o := 0) (m := 11) (cs := [.int .i64 e_2.Source, .str e_2.Host, .int .i64 e_2.Machine, .int .i64 e_2.Day, .int .i64 e_2.Confidence, .int .i64 e_2.Kind, .str e_2.Subject, .int .i64 e_2.Use.Alg, .int .i64 e_2.Use.Bits, .int .i64 e_2.Number, .str e_2.Text]) rfl (by decide) rfl) (Ap Aa.enc_len (Ao he_2) (o := 0) (m := 11) (by decide) rfl)) rfl rfl ?_
     refine Al ?_
     obtain ⟨y_2, hy_2, hg⟩ := Ac hg
     refine E5 (L2 _ _ _ hy_2) ?_
     refine Al ?_
     refine Ai fun hU => ?_
     exact ⟨decide (y_2 = 0), hg, Ba [(0, 0), (1, 1)]⟩
    ·refine Al ?_
     refine Ai fun hU => ?_
     exact ⟨false, hg, Ba [(0, 0), (1, 1)]⟩
   ·rintro x33_3 hg
    replace hg : B1.j3 l f k_1 x33_3 = some r := hg
    show Ci _ _ _ _ (mk _ _ _)
    unfold B1.j3 at hg
    refine C4 rfl hg (fun h11 hg => ?_) fun h11 hg => ?_
    ·refine Ah ?_
     refine Ad (Bo _ _ []) 2 18 Bg rfl rfl ?_
     refine Al ?_
     refine Ai fun hU => ?_
     refine Bj ?_
     obtain rfl := oi_ hg
     exact Bi [(0, 0)] ⟨rfl, rfl⟩
    ·refine Aq ?_
     repeat first | refine Cw ?_ | refine Cz ?_
     refine Ah ?_
     refine Bv (Bo _ _ []) (by kernel_rfl) [0, 0, 0, 6, 15, 0, 32, 127, 0, 0, 768, 2047, 4095] 2 106 Bg rfl rfl (by kernel_rfl) ?_
     refine Ca rfl rfl (Bb Ha Yy (by decide) rfl rfl rfl rfl G3 (cs := []) .nil rfl (l := ([] : List Aa)) (f := Aa.enc) rfl) rfl rfl ?_
     refine Al ?_
     obtain ⟨l_2, hl_2, hg⟩ := Ac hg
     refine Cu (rd := [0]) rfl rfl (Rm Ha Aa.enc_len hl_2) rfl rfl ?_
     obtain ⟨l_3, hl_3, hg⟩ := Ac hg
     refine Cu (rd := [2, 0]) rfl rfl (Hm Ha Aa.enc_len .row rfl (.part (Yg Aa.enc_len (Q8 hl_2))) (V4 Aa.enc_len _ _ _ (Q8 hl_2)) hl_3 rfl) rfl rfl ?_
     refine Al ?_
     refine Ca rfl rfl (Bb Ha Yy (by decide) rfl rfl rfl rfl G3 (cs := [.int .i64 f.Source, .str f.Host, .int .i64 f.Machine, .int .i64 f.Day, .int .i64 f.Confidence, .int .i64 f.Kind, .str f.Subject, .int .i64 f.Use.Alg, .int .i64 f.Use.Bits, .int .i64 f.Number, .str f.Text]) (.cons .int (.cons .str (.cons .int (.cons .int (.cons .int (.cons .int (.cons .str (.cons .int (.cons .int (.cons .int (.cons .str .nil))))))))))) rfl (l := ([f] : List Aa)) (f := Aa.enc) rfl) rfl rfl ?_
     obtain ⟨l_4, hl_4, hg⟩ := Ac hg
     refine Cu (rd := [34, 50]) rfl rfl (Hm Ha Aa.enc_len .row rfl .row rfl hl_4 rfl) rfl rfl ?_
     refine Al ?_
     obtain ⟨l_5, hl_5, hg⟩ := Ac hg
     refine Cu (rd := [0]) rfl rfl (Q4 Ha Aa.enc_len hl_5) rfl rfl ?_
     obtain ⟨l_6, hl_6, hg⟩ := Ac hg
     refine Cu (rd := [58, 0]) rfl rfl (Hm Ha Aa.enc_len .row rfl (.part (Yg Aa.enc_len (Q8 hl_5))) (V4 Aa.enc_len _ _ _ (Q8 hl_5)) hl_6 rfl) rfl rfl ?_
     refine Al ?_
     refine Ai fun hU => ?_
     refine Bj ?_
     obtain rfl := oi_ hg
     exact Bi [(0, 90)] ⟨rfl, rfl⟩
end Go.Proofs.Ytjomajedgbcngaa
