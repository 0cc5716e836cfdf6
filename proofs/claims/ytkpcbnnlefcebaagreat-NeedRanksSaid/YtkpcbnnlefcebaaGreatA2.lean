import Derived.Test.YtkpcbnnlefcebaaGreatT1
import Derived.Test.YtkpcbnnlefcebaaGreatA1
set_option linter.unusedVariables false
set_option linter.unusedSimpArgs false
set_option maxRecDepth 100000
set_option maxHeartbeats 1600000
namespace Go.Proofs.YtkpcbnnlefcebaaGreat
open Go.RowKit
theorem Gp (data : List Aa) (a : Int) (b : Int) (cmp : Aa -> Aa -> Option (Int)) (hf_cmp : ∀ (x0 : Aa) (x1 : Aa) (y : Int), cmp x0 x1 = some y -> Fn Tryz.prog 69 0 [.agg [.val (.int .i64 x0.First), .val (.int .i64 x0.Then)], .agg [.val (.int .i64 x1.First), .val (.int .i64 x1.Then)]] [] (fun d' b' => d' = .val (.int .i64 y) /\ b' = [])) (r : Bool × (List Aa)) (hg : Ab data a b cmp = some r) : Fn Tryz.prog 130 1 [.row 0, .val (.int .i64 a), .val (.int .i64 b), .clo 69 0 []] [.row 122 2 (Av Aa.enc data)] (fun d' b' => d' = .val (.bool r.1) /\ b' = [.row 122 2 (Av Aa.enc r.2)]) := by
 unfold Ab at hg
 refine Fn.of Tryz.func130 rfl rfl rfl fun w0 I ρ0 => ?_
 show Cy _ ⟨w0, I, ρ0, 1, 1, 141⟩ _ _ _
 refine Bu 1 9 Bg ?_
 refine Ao ?_
 refine Al fun hU => ?_
 refine Bu 9 33 hU ?_
 refine Ao ?_
 refine Al fun hU => ?_
 refine Aj ?_
 refine Bu 33 41 hU ?_
 refine Ao ?_
 refine Al fun hU => ?_
 refine A3 ?_
 refine Ix (fun ((i_1, j_1, data_1) : Int × Int × List Aa) => mk [(0, .row 0), (1, .val (.int .i64 a)), (2, .val (.int .i64 b)), (3, .clo 69 0 []), (9, .val (.int .i64 i_1)), (10, .val (.int .i64 j_1))] [(0, .row 122 2 (Av Aa.enc data_1))] 1) hg (A9 [(0, 0)]) ?_
 rintro ⟨i_1, j_1, data_1⟩ m1 o1 hg hn1
 replace hg : Ab.l1 a b cmp i_1 j_1 data_1 = some o1 := hg
 show Cy _ _ _ _ (mk _ _ _)
 unfold Ab.l1 at hg
 refine Aj ?_
 refine Bu 1 17 Bg ?_
 refine Ao ?_
 refine Al fun hU => ?_
 refine D1 rfl hg (fun h5 hg => ?_) fun h5 hg => ?_
 ·refine Ay ?_
  repeat first | refine Dg ?_ | refine Df ?_
  refine B7 (ι := Int × List Aa) (fun ((i_7, data_7) : Int × List Aa) => mk [(0, .row 0), (1, .val (.int .i64 a)), (2, .val (.int .i64 b)), (3, .clo 69 0 []), (9, .val (.int .i64 i_7)), (10, .val (.int .i64 j_1))] [(0, .row 122 2 (Av Aa.enc data_7))] 1) (fun ((i_7, data_7) : Int × List Aa) => Ab.j7 j_1 i_7 data_7 = some o1) ?_ ?_
  ·refine A3 ?_
   refine Aj ?_
   refine A3 ?_
   refine Ix (fun (i_2 : Int) => mk [(0, .row 0), (1, .val (.int .i64 a)), (2, .val (.int .i64 b)), (3, .clo 69 0 []), (9, .val (.int .i64 i_2)), (10, .val (.int .i64 j_1))] [(0, .row 122 2 (Av Aa.enc data_1))] 1) hg (A9 [(0, 0)]) ?_
   rintro i_2 m2 o2 hg hn2
   replace hg : Ab.l2 a b cmp j_1 data_1 i_2 = some o2 := hg
   show Cy _ _ _ _ (mk _ _ _)
   unfold Ab.l2 at hg
   refine Aj ?_
   refine B7 (ι := Bool) (fun (x36_3 : Bool) => mk [(0, .row 0), (1, .val (.int .i64 a)), (2, .val (.int .i64 b)), (3, .clo 69 0 []), (9, .val (.int .i64 i_2)), (10, .val (.int .i64 j_1)), (36, .val (.bool x36_3))] [(0, .row 122 2 (Av Aa.enc data_1))] 1) (fun (x36_3 : Bool) => Ab.j3 a b cmp j_1 data_1 i_2 x36_3 = some o2) ?_ ?_
   ·refine Ck (Cd _ _ []) (by kernel_rfl) [0, 0, 3, 7, 15, 15, 15, 111, 239, 15, 15, 1039, 3599, 7695, 16383, 32767, 65535, 131071] 1 145 Bg rfl rfl (by kernel_rfl) ?_
    refine Ao ?_
    rcases E8 hg with ⟨h6, hg⟩ | ⟨h6, hg⟩
    ·refine Ao ?_
     obtain ⟨e, he, hg⟩ := Ad hg
     refine Ao ?_
     refine Da (rd := [0]) (Cj rfl rfl h6) rfl (Ci Dd (Bh Aa.enc_len (Aq he) (o := 0) (m := 2) (cs := [.int .i64 e.First, .int .i64 e.Then]) rfl (by decide) rfl) (Ax Aa.enc_len (Aq he) (o := 0) (m := 2) (by decide) rfl)) rfl rfl ?_
     refine Ao ?_
     obtain ⟨e_2, he_2, hg⟩ := Ad hg
     refine Ao ?_
     refine Da (rd := [0]) (Cj rfl rfl h6) rfl (Ci Dd (Bh Aa.enc_len (Aq he_2) (o := 0) (m := 2) (cs := [.int .i64 e_2.First, .int .i64 e_2.Then]) rfl (by decide) rfl) (Ax Aa.enc_len (Aq he_2) (o := 0) (m := 2) (by decide) rfl)) rfl rfl ?_
     obtain ⟨y, hy, hg⟩ := Ad hg
     refine Fg (rd := []) (ps := []) (gs := []) false (Cj rfl rfl h6) rfl (hf_cmp e e_2 _ hy) rfl rfl (.cons (.agg (.cons .val (.cons .val .nil))) (.cons (.agg (.cons .val (.cons .val .nil))) .nil)) rfl rfl (by intro h; cases h) rfl rfl rfl rfl ?_
     refine Ao ?_
     refine Al fun hU => ?_
     exact ⟨!(decide (y < 0)), hg, A9 [(0, 0)]⟩
    ·refine Ao ?_
     refine Al fun hU => ?_
     exact ⟨false, hg, A9 [(0, 0)]⟩
   ·rintro x36_3 hg
    replace hg : Ab.j3 a b cmp j_1 data_1 i_2 x36_3 = some o2 := hg
    show Cy _ _ _ _ (mk _ _ _)
    unfold Ab.j3 at hg
    refine D1 rfl hg (fun h9 hg => ?_) fun h9 hg => ?_
    ·refine Ay ?_
     repeat first | refine Dg ?_ | refine Df ?_
     refine A3 ?_
     refine Af (Cd _ _ []) 1 25 Bg rfl rfl ?_
     refine Ao ?_
     refine Al fun hU => ?_
     obtain rfl := oi_ hg
     exact ⟨(W (i_2 + 1), m2), Nat.lt_succ_self _, hn2, A9 [(0, 0)]⟩
    ·refine B8 ?_
     repeat first | refine Dg ?_ | refine Df ?_
     replace hg := Cr hg hn2
     refine Aj ?_
     refine Bu 1 25 Bg ?_
     refine Ao ?_
     refine Al fun hU => ?_
     refine D1 rfl hg (fun h12 hg => ?_) fun h12 hg => ?_
     ·refine Aj ?_
      refine Af (Cd _ _ []) 25 33 hU rfl rfl ?_
      refine Ao ?_
      refine Al fun hU => ?_
      refine Bv ?_
      replace hg := Cr hg hn1
      obtain rfl := oi_ hg
      exact Bt [(0, 0)] ⟨rfl, rfl⟩
     ·refine Ay ?_
      repeat first | refine Dg ?_ | refine Df ?_
      refine Aj ?_
      refine Bu 25 57 hU ?_
      refine Ao ?_
      refine Al fun hU => ?_
      refine D1 rfl hg (fun h15 hg => ?_) fun h15 hg => ?_
      ·refine Aj ?_
       refine Af (Cd _ _ []) 57 65 hU rfl rfl ?_
       refine Ao ?_
       refine Al fun hU => ?_
       refine Bv ?_
       replace hg := Cr hg hn1
       obtain rfl := oi_ hg
       exact Bt [(0, 0)] ⟨rfl, rfl⟩
      ·refine Ay ?_
       repeat first | refine Dg ?_ | refine Df ?_
       refine Aj ?_
       refine Ck (Cd _ _ []) (by kernel_rfl) [0, 0, 0, 0, 8, 0, 0, 64, 224, 480, 0, 0, 3072, 7168, 16355, 32739, 65535, 131071] 57 201 hU rfl rfl (by kernel_rfl) ?_
       refine Ao ?_
       obtain ⟨e_3, he_3, hg⟩ := Ad hg
       refine Ao ?_
       refine Da (rd := [0]) rfl rfl (Ci Dd (Bh Aa.enc_len (Aq he_3) (o := 0) (m := 2) (cs := [.int .i64 e_3.First, .int .i64 e_3.Then]) rfl (by decide) rfl) (Ax Aa.enc_len (Aq he_3) (o := 0) (m := 2) (by decide) rfl)) rfl rfl ?_
       refine Ao ?_
       obtain ⟨e_4, he_4, hg⟩ := Ad hg
       refine Ao ?_
       refine Da (rd := [0]) rfl rfl (Ci Dd (Bh Aa.enc_len (Aq he_4) (o := 0) (m := 2) (cs := [.int .i64 e_4.First, .int .i64 e_4.Then]) rfl (by decide) rfl) (Ax Aa.enc_len (Aq he_4) (o := 0) (m := 2) (by decide) rfl)) rfl rfl ?_
       refine Ao ?_
       refine Da (rd := [0]) rfl rfl (D9 Dd rfl (Ax Aa.enc_len (Aq he_4) (o := 0) (m := 2) (by decide) rfl) He (cs' := [.int .i64 e_3.First, .int .i64 e_3.Then]) (.cons .int (.cons .int .nil)) (Dm Aa.enc_len (Aq he_4) (o := 0) (x' := e_3) (Nat.le_of_ble_eq_true rfl) rfl rfl)) rfl rfl ?_
       obtain ⟨e_5, he_5, hg⟩ := Ad hg
       refine Ao ?_
       refine Da (rd := [0]) rfl rfl (D9 Dd rfl (Ax Aa.enc_len (Aq he_5) (o := 0) (m := 2) (by decide) rfl) He (cs' := [.int .i64 e_4.First, .int .i64 e_4.Then]) (.cons .int (.cons .int .nil)) (Dm Aa.enc_len (Aq he_5) (o := 0) (x' := e_4) (Nat.le_of_ble_eq_true rfl) rfl rfl)) rfl rfl ?_
       refine Al fun hU => ?_
       refine B7 (ι := List Aa) (fun (data_5 : List Aa) => mk [(0, .row 0), (1, .val (.int .i64 a)), (2, .val (.int .i64 b)), (3, .clo 69 0 []), (9, .val (.int .i64 i_2)), (10, .val (.int .i64 j_1))] [(0, .row 122 2 (Av Aa.enc data_5))] 1) (fun (data_5 : List Aa) => Ab.j5 b cmp j_1 i_2 data_5 = some o1) ?_ ?_
       ·refine Aj ?_
        refine Af (Cd _ _ []) 201 233 hU rfl rfl ?_
        refine Ao ?_
        refine Al fun hU => ?_
        refine D1 rfl hg (fun h19 hg => ?_) fun h19 hg => ?_
        ·refine Aj ?_
         refine Af (Cd _ _ []) 233 257 hU rfl rfl ?_
         refine Ao ?_
         refine Al fun hU => ?_
         refine A3 ?_
         refine Ix (fun ((j_4, data_4) : Int × List Aa) => mk [(0, .row 0), (1, .val (.int .i64 a)), (2, .val (.int .i64 b)), (3, .clo 69 0 []), (9, .val (.int .i64 i_2)), (10, .val (.int .i64 j_1)), (11, .val (.int .i64 j_4))] [(0, .row 122 2 (Av Aa.enc data_4))] 1) hg (A9 [(0, 0)]) ?_
         rintro ⟨j_4, data_4⟩ m4 o4 hg hn4
         replace hg : Ab.l4 b cmp j_1 i_2 j_4 data_4 = some o4 := hg
         show Cy _ _ _ _ (mk _ _ _)
         unfold Ab.l4 at hg
         refine Aj ?_
         refine Bu 1 17 Bg ?_
         refine Ao ?_
         refine Al fun hU => ?_
         refine D1 rfl hg (fun h22 hg => ?_) fun h22 hg => ?_
         ·refine Ay ?_
          repeat first | refine Dg ?_ | refine Df ?_
          refine Aj ?_
          refine A3 ?_
          refine Aj ?_
          refine Aj ?_
          refine Ck (Cd _ _ []) (by kernel_rfl) [0, 0, 0, 6, 14, 0, 0, 64, 224, 480, 1023, 2047, 4095] 17 121 hU rfl rfl (by kernel_rfl) ?_
          refine Ao ?_
          obtain ⟨e_6, he_6, hg⟩ := Ad hg
          refine Ao ?_
          refine Da (rd := [0]) rfl rfl (Ci Dd (Bh Aa.enc_len (Aq he_6) (o := 0) (m := 2) (cs := [.int .i64 e_6.First, .int .i64 e_6.Then]) rfl (by decide) rfl) (Ax Aa.enc_len (Aq he_6) (o := 0) (m := 2) (by decide) rfl)) rfl rfl ?_
          refine Ao ?_
          obtain ⟨e_7, he_7, hg⟩ := Ad hg
          refine Ao ?_
          refine Da (rd := [0]) rfl rfl (Ci Dd (Bh Aa.enc_len (Aq he_7) (o := 0) (m := 2) (cs := [.int .i64 e_7.First, .int .i64 e_7.Then]) rfl (by decide) rfl) (Ax Aa.enc_len (Aq he_7) (o := 0) (m := 2) (by decide) rfl)) rfl rfl ?_
          obtain ⟨y_2, hy_2, hg⟩ := Ad hg
          refine Fg (rd := []) (ps := []) (gs := []) false rfl rfl (hf_cmp e_6 e_7 _ hy_2) rfl rfl (.cons (.agg (.cons .val (.cons .val .nil))) (.cons (.agg (.cons .val (.cons .val .nil))) .nil)) rfl rfl (by intro h; cases h) rfl rfl rfl rfl ?_
          refine Ao ?_
          refine Al fun hU => ?_
          refine D1 rfl hg (fun h24 hg => ?_) fun h24 hg => ?_
          ·refine B8 ?_
           repeat first | refine Dg ?_ | refine Df ?_
           replace hg := Cr hg hn4
           exact ⟨data_4, hg, A9 [(0, 0)]⟩
          ·refine Ay ?_
           repeat first | refine Dg ?_ | refine Df ?_
           refine Ck (Cd _ _ []) (by kernel_rfl) [0, 0, 0, 0, 8, 0, 0, 64, 224, 480, 0, 0, 3072, 7168, 16355, 32739, 65535, 131071] 121 265 hU rfl rfl (by kernel_rfl) ?_
           refine Ao ?_
           refine Da (rd := [0]) rfl rfl (Ci Dd (Bh Aa.enc_len (Aq he_7) (o := 0) (m := 2) (cs := [.int .i64 e_7.First, .int .i64 e_7.Then]) rfl (by decide) rfl) (Ax Aa.enc_len (Aq he_7) (o := 0) (m := 2) (by decide) rfl)) rfl rfl ?_
           refine Ao ?_
           refine Da (rd := [0]) rfl rfl (Ci Dd (Bh Aa.enc_len (Aq he_6) (o := 0) (m := 2) (cs := [.int .i64 e_6.First, .int .i64 e_6.Then]) rfl (by decide) rfl) (Ax Aa.enc_len (Aq he_6) (o := 0) (m := 2) (by decide) rfl)) rfl rfl ?_
           refine Ao ?_
           refine Da (rd := [0]) rfl rfl (D9 Dd rfl (Ax Aa.enc_len (Aq he_6) (o := 0) (m := 2) (by decide) rfl) He (cs' := [.int .i64 e_7.First, .int .i64 e_7.Then]) (.cons .int (.cons .int .nil)) (Dm Aa.enc_len (Aq he_6) (o := 0) (x' := e_7) (Nat.le_of_ble_eq_true rfl) rfl rfl)) rfl rfl ?_
           obtain ⟨e_8, he_8, hg⟩ := Ad hg
           refine Ao ?_
           refine Da (rd := [0]) rfl rfl (D9 Dd rfl (Ax Aa.enc_len (Aq he_8) (o := 0) (m := 2) (by decide) rfl) He (cs' := [.int .i64 e_6.First, .int .i64 e_6.Then]) (.cons .int (.cons .int .nil)) (Dm Aa.enc_len (Aq he_8) (o := 0) (x' := e_6) (Nat.le_of_ble_eq_true rfl) rfl rfl)) rfl rfl ?_
           refine Al fun hU => ?_
           refine Af (Cd _ _ []) 265 289 hU rfl rfl ?_
           refine Ao ?_
           refine Al fun hU => ?_
           obtain rfl := oi_ hg
           exact ⟨((W (j_4 - 1), De (De data_4 ((j_4).toNat) e_7) ((W (j_4 - 1)).toNat) e_6), m4), Nat.lt_succ_self _, hn4, A9 [(0, 0)]⟩
         ·refine B8 ?_
          repeat first | refine Dg ?_ | refine Df ?_
          replace hg := Cr hg hn4
          exact ⟨data_4, hg, A9 [(0, 0)]⟩
        ·refine Ay ?_
         repeat first | refine Dg ?_ | refine Df ?_
         exact ⟨De (De data_1 ((i_2).toNat) e_3) ((W (i_2 - 1)).toNat) e_4, hg, A9 [(0, 0)]⟩
       ·rintro data_5 hg
        replace hg : Ab.j5 b cmp j_1 i_2 data_5 = some o1 := hg
        show Cy _ _ _ _ (mk _ _ _)
        unfold Ab.j5 at hg
        refine Bu 1 33 Bg ?_
        refine Ao ?_
        refine Al fun hU => ?_
        refine D1 rfl hg (fun h28 hg => ?_) fun h28 hg => ?_
        ·refine Aj ?_
         refine Af (Cd _ _ []) 33 57 hU rfl rfl ?_
         refine Ao ?_
         refine Al fun hU => ?_
         refine A3 ?_
         refine Ix (fun ((j_6, data_6) : Int × List Aa) => mk [(0, .row 0), (1, .val (.int .i64 a)), (2, .val (.int .i64 b)), (3, .clo 69 0 []), (9, .val (.int .i64 i_2)), (10, .val (.int .i64 j_1)), (12, .val (.int .i64 j_6))] [(0, .row 122 2 (Av Aa.enc data_6))] 1) hg (A9 [(0, 0)]) ?_
         rintro ⟨j_6, data_6⟩ m6 o6 hg hn6
         replace hg : Ab.l6 b cmp j_1 i_2 j_6 data_6 = some o6 := hg
         show Cy _ _ _ _ (mk _ _ _)
         unfold Ab.l6 at hg
         refine Aj ?_
         refine Bu 1 25 Bg ?_
         refine Ao ?_
         refine Al fun hU => ?_
         refine D1 rfl hg (fun h31 hg => ?_) fun h31 hg => ?_
         ·refine Ay ?_
          repeat first | refine Dg ?_ | refine Df ?_
          refine Aj ?_
          refine A3 ?_
          refine Aj ?_
          refine Aj ?_
          refine Ck (Cd _ _ []) (by kernel_rfl) [0, 0, 0, 6, 14, 0, 0, 64, 224, 480, 1023, 2047, 4095] 25 129 hU rfl rfl (by kernel_rfl) ?_
          refine Ao ?_
          obtain ⟨e_9, he_9, hg⟩ := Ad hg
          refine Ao ?_
          refine Da (rd := [0]) rfl rfl (Ci Dd (Bh Aa.enc_len (Aq he_9) (o := 0) (m := 2) (cs := [.int .i64 e_9.First, .int .i64 e_9.Then]) rfl (by decide) rfl) (Ax Aa.enc_len (Aq he_9) (o := 0) (m := 2) (by decide) rfl)) rfl rfl ?_
          refine Ao ?_
          obtain ⟨e_10, he_10, hg⟩ := Ad hg
          refine Ao ?_
          refine Da (rd := [0]) rfl rfl (Ci Dd (Bh Aa.enc_len (Aq he_10) (o := 0) (m := 2) (cs := [.int .i64 e_10.First, .int .i64 e_10.Then]) rfl (by decide) rfl) (Ax Aa.enc_len (Aq he_10) (o := 0) (m := 2) (by decide) rfl)) rfl rfl ?_
          obtain ⟨y_3, hy_3, hg⟩ := Ad hg
          refine Fg (rd := []) (ps := []) (gs := []) false rfl rfl (hf_cmp e_9 e_10 _ hy_3) rfl rfl (.cons (.agg (.cons .val (.cons .val .nil))) (.cons (.agg (.cons .val (.cons .val .nil))) .nil)) rfl rfl (by intro h; cases h) rfl rfl rfl rfl ?_
          refine Ao ?_
          refine Al fun hU => ?_
          refine D1 rfl hg (fun h33 hg => ?_) fun h33 hg => ?_
          ·refine B8 ?_
           repeat first | refine Dg ?_ | refine Df ?_
           replace hg := Cr hg hn6
           exact ⟨(i_2, data_6), hg, A9 [(0, 0)]⟩
          ·refine Ay ?_
           repeat first | refine Dg ?_ | refine Df ?_
           refine Ck (Cd _ _ []) (by kernel_rfl) [0, 0, 0, 0, 8, 0, 0, 64, 224, 480, 0, 0, 3072, 7168, 16355, 32739, 65535, 131071] 129 273 hU rfl rfl (by kernel_rfl) ?_
           refine Ao ?_
           refine Da (rd := [0]) rfl rfl (Ci Dd (Bh Aa.enc_len (Aq he_10) (o := 0) (m := 2) (cs := [.int .i64 e_10.First, .int .i64 e_10.Then]) rfl (by decide) rfl) (Ax Aa.enc_len (Aq he_10) (o := 0) (m := 2) (by decide) rfl)) rfl rfl ?_
           refine Ao ?_
           refine Da (rd := [0]) rfl rfl (Ci Dd (Bh Aa.enc_len (Aq he_9) (o := 0) (m := 2) (cs := [.int .i64 e_9.First, .int .i64 e_9.Then]) rfl (by decide) rfl) (Ax Aa.enc_len (Aq he_9) (o := 0) (m := 2) (by decide) rfl)) rfl rfl ?_
           refine Ao ?_
           refine Da (rd := [0]) rfl rfl (D9 Dd rfl (Ax Aa.enc_len (Aq he_9) (o := 0) (m := 2) (by decide) rfl) He (cs' := [.int .i64 e_10.First, .int .i64 e_10.Then]) (.cons .int (.cons .int .nil)) (Dm Aa.enc_len (Aq he_9) (o := 0) (x' := e_10) (Nat.le_of_ble_eq_true rfl) rfl rfl)) rfl rfl ?_
           obtain ⟨e_11, he_11, hg⟩ := Ad hg
           refine Ao ?_
           refine Da (rd := [0]) rfl rfl (D9 Dd rfl (Ax Aa.enc_len (Aq he_11) (o := 0) (m := 2) (by decide) rfl) He (cs' := [.int .i64 e_9.First, .int .i64 e_9.Then]) (.cons .int (.cons .int .nil)) (Dm Aa.enc_len (Aq he_11) (o := 0) (x' := e_9) (Nat.le_of_ble_eq_true rfl) rfl rfl)) rfl rfl ?_
           refine Al fun hU => ?_
           refine Af (Cd _ _ []) 273 297 hU rfl rfl ?_
           refine Ao ?_
           refine Al fun hU => ?_
           obtain rfl := oi_ hg
           exact ⟨((W (j_6 + 1), De (De data_6 ((j_6).toNat) e_10) ((W (j_6 - 1)).toNat) e_9), m6), Nat.lt_succ_self _, hn6, A9 [(0, 0)]⟩
         ·refine B8 ?_
          repeat first | refine Dg ?_ | refine Df ?_
          replace hg := Cr hg hn6
          exact ⟨(i_2, data_6), hg, A9 [(0, 0)]⟩
        ·refine Ay ?_
         repeat first | refine Dg ?_ | refine Df ?_
         exact ⟨(i_2, data_5), hg, A9 [(0, 0)]⟩
  ·rintro ⟨i_7, data_7⟩ hg
   replace hg : Ab.j7 j_1 i_7 data_7 = some o1 := hg
   show Cy _ _ _ _ (mk _ _ _)
   unfold Ab.j7 at hg
   refine Af (Cd _ _ []) 1 25 Bg rfl rfl ?_
   refine Ao ?_
   refine Al fun hU => ?_
   obtain rfl := oi_ hg
   exact ⟨((i_7, W (j_1 + 1), data_7), m1), Nat.lt_succ_self _, hn1, A9 [(0, 0)]⟩
 ·refine B8 ?_
  repeat first | refine Dg ?_ | refine Df ?_
  replace hg := Cr hg hn1
  refine Bu 17 25 hU ?_
  refine Ao ?_
  refine Al fun hU => ?_
  refine Bv ?_
  obtain rfl := oi_ hg
  exact Bt [(0, 0)] ⟨rfl, rfl⟩
theorem G6 (data : List Aa) (a : Int) (b : Int) (pivot : Int) (cmp : Aa -> Aa -> Option (Int)) (hf_cmp : ∀ (x0 : Aa) (x1 : Aa) (y : Int), cmp x0 x1 = some y -> Fn Tryz.prog 69 0 [.agg [.val (.int .i64 x0.First), .val (.int .i64 x0.Then)], .agg [.val (.int .i64 x1.First), .val (.int .i64 x1.Then)]] [] (fun d' b' => d' = .val (.int .i64 y) /\ b' = [])) (r : Int × (List Aa)) (hg : Ap data a b pivot cmp = some r) : Fn Tryz.prog 131 1 [.row 0, .val (.int .i64 a), .val (.int .i64 b), .val (.int .i64 pivot), .clo 69 0 []] [.row 122 2 (Av Aa.enc data)] (fun d' b' => d' = .val (.int .i64 r.1) /\ b' = [.row 122 2 (Av Aa.enc r.2)]) := by
 unfold Ap at hg
 refine Fn.of Tryz.func131 rfl rfl rfl fun w0 I ρ0 => ?_
 show Cy _ ⟨w0, I, ρ0, 1, 1, 90⟩ _ _ _
 refine Bu 1 9 Bg ?_
 refine Ao ?_
 refine Al fun hU => ?_
 refine Aj ?_
 refine Ck (Cd _ _ []) (by kernel_rfl) [0, 0, 0, 0, 0, 0, 48, 112, 0, 0, 768, 1792, 4083, 8179, 16383, 32767] 9 137 hU rfl rfl (by kernel_rfl) ?_
 refine Ao ?_
 obtain ⟨e, he, hg⟩ := Ad hg
 refine Ao ?_
 refine Da (rd := [0]) rfl rfl (Ci Dd (Bh Aa.enc_len (Aq he) (o := 0) (m := 2) (cs := [.int .i64 e.First, .int .i64 e.Then]) rfl (by decide) rfl) (Ax Aa.enc_len (Aq he) (o := 0) (m := 2) (by decide) rfl)) rfl rfl ?_
 refine Ao ?_
 obtain ⟨e_2, he_2, hg⟩ := Ad hg
 refine Ao ?_
 refine Da (rd := [0]) rfl rfl (Ci Dd (Bh Aa.enc_len (Aq he_2) (o := 0) (m := 2) (cs := [.int .i64 e_2.First, .int .i64 e_2.Then]) rfl (by decide) rfl) (Ax Aa.enc_len (Aq he_2) (o := 0) (m := 2) (by decide) rfl)) rfl rfl ?_
 refine Ao ?_
 refine Da (rd := [0]) rfl rfl (D9 Dd rfl (Ax Aa.enc_len (Aq he_2) (o := 0) (m := 2) (by decide) rfl) He (cs' := [.int .i64 e.First, .int .i64 e.Then]) (.cons .int (.cons .int .nil)) (Dm Aa.enc_len (Aq he_2) (o := 0) (x' := e) (Nat.le_of_ble_eq_true rfl) rfl rfl)) rfl rfl ?_
 obtain ⟨e_3, he_3, hg⟩ := Ad hg
 refine Ao ?_
 refine Da (rd := [0]) rfl rfl (D9 Dd rfl (Ax Aa.enc_len (Aq he_3) (o := 0) (m := 2) (by decide) rfl) He (cs' := [.int .i64 e_2.First, .int .i64 e_2.Then]) (.cons .int (.cons .int .nil)) (Dm Aa.enc_len (Aq he_3) (o := 0) (x' := e_2) (Nat.le_of_ble_eq_true rfl) rfl rfl)) rfl rfl ?_
 refine Al fun hU => ?_
 refine Bu 137 185 hU ?_
 refine Ao ?_
 refine Al fun hU => ?_
 refine Aj ?_
 refine A3 ?_
 refine Ix (fun ((i_1, j_1, data_1) : Int × Int × List Aa) => mk [(0, .row 0), (1, .val (.int .i64 a)), (4, .clo 69 0 []), (11, .val (.int .i64 i_1)), (12, .val (.int .i64 j_1))] [(0, .row 122 2 (Av Aa.enc data_1))] 1) hg (A9 [(0, 0)]) ?_
 rintro ⟨i_1, j_1, data_1⟩ m1 o1 hg hn1
 replace hg : Ap.l1 a cmp i_1 j_1 data_1 = some o1 := hg
 show Cy _ _ _ _ (mk _ _ _)
 unfold Ap.l1 at hg
 refine A3 ?_
 refine Aj ?_
 refine A3 ?_
 refine Ix (fun (i_2 : Int) => mk [(0, .row 0), (1, .val (.int .i64 a)), (4, .clo 69 0 []), (11, .val (.int .i64 i_2)), (12, .val (.int .i64 j_1))] [(0, .row 122 2 (Av Aa.enc data_1))] 1) hg (A9 [(0, 0)]) ?_
 rintro i_2 m2 o2 hg hn2
 replace hg : Ap.l2 a cmp j_1 data_1 i_2 = some o2 := hg
 show Cy _ _ _ _ (mk _ _ _)
 unfold Ap.l2 at hg
 refine Aj ?_
 refine B7 (ι := Bool) (fun (x47_3 : Bool) => mk [(0, .row 0), (1, .val (.int .i64 a)), (4, .clo 69 0 []), (11, .val (.int .i64 i_2)), (12, .val (.int .i64 j_1)), (47, .val (.bool x47_3))] [(0, .row 122 2 (Av Aa.enc data_1))] 1) (fun (x47_3 : Bool) => Ap.j3 a cmp j_1 data_1 i_2 x47_3 = some o2) ?_ ?_
 ·refine Ck (Cd _ _ []) (by kernel_rfl) [0, 0, 3, 7, 15, 15, 15, 111, 239, 15, 15, 1551, 3599, 8191, 16383, 32767, 65535] 1 137 Bg rfl rfl (by kernel_rfl) ?_
  refine Ao ?_
  rcases E8 hg with ⟨h4, hg⟩ | ⟨h4, hg⟩
  ·refine Ao ?_
   obtain ⟨e_4, he_4, hg⟩ := Ad hg
   refine Ao ?_
   refine Da (rd := [0]) (Cj rfl rfl h4) rfl (Ci Dd (Bh Aa.enc_len (Aq he_4) (o := 0) (m := 2) (cs := [.int .i64 e_4.First, .int .i64 e_4.Then]) rfl (by decide) rfl) (Ax Aa.enc_len (Aq he_4) (o := 0) (m := 2) (by decide) rfl)) rfl rfl ?_
   refine Ao ?_
   obtain ⟨e_5, he_5, hg⟩ := Ad hg
   refine Ao ?_
   refine Da (rd := [0]) (Cj rfl rfl h4) rfl (Ci Dd (Bh Aa.enc_len (Aq he_5) (o := 0) (m := 2) (cs := [.int .i64 e_5.First, .int .i64 e_5.Then]) rfl (by decide) rfl) (Ax Aa.enc_len (Aq he_5) (o := 0) (m := 2) (by decide) rfl)) rfl rfl ?_
   obtain ⟨y, hy, hg⟩ := Ad hg
   refine Fg (rd := []) (ps := []) (gs := []) false (Cj rfl rfl h4) rfl (hf_cmp e_4 e_5 _ hy) rfl rfl (.cons (.agg (.cons .val (.cons .val .nil))) (.cons (.agg (.cons .val (.cons .val .nil))) .nil)) rfl rfl (by intro h; cases h) rfl rfl rfl rfl ?_
   refine Ao ?_
   refine Al fun hU => ?_
   exact ⟨!(decide (y < 0)), hg, A9 [(0, 0)]⟩
  ·refine Ao ?_
   refine Al fun hU => ?_
   exact ⟨false, hg, A9 [(0, 0)]⟩
 ·rintro x47_3 hg
  replace hg : Ap.j3 a cmp j_1 data_1 i_2 x47_3 = some o2 := hg
  show Cy _ _ _ _ (mk _ _ _)
  unfold Ap.j3 at hg
  refine D1 rfl hg (fun h7 hg => ?_) fun h7 hg => ?_
  ·refine Ay ?_
   repeat first | refine Dg ?_ | refine Df ?_
   refine A3 ?_
   refine Af (Cd _ _ []) 1 25 Bg rfl rfl ?_
   refine Ao ?_
   refine Al fun hU => ?_
   obtain rfl := oi_ hg
   exact ⟨(W (i_2 + 1), m2), Nat.lt_succ_self _, hn2, A9 [(0, 0)]⟩
  ·refine B8 ?_
   repeat first | refine Dg ?_ | refine Df ?_
   replace hg := Cr hg hn2
   refine Aj ?_
   refine A3 ?_
   refine Ix (fun (j_4 : Int) => mk [(0, .row 0), (1, .val (.int .i64 a)), (4, .clo 69 0 []), (11, .val (.int .i64 i_2)), (12, .val (.int .i64 j_4))] [(0, .row 122 2 (Av Aa.enc data_1))] 1) hg (A9 [(0, 0)]) ?_
   rintro j_4 m4 o4 hg hn4
   replace hg : Ap.l4 a cmp data_1 i_2 j_4 = some o4 := hg
   show Cy _ _ _ _ (mk _ _ _)
   unfold Ap.l4 at hg
   refine Aj ?_
   refine B7 (ι := Bool) (fun (x65_5 : Bool) => mk [(0, .row 0), (1, .val (.int .i64 a)), (4, .clo 69 0 []), (11, .val (.int .i64 i_2)), (12, .val (.int .i64 j_4)), (65, .val (.bool x65_5))] [(0, .row 122 2 (Av Aa.enc data_1))] 1) (fun (x65_5 : Bool) => Ap.j5 data_1 i_2 j_4 x65_5 = some o4) ?_ ?_
   ·refine Ck (Cd _ _ []) (by kernel_rfl) [0, 0, 3, 7, 15, 15, 15, 111, 239, 15, 15, 1551, 3599, 8191, 16383, 32767] 1 129 Bg rfl rfl (by kernel_rfl) ?_
    refine Ao ?_
    rcases E8 hg with ⟨h9, hg⟩ | ⟨h9, hg⟩
    ·refine Ao ?_
     obtain ⟨e_6, he_6, hg⟩ := Ad hg
     refine Ao ?_
     refine Da (rd := [0]) (Cj rfl rfl h9) rfl (Ci Dd (Bh Aa.enc_len (Aq he_6) (o := 0) (m := 2) (cs := [.int .i64 e_6.First, .int .i64 e_6.Then]) rfl (by decide) rfl) (Ax Aa.enc_len (Aq he_6) (o := 0) (m := 2) (by decide) rfl)) rfl rfl ?_
     refine Ao ?_
     obtain ⟨e_7, he_7, hg⟩ := Ad hg
     refine Ao ?_
     refine Da (rd := [0]) (Cj rfl rfl h9) rfl (Ci Dd (Bh Aa.enc_len (Aq he_7) (o := 0) (m := 2) (cs := [.int .i64 e_7.First, .int .i64 e_7.Then]) rfl (by decide) rfl) (Ax Aa.enc_len (Aq he_7) (o := 0) (m := 2) (by decide) rfl)) rfl rfl ?_
     obtain ⟨y_2, hy_2, hg⟩ := Ad hg
     refine Fg (rd := []) (ps := []) (gs := []) false (Cj rfl rfl h9) rfl (hf_cmp e_6 e_7 _ hy_2) rfl rfl (.cons (.agg (.cons .val (.cons .val .nil))) (.cons (.agg (.cons .val (.cons .val .nil))) .nil)) rfl rfl (by intro h; cases h) rfl rfl rfl rfl ?_
     refine Ao ?_
     refine Al fun hU => ?_
     exact ⟨decide (y_2 < 0), hg, A9 [(0, 0)]⟩
    ·refine Ao ?_
     refine Al fun hU => ?_
     exact ⟨false, hg, A9 [(0, 0)]⟩
   ·rintro x65_5 hg
    replace hg : Ap.j5 data_1 i_2 j_4 x65_5 = some o4 := hg
    show Cy _ _ _ _ (mk _ _ _)
    unfold Ap.j5 at hg
    refine D1 rfl hg (fun h12 hg => ?_) fun h12 hg => ?_
    ·refine Ay ?_
     repeat first | refine Dg ?_ | refine Df ?_
     refine A3 ?_
     refine Af (Cd _ _ []) 1 25 Bg rfl rfl ?_
     refine Ao ?_
     refine Al fun hU => ?_
     obtain rfl := oi_ hg
     exact ⟨(W (j_4 - 1), m4), Nat.lt_succ_self _, hn4, A9 [(0, 0)]⟩
    ·refine B8 ?_
     repeat first | refine Dg ?_ | refine Df ?_
     replace hg := Cr hg hn4
     refine Aj ?_
     refine Bu 1 25 Bg ?_
     refine Ao ?_
     refine Al fun hU => ?_
     refine D1 rfl hg (fun h15 hg => ?_) fun h15 hg => ?_
     ·refine B8 ?_
      repeat first | refine Dg ?_ | refine Df ?_
      replace hg := Cr hg hn1
      refine Bu 25 41 hU ?_
      refine Ao ?_
      refine Al fun hU => ?_
      refine Bv ?_
      obtain rfl := oi_ hg
      exact Bt [(0, 0)] ⟨rfl, rfl⟩
     ·refine Ay ?_
      repeat first | refine Dg ?_ | refine Df ?_
      refine Aj ?_
      refine Ck (Cd _ _ []) (by kernel_rfl) [0, 0, 0, 0, 0, 0, 48, 112, 0, 0, 768, 1792, 4083, 8179, 16383, 32767] 25 153 hU rfl rfl (by kernel_rfl) ?_
      refine Ao ?_
      obtain ⟨e_8, he_8, hg⟩ := Ad hg
      refine Ao ?_
      refine Da (rd := [0]) rfl rfl (Ci Dd (Bh Aa.enc_len (Aq he_8) (o := 0) (m := 2) (cs := [.int .i64 e_8.First, .int .i64 e_8.Then]) rfl (by decide) rfl) (Ax Aa.enc_len (Aq he_8) (o := 0) (m := 2) (by decide) rfl)) rfl rfl ?_
      refine Ao ?_
      obtain ⟨e_9, he_9, hg⟩ := Ad hg
      refine Ao ?_
      refine Da (rd := [0]) rfl rfl (Ci Dd (Bh Aa.enc_len (Aq he_9) (o := 0) (m := 2) (cs := [.int .i64 e_9.First, .int .i64 e_9.Then]) rfl (by decide) rfl) (Ax Aa.enc_len (Aq he_9) (o := 0) (m := 2) (by decide) rfl)) rfl rfl ?_
      refine Ao ?_
      refine Da (rd := [0]) rfl rfl (D9 Dd rfl (Ax Aa.enc_len (Aq he_9) (o := 0) (m := 2) (by decide) rfl) He (cs' := [.int .i64 e_8.First, .int .i64 e_8.Then]) (.cons .int (.cons .int .nil)) (Dm Aa.enc_len (Aq he_9) (o := 0) (x' := e_8) (Nat.le_of_ble_eq_true rfl) rfl rfl)) rfl rfl ?_
      obtain ⟨e_10, he_10, hg⟩ := Ad hg
      refine Ao ?_
      refine Da (rd := [0]) rfl rfl (D9 Dd rfl (Ax Aa.enc_len (Aq he_10) (o := 0) (m := 2) (by decide) rfl) He (cs' := [.int .i64 e_9.First, .int .i64 e_9.Then]) (.cons .int (.cons .int .nil)) (Dm Aa.enc_len (Aq he_10) (o := 0) (x' := e_9) (Nat.le_of_ble_eq_true rfl) rfl rfl)) rfl rfl ?_
      refine Al fun hU => ?_
      refine Bu 153 177 hU ?_
      refine Ao ?_
      refine Al fun hU => ?_
      refine Af (Cd _ _ []) 177 201 hU rfl rfl ?_
      refine Ao ?_
      refine Al fun hU => ?_
      obtain rfl := oi_ hg
      exact ⟨((W (i_2 + 1), W (j_4 - 1), De (De data_1 ((i_2).toNat) e_8) ((j_4).toNat) e_9), m1), Nat.lt_succ_self _, hn1, A9 [(0, 0)]⟩
theorem Hp (data : List Aa) (a : Int) (b : Int) (pivot : Int) (cmp : Aa -> Aa -> Option (Int)) (hf_cmp : ∀ (x0 : Aa) (x1 : Aa) (y : Int), cmp x0 x1 = some y -> Fn Tryz.prog 69 0 [.agg [.val (.int .i64 x0.First), .val (.int .i64 x0.Then)], .agg [.val (.int .i64 x1.First), .val (.int .i64 x1.Then)]] [] (fun d' b' => d' = .val (.int .i64 y) /\ b' = [])) (r : Int × Bool × (List Aa)) (hg : Ai data a b pivot cmp = some r) : Fn Tryz.prog 132 1 [.row 0, .val (.int .i64 a), .val (.int .i64 b), .val (.int .i64 pivot), .clo 69 0 []] [.row 122 2 (Av Aa.enc data)] (fun d' b' => d' = .tup [.val (.int .i64 r.1), .val (.bool r.2.1)] /\ b' = [.row 122 2 (Av Aa.enc r.2.2)]) := by
 unfold Ai at hg
 refine Fn.of Tryz.func132 rfl rfl rfl fun w0 I ρ0 => ?_
 show Cy _ ⟨w0, I, ρ0, 1, 1, 178⟩ _ _ _
 refine Bu 1 17 Bg ?_
 refine Ao ?_
 refine Al fun hU => ?_
 refine Aj ?_
 refine Ck (Cd _ _ []) (by kernel_rfl) [0, 0, 0, 0, 0, 0, 48, 112, 0, 0, 768, 1792, 4083, 8179, 16383, 32767] 17 145 hU rfl rfl (by kernel_rfl) ?_
 refine Ao ?_
 obtain ⟨e, he, hg⟩ := Ad hg
 refine Ao ?_
 refine Da (rd := [0]) rfl rfl (Ci Dd (Bh Aa.enc_len (Aq he) (o := 0) (m := 2) (cs := [.int .i64 e.First, .int .i64 e.Then]) rfl (by decide) rfl) (Ax Aa.enc_len (Aq he) (o := 0) (m := 2) (by decide) rfl)) rfl rfl ?_
 refine Ao ?_
 obtain ⟨e_2, he_2, hg⟩ := Ad hg
 refine Ao ?_
 refine Da (rd := [0]) rfl rfl (Ci Dd (Bh Aa.enc_len (Aq he_2) (o := 0) (m := 2) (cs := [.int .i64 e_2.First, .int .i64 e_2.Then]) rfl (by decide) rfl) (Ax Aa.enc_len (Aq he_2) (o := 0) (m := 2) (by decide) rfl)) rfl rfl ?_
 refine Ao ?_
 refine Da (rd := [0]) rfl rfl (D9 Dd rfl (Ax Aa.enc_len (Aq he_2) (o := 0) (m := 2) (by decide) rfl) He (cs' := [.int .i64 e.First, .int .i64 e.Then]) (.cons .int (.cons .int .nil)) (Dm Aa.enc_len (Aq he_2) (o := 0) (x' := e) (Nat.le_of_ble_eq_true rfl) rfl rfl)) rfl rfl ?_
 obtain ⟨e_3, he_3, hg⟩ := Ad hg
 refine Ao ?_
 refine Da (rd := [0]) rfl rfl (D9 Dd rfl (Ax Aa.enc_len (Aq he_3) (o := 0) (m := 2) (by decide) rfl) He (cs' := [.int .i64 e_2.First, .int .i64 e_2.Then]) (.cons .int (.cons .int .nil)) (Dm Aa.enc_len (Aq he_3) (o := 0) (x' := e_2) (Nat.le_of_ble_eq_true rfl) rfl rfl)) rfl rfl ?_
 refine Al fun hU => ?_
 refine Bu 145 193 hU ?_
 refine Ao ?_
 refine Al fun hU => ?_
 refine Aj ?_
 refine A3 ?_
 refine Ix (fun (i_1 : Int) => mk [(0, .row 0), (1, .val (.int .i64 a)), (4, .clo 69 0 []), (12, .val (.int .i64 i_1)), (13, .val (.int .i64 (W (b - 1))))] [(0, .row 122 2 (Av Aa.enc (De (De data ((a).toNat) e) ((pivot).toNat) e_2)))] 1) hg (A9 [(0, 0)]) ?_
 rintro i_1 m1 o1 hg hn1
 replace hg : Ai.l1 data a b pivot cmp e e_2 i_1 = some o1 := hg
 show Cy _ _ _ _ (mk _ _ _)
 unfold Ai.l1 at hg
 refine Aj ?_
 refine B7 (ι := Bool) (fun (x47_2 : Bool) => mk [(0, .row 0), (1, .val (.int .i64 a)), (4, .clo 69 0 []), (12, .val (.int .i64 i_1)), (13, .val (.int .i64 (W (b - 1)))), (47, .val (.bool x47_2))] [(0, .row 122 2 (Av Aa.enc (De (De data ((a).toNat) e) ((pivot).toNat) e_2)))] 1) (fun (x47_2 : Bool) => Ai.j2 data a b pivot cmp e e_2 i_1 x47_2 = some o1) ?_ ?_
 ·refine Ck (Cd _ _ []) (by kernel_rfl) [0, 0, 3, 7, 15, 15, 15, 111, 239, 15, 15, 1551, 3599, 8191, 16383, 32767] 1 129 Bg rfl rfl (by kernel_rfl) ?_
  refine Ao ?_
  rcases E8 hg with ⟨h4, hg⟩ | ⟨h4, hg⟩
  ·refine Ao ?_
   obtain ⟨e_4, he_4, hg⟩ := Ad hg
   refine Ao ?_
   refine Da (rd := [0]) (Cj rfl rfl h4) rfl (Ci Dd (Bh Aa.enc_len (Aq he_4) (o := 0) (m := 2) (cs := [.int .i64 e_4.First, .int .i64 e_4.Then]) rfl (by decide) rfl) (Ax Aa.enc_len (Aq he_4) (o := 0) (m := 2) (by decide) rfl)) rfl rfl ?_
   refine Ao ?_
   obtain ⟨e_5, he_5, hg⟩ := Ad hg
   refine Ao ?_
   refine Da (rd := [0]) (Cj rfl rfl h4) rfl (Ci Dd (Bh Aa.enc_len (Aq he_5) (o := 0) (m := 2) (cs := [.int .i64 e_5.First, .int .i64 e_5.Then]) rfl (by decide) rfl) (Ax Aa.enc_len (Aq he_5) (o := 0) (m := 2) (by decide) rfl)) rfl rfl ?_
   obtain ⟨y, hy, hg⟩ := Ad hg
   refine Fg (rd := []) (ps := []) (gs := []) false (Cj rfl rfl h4) rfl (hf_cmp e_4 e_5 _ hy) rfl rfl (.cons (.agg (.cons .val (.cons .val .nil))) (.cons (.agg (.cons .val (.cons .val .nil))) .nil)) rfl rfl (by intro h; cases h) rfl rfl rfl rfl ?_
   refine Ao ?_
   refine Al fun hU => ?_
   exact ⟨decide (y < 0), hg, A9 [(0, 0)]⟩
  ·refine Ao ?_
   refine Al fun hU => ?_
   exact ⟨false, hg, A9 [(0, 0)]⟩
 ·rintro x47_2 hg
  replace hg : Ai.j2 data a b pivot cmp e e_2 i_1 x47_2 = some o1 := hg
  show Cy _ _ _ _ (mk _ _ _)
  unfold Ai.j2 at hg
  refine D1 rfl hg (fun h7 hg => ?_) fun h7 hg => ?_
  ·refine Ay ?_
   repeat first | refine Dg ?_ | refine Df ?_
   refine A3 ?_
   refine Af (Cd _ _ []) 1 25 Bg rfl rfl ?_
   refine Ao ?_
   refine Al fun hU => ?_
   obtain rfl := oi_ hg
   exact ⟨(W (i_1 + 1), m1), Nat.lt_succ_self _, hn1, A9 [(0, 0)]⟩
  ·refine B8 ?_
   repeat first | refine Dg ?_ | refine Df ?_
   replace hg := Cr hg hn1
   refine Aj ?_
   refine A3 ?_
   refine Ix (fun (j_3 : Int) => mk [(0, .row 0), (1, .val (.int .i64 a)), (4, .clo 69 0 []), (12, .val (.int .i64 i_1)), (13, .val (.int .i64 j_3))] [(0, .row 122 2 (Av Aa.enc (De (De data ((a).toNat) e) ((pivot).toNat) e_2)))] 1) hg (A9 [(0, 0)]) ?_
   rintro j_3 m3 o3 hg hn3
   replace hg : Ai.l3 data a pivot cmp e e_2 i_1 j_3 = some o3 := hg
   show Cy _ _ _ _ (mk _ _ _)
   unfold Ai.l3 at hg
   refine Aj ?_
   refine B7 (ι := Bool) (fun (x66_4 : Bool) => mk [(0, .row 0), (1, .val (.int .i64 a)), (4, .clo 69 0 []), (12, .val (.int .i64 i_1)), (13, .val (.int .i64 j_3)), (66, .val (.bool x66_4))] [(0, .row 122 2 (Av Aa.enc (De (De data ((a).toNat) e) ((pivot).toNat) e_2)))] 1) (fun (x66_4 : Bool) => Ai.j4 data a pivot cmp e e_2 i_1 j_3 x66_4 = some o3) ?_ ?_
   ·refine Ck (Cd _ _ []) (by kernel_rfl) [0, 0, 3, 7, 15, 15, 15, 111, 239, 15, 15, 1551, 3599, 8191, 16383, 32767, 65535] 1 137 Bg rfl rfl (by kernel_rfl) ?_
    refine Ao ?_
    rcases E8 hg with ⟨h9, hg⟩ | ⟨h9, hg⟩
    ·refine Ao ?_
     obtain ⟨e_6, he_6, hg⟩ := Ad hg
     refine Ao ?_
     refine Da (rd := [0]) (Cj rfl rfl h9) rfl (Ci Dd (Bh Aa.enc_len (Aq he_6) (o := 0) (m := 2) (cs := [.int .i64 e_6.First, .int .i64 e_6.Then]) rfl (by decide) rfl) (Ax Aa.enc_len (Aq he_6) (o := 0) (m := 2) (by decide) rfl)) rfl rfl ?_
     refine Ao ?_
     obtain ⟨e_7, he_7, hg⟩ := Ad hg
     refine Ao ?_
     refine Da (rd := [0]) (Cj rfl rfl h9) rfl (Ci Dd (Bh Aa.enc_len (Aq he_7) (o := 0) (m := 2) (cs := [.int .i64 e_7.First, .int .i64 e_7.Then]) rfl (by decide) rfl) (Ax Aa.enc_len (Aq he_7) (o := 0) (m := 2) (by decide) rfl)) rfl rfl ?_
     obtain ⟨y_2, hy_2, hg⟩ := Ad hg
     refine Fg (rd := []) (ps := []) (gs := []) false (Cj rfl rfl h9) rfl (hf_cmp e_6 e_7 _ hy_2) rfl rfl (.cons (.agg (.cons .val (.cons .val .nil))) (.cons (.agg (.cons .val (.cons .val .nil))) .nil)) rfl rfl (by intro h; cases h) rfl rfl rfl rfl ?_
     refine Ao ?_
     refine Al fun hU => ?_
     exact ⟨!(decide (y_2 < 0)), hg, A9 [(0, 0)]⟩
    ·refine Ao ?_
     refine Al fun hU => ?_
     exact ⟨false, hg, A9 [(0, 0)]⟩
   ·rintro x66_4 hg
    replace hg : Ai.j4 data a pivot cmp e e_2 i_1 j_3 x66_4 = some o3 := hg
    show Cy _ _ _ _ (mk _ _ _)
    unfold Ai.j4 at hg
    refine D1 rfl hg (fun h12 hg => ?_) fun h12 hg => ?_
    ·refine Ay ?_
     repeat first | refine Dg ?_ | refine Df ?_
     refine A3 ?_
     refine Af (Cd _ _ []) 1 25 Bg rfl rfl ?_
     refine Ao ?_
     refine Al fun hU => ?_
     obtain rfl := oi_ hg
     exact ⟨(W (j_3 - 1), m3), Nat.lt_succ_self _, hn3, A9 [(0, 0)]⟩
    ·refine B8 ?_
     repeat first | refine Dg ?_ | refine Df ?_
     replace hg := Cr hg hn3
     refine Aj ?_
     refine Bu 1 25 Bg ?_
     refine Ao ?_
     refine Al fun hU => ?_
     refine D1 rfl hg (fun h15 hg => ?_) fun h15 hg => ?_
     ·refine Aj ?_
      refine Ck (Cd _ _ []) (by kernel_rfl) [0, 0, 0, 0, 0, 0, 48, 112, 0, 0, 768, 1792, 4083, 8179, 16383, 32767] 25 153 hU rfl rfl (by kernel_rfl) ?_
      refine Ao ?_
      obtain ⟨e_8, he_8, hg⟩ := Ad hg
      refine Ao ?_
      refine Da (rd := [0]) rfl rfl (Ci Dd (Bh Aa.enc_len (Aq he_8) (o := 0) (m := 2) (cs := [.int .i64 e_8.First, .int .i64 e_8.Then]) rfl (by decide) rfl) (Ax Aa.enc_len (Aq he_8) (o := 0) (m := 2) (by decide) rfl)) rfl rfl ?_
      refine Ao ?_
      obtain ⟨e_9, he_9, hg⟩ := Ad hg
      refine Ao ?_
      refine Da (rd := [0]) rfl rfl (Ci Dd (Bh Aa.enc_len (Aq he_9) (o := 0) (m := 2) (cs := [.int .i64 e_9.First, .int .i64 e_9.Then]) rfl (by decide) rfl) (Ax Aa.enc_len (Aq he_9) (o := 0) (m := 2) (by decide) rfl)) rfl rfl ?_
      refine Ao ?_
      refine Da (rd := [0]) rfl rfl (D9 Dd rfl (Ax Aa.enc_len (Aq he_9) (o := 0) (m := 2) (by decide) rfl) He (cs' := [.int .i64 e_8.First, .int .i64 e_8.Then]) (.cons .int (.cons .int .nil)) (Dm Aa.enc_len (Aq he_9) (o := 0) (x' := e_8) (Nat.le_of_ble_eq_true rfl) rfl rfl)) rfl rfl ?_
      obtain ⟨e_10, he_10, hg⟩ := Ad hg
      refine Ao ?_
      refine Da (rd := [0]) rfl rfl (D9 Dd rfl (Ax Aa.enc_len (Aq he_10) (o := 0) (m := 2) (by decide) rfl) He (cs' := [.int .i64 e_9.First, .int .i64 e_9.Then]) (.cons .int (.cons .int .nil)) (Dm Aa.enc_len (Aq he_10) (o := 0) (x' := e_9) (Nat.le_of_ble_eq_true rfl) rfl rfl)) rfl rfl ?_
      refine Al fun hU => ?_
      refine Bu 153 177 hU ?_
      refine Ao ?_
      refine Al fun hU => ?_
      refine Bv ?_
      obtain rfl := oi_ hg
      exact Bt [(0, 0)] ⟨rfl, rfl⟩
     ·refine Ay ?_
      repeat first | refine Dg ?_ | refine Df ?_
      refine Aj ?_
      refine Ck (Cd _ _ []) (by kernel_rfl) [0, 0, 0, 0, 0, 0, 48, 112, 0, 0, 768, 1792, 4083, 8179, 16383, 32767] 25 153 hU rfl rfl (by kernel_rfl) ?_
      refine Ao ?_
      obtain ⟨e_11, he_11, hg⟩ := Ad hg
      refine Ao ?_
      refine Da (rd := [0]) rfl rfl (Ci Dd (Bh Aa.enc_len (Aq he_11) (o := 0) (m := 2) (cs := [.int .i64 e_11.First, .int .i64 e_11.Then]) rfl (by decide) rfl) (Ax Aa.enc_len (Aq he_11) (o := 0) (m := 2) (by decide) rfl)) rfl rfl ?_
      refine Ao ?_
      obtain ⟨e_12, he_12, hg⟩ := Ad hg
      refine Ao ?_
      refine Da (rd := [0]) rfl rfl (Ci Dd (Bh Aa.enc_len (Aq he_12) (o := 0) (m := 2) (cs := [.int .i64 e_12.First, .int .i64 e_12.Then]) rfl (by decide) rfl) (Ax Aa.enc_len (Aq he_12) (o := 0) (m := 2) (by decide) rfl)) rfl rfl ?_
      refine Ao ?_
      refine Da (rd := [0]) rfl rfl (D9 Dd rfl (Ax Aa.enc_len (Aq he_12) (o := 0) (m := 2) (by decide) rfl) He (cs' := [.int .i64 e_11.First, .int .i64 e_11.Then]) (.cons .int (.cons .int .nil)) (Dm Aa.enc_len (Aq he_12) (o := 0) (x' := e_11) (Nat.le_of_ble_eq_true rfl) rfl rfl)) rfl rfl ?_
      obtain ⟨e_13, he_13, hg⟩ := Ad hg
      refine Ao ?_
      refine Da (rd := [0]) rfl rfl (D9 Dd rfl (Ax Aa.enc_len (Aq he_13) (o := 0) (m := 2) (by decide) rfl) He (cs' := [.int .i64 e_12.First, .int .i64 e_12.Then]) (.cons .int (.cons .int .nil)) (Dm Aa.enc_len (Aq he_13) (o := 0) (x' := e_12) (Nat.le_of_ble_eq_true rfl) rfl rfl)) rfl rfl ?_
      refine Al fun hU => ?_
      refine Bu 153 177 hU ?_
      refine Ao ?_
      refine Al fun hU => ?_
      refine Bu 177 201 hU ?_
      refine Ao ?_
      refine Al fun hU => ?_
      refine Aj ?_
      refine A3 ?_
      refine Ix (fun ((i_5, j_5, data_5) : Int × Int × List Aa) => mk [(0, .row 0), (1, .val (.int .i64 a)), (4, .clo 69 0 []), (12, .val (.int .i64 i_5)), (13, .val (.int .i64 j_5))] [(0, .row 122 2 (Av Aa.enc data_5))] 1) hg (A9 [(0, 0)]) ?_
      rintro ⟨i_5, j_5, data_5⟩ m5 o5 hg hn5
      replace hg : Ai.l5 a cmp i_5 j_5 data_5 = some o5 := hg
      show Cy _ _ _ _ (mk _ _ _)
      unfold Ai.l5 at hg
      refine A3 ?_
      refine Aj ?_
      refine A3 ?_
      refine Ix (fun (i_6 : Int) => mk [(0, .row 0), (1, .val (.int .i64 a)), (4, .clo 69 0 []), (12, .val (.int .i64 i_6)), (13, .val (.int .i64 j_5))] [(0, .row 122 2 (Av Aa.enc data_5))] 1) hg (A9 [(0, 0)]) ?_
      rintro i_6 m6 o6 hg hn6
      replace hg : Ai.l6 a cmp j_5 data_5 i_6 = some o6 := hg
      show Cy _ _ _ _ (mk _ _ _)
      unfold Ai.l6 at hg
      refine Aj ?_
      refine B7 (ι := Bool) (fun (x120_7 : Bool) => mk [(0, .row 0), (1, .val (.int .i64 a)), (4, .clo 69 0 []), (12, .val (.int .i64 i_6)), (13, .val (.int .i64 j_5)), (120, .val (.bool x120_7))] [(0, .row 122 2 (Av Aa.enc data_5))] 1) (fun (x120_7 : Bool) => Ai.j7 a cmp j_5 data_5 i_6 x120_7 = some o6) ?_ ?_
      ·refine Ck (Cd _ _ []) (by kernel_rfl) [0, 0, 3, 7, 15, 15, 15, 111, 239, 15, 15, 1551, 3599, 8191, 16383, 32767] 1 129 Bg rfl rfl (by kernel_rfl) ?_
       refine Ao ?_
       rcases E8 hg with ⟨h21, hg⟩ | ⟨h21, hg⟩
       ·refine Ao ?_
        obtain ⟨e_14, he_14, hg⟩ := Ad hg
        refine Ao ?_
        refine Da (rd := [0]) (Cj rfl rfl h21) rfl (Ci Dd (Bh Aa.enc_len (Aq he_14) (o := 0) (m := 2) (cs := [.int .i64 e_14.First, .int .i64 e_14.Then]) rfl (by decide) rfl) (Ax Aa.enc_len (Aq he_14) (o := 0) (m := 2) (by decide) rfl)) rfl rfl ?_
        refine Ao ?_
        obtain ⟨e_15, he_15, hg⟩ := Ad hg
        refine Ao ?_
        refine Da (rd := [0]) (Cj rfl rfl h21) rfl (Ci Dd (Bh Aa.enc_len (Aq he_15) (o := 0) (m := 2) (cs := [.int .i64 e_15.First, .int .i64 e_15.Then]) rfl (by decide) rfl) (Ax Aa.enc_len (Aq he_15) (o := 0) (m := 2) (by decide) rfl)) rfl rfl ?_
        obtain ⟨y_3, hy_3, hg⟩ := Ad hg
        refine Fg (rd := []) (ps := []) (gs := []) false (Cj rfl rfl h21) rfl (hf_cmp e_14 e_15 _ hy_3) rfl rfl (.cons (.agg (.cons .val (.cons .val .nil))) (.cons (.agg (.cons .val (.cons .val .nil))) .nil)) rfl rfl (by intro h; cases h) rfl rfl rfl rfl ?_
        refine Ao ?_
        refine Al fun hU => ?_
        exact ⟨decide (y_3 < 0), hg, A9 [(0, 0)]⟩
       ·refine Ao ?_
        refine Al fun hU => ?_
        exact ⟨false, hg, A9 [(0, 0)]⟩
      ·rintro x120_7 hg
       replace hg : Ai.j7 a cmp j_5 data_5 i_6 x120_7 = some o6 := hg
       show Cy _ _ _ _ (mk _ _ _)
       unfold Ai.j7 at hg
       refine D1 rfl hg (fun h24 hg => ?_) fun h24 hg => ?_
       ·refine Ay ?_
        repeat first | refine Dg ?_ | refine Df ?_
        refine A3 ?_
        refine Af (Cd _ _ []) 1 25 Bg rfl rfl ?_
        refine Ao ?_
        refine Al fun hU => ?_
        obtain rfl := oi_ hg
        exact ⟨(W (i_6 + 1), m6), Nat.lt_succ_self _, hn6, A9 [(0, 0)]⟩
       ·refine B8 ?_
        repeat first | refine Dg ?_ | refine Df ?_
        replace hg := Cr hg hn6
        refine Aj ?_
        refine A3 ?_
        refine Ix (fun (j_8 : Int) => mk [(0, .row 0), (1, .val (.int .i64 a)), (4, .clo 69 0 []), (12, .val (.int .i64 i_6)), (13, .val (.int .i64 j_8))] [(0, .row 122 2 (Av Aa.enc data_5))] 1) hg (A9 [(0, 0)]) ?_
        rintro j_8 m8 o8 hg hn8
        replace hg : Ai.l8 a cmp data_5 i_6 j_8 = some o8 := hg
        show Cy _ _ _ _ (mk _ _ _)
        unfold Ai.l8 at hg
        refine Aj ?_
        refine B7 (ι := Bool) (fun (x139_9 : Bool) => mk [(0, .row 0), (1, .val (.int .i64 a)), (4, .clo 69 0 []), (12, .val (.int .i64 i_6)), (13, .val (.int .i64 j_8)), (139, .val (.bool x139_9))] [(0, .row 122 2 (Av Aa.enc data_5))] 1) (fun (x139_9 : Bool) => Ai.j9 a data_5 i_6 j_8 x139_9 = some o8) ?_ ?_
        ·refine Ck (Cd _ _ []) (by kernel_rfl) [0, 0, 3, 7, 15, 15, 15, 111, 239, 15, 15, 1551, 3599, 8191, 16383, 32767, 65535] 1 137 Bg rfl rfl (by kernel_rfl) ?_
         refine Ao ?_
         rcases E8 hg with ⟨h26, hg⟩ | ⟨h26, hg⟩
         ·refine Ao ?_
          obtain ⟨e_16, he_16, hg⟩ := Ad hg
          refine Ao ?_
          refine Da (rd := [0]) (Cj rfl rfl h26) rfl (Ci Dd (Bh Aa.enc_len (Aq he_16) (o := 0) (m := 2) (cs := [.int .i64 e_16.First, .int .i64 e_16.Then]) rfl (by decide) rfl) (Ax Aa.enc_len (Aq he_16) (o := 0) (m := 2) (by decide) rfl)) rfl rfl ?_
          refine Ao ?_
          obtain ⟨e_17, he_17, hg⟩ := Ad hg
          refine Ao ?_
          refine Da (rd := [0]) (Cj rfl rfl h26) rfl (Ci Dd (Bh Aa.enc_len (Aq he_17) (o := 0) (m := 2) (cs := [.int .i64 e_17.First, .int .i64 e_17.Then]) rfl (by decide) rfl) (Ax Aa.enc_len (Aq he_17) (o := 0) (m := 2) (by decide) rfl)) rfl rfl ?_
          obtain ⟨y_4, hy_4, hg⟩ := Ad hg
          refine Fg (rd := []) (ps := []) (gs := []) false (Cj rfl rfl h26) rfl (hf_cmp e_16 e_17 _ hy_4) rfl rfl (.cons (.agg (.cons .val (.cons .val .nil))) (.cons (.agg (.cons .val (.cons .val .nil))) .nil)) rfl rfl (by intro h; cases h) rfl rfl rfl rfl ?_
          refine Ao ?_
          refine Al fun hU => ?_
          exact ⟨!(decide (y_4 < 0)), hg, A9 [(0, 0)]⟩
         ·refine Ao ?_
          refine Al fun hU => ?_
          exact ⟨false, hg, A9 [(0, 0)]⟩
        ·rintro x139_9 hg
         replace hg : Ai.j9 a data_5 i_6 j_8 x139_9 = some o8 := hg
         show Cy _ _ _ _ (mk _ _ _)
         unfold Ai.j9 at hg
         refine D1 rfl hg (fun h29 hg => ?_) fun h29 hg => ?_
         ·refine Ay ?_
          repeat first | refine Dg ?_ | refine Df ?_
          refine A3 ?_
          refine Af (Cd _ _ []) 1 25 Bg rfl rfl ?_
          refine Ao ?_
          refine Al fun hU => ?_
          obtain rfl := oi_ hg
          exact ⟨(W (j_8 - 1), m8), Nat.lt_succ_self _, hn8, A9 [(0, 0)]⟩
         ·refine B8 ?_
          repeat first | refine Dg ?_ | refine Df ?_
          replace hg := Cr hg hn8
          refine Aj ?_
          refine Bu 1 25 Bg ?_
          refine Ao ?_
          refine Al fun hU => ?_
          refine D1 rfl hg (fun h32 hg => ?_) fun h32 hg => ?_
          ·refine B8 ?_
           repeat first | refine Dg ?_ | refine Df ?_
           replace hg := Cr hg hn5
           refine Aj ?_
           refine Ck (Cd _ _ []) (by kernel_rfl) [0, 0, 0, 0, 0, 0, 48, 112, 0, 0, 768, 1792, 4083, 8179, 16383, 32767] 25 153 hU rfl rfl (by kernel_rfl) ?_
           refine Ao ?_
           obtain ⟨e_21, he_21, hg⟩ := Ad hg
           refine Ao ?_
           refine Da (rd := [0]) rfl rfl (Ci Dd (Bh Aa.enc_len (Aq he_21) (o := 0) (m := 2) (cs := [.int .i64 e_21.First, .int .i64 e_21.Then]) rfl (by decide) rfl) (Ax Aa.enc_len (Aq he_21) (o := 0) (m := 2) (by decide) rfl)) rfl rfl ?_
           refine Ao ?_
           obtain ⟨e_22, he_22, hg⟩ := Ad hg
           refine Ao ?_
           refine Da (rd := [0]) rfl rfl (Ci Dd (Bh Aa.enc_len (Aq he_22) (o := 0) (m := 2) (cs := [.int .i64 e_22.First, .int .i64 e_22.Then]) rfl (by decide) rfl) (Ax Aa.enc_len (Aq he_22) (o := 0) (m := 2) (by decide) rfl)) rfl rfl ?_
           refine Ao ?_
           refine Da (rd := [0]) rfl rfl (D9 Dd rfl (Ax Aa.enc_len (Aq he_22) (o := 0) (m := 2) (by decide) rfl) He (cs' := [.int .i64 e_21.First, .int .i64 e_21.Then]) (.cons .int (.cons .int .nil)) (Dm Aa.enc_len (Aq he_22) (o := 0) (x' := e_21) (Nat.le_of_ble_eq_true rfl) rfl rfl)) rfl rfl ?_
           obtain ⟨e_23, he_23, hg⟩ := Ad hg
           refine Ao ?_
           refine Da (rd := [0]) rfl rfl (D9 Dd rfl (Ax Aa.enc_len (Aq he_23) (o := 0) (m := 2) (by decide) rfl) He (cs' := [.int .i64 e_22.First, .int .i64 e_22.Then]) (.cons .int (.cons .int .nil)) (Dm Aa.enc_len (Aq he_23) (o := 0) (x' := e_22) (Nat.le_of_ble_eq_true rfl) rfl rfl)) rfl rfl ?_
           refine Al fun hU => ?_
           refine Bu 153 177 hU ?_
           refine Ao ?_
           refine Al fun hU => ?_
           refine Bv ?_
           obtain rfl := oi_ hg
           exact Bt [(0, 0)] ⟨rfl, rfl⟩
          ·refine Ay ?_
           repeat first | refine Dg ?_ | refine Df ?_
           refine Aj ?_
           refine Ck (Cd _ _ []) (by kernel_rfl) [0, 0, 0, 0, 0, 0, 48, 112, 0, 0, 768, 1792, 4083, 8179, 16383, 32767] 25 153 hU rfl rfl (by kernel_rfl) ?_
           refine Ao ?_
           obtain ⟨e_18, he_18, hg⟩ := Ad hg
           refine Ao ?_
           refine Da (rd := [0]) rfl rfl (Ci Dd (Bh Aa.enc_len (Aq he_18) (o := 0) (m := 2) (cs := [.int .i64 e_18.First, .int .i64 e_18.Then]) rfl (by decide) rfl) (Ax Aa.enc_len (Aq he_18) (o := 0) (m := 2) (by decide) rfl)) rfl rfl ?_
           refine Ao ?_
           obtain ⟨e_19, he_19, hg⟩ := Ad hg
           refine Ao ?_
           refine Da (rd := [0]) rfl rfl (Ci Dd (Bh Aa.enc_len (Aq he_19) (o := 0) (m := 2) (cs := [.int .i64 e_19.First, .int .i64 e_19.Then]) rfl (by decide) rfl) (Ax Aa.enc_len (Aq he_19) (o := 0) (m := 2) (by decide) rfl)) rfl rfl ?_
           refine Ao ?_
           refine Da (rd := [0]) rfl rfl (D9 Dd rfl (Ax Aa.enc_len (Aq he_19) (o := 0) (m := 2) (by decide) rfl) He (cs' := [.int .i64 e_18.First, .int .i64 e_18.Then]) (.cons .int (.cons .int .nil)) (Dm Aa.enc_len (Aq he_19) (o := 0) (x' := e_18) (Nat.le_of_ble_eq_true rfl) rfl rfl)) rfl rfl ?_
           obtain ⟨e_20, he_20, hg⟩ := Ad hg
           refine Ao ?_
           refine Da (rd := [0]) rfl rfl (D9 Dd rfl (Ax Aa.enc_len (Aq he_20) (o := 0) (m := 2) (by decide) rfl) He (cs' := [.int .i64 e_19.First, .int .i64 e_19.Then]) (.cons .int (.cons .int .nil)) (Dm Aa.enc_len (Aq he_20) (o := 0) (x' := e_19) (Nat.le_of_ble_eq_true rfl) rfl rfl)) rfl rfl ?_
           refine Al fun hU => ?_
           refine Bu 153 177 hU ?_
           refine Ao ?_
           refine Al fun hU => ?_
           refine Af (Cd _ _ []) 177 201 hU rfl rfl ?_
           refine Ao ?_
           refine Al fun hU => ?_
           obtain rfl := oi_ hg
           exact ⟨((W (i_6 + 1), W (j_8 - 1), De (De data_5 ((i_6).toNat) e_18) ((j_8).toNat) e_19), m5), Nat.lt_succ_self _, hn5, A9 [(0, 0)]⟩
theorem Eo.F (cmp : Aa -> Aa -> Option (Int)) (hf_cmp : ∀ (x0 : Aa) (x1 : Aa) (y : Int), cmp x0 x1 = some y -> Fn Tryz.prog 69 0 [.agg [.val (.int .i64 x0.First), .val (.int .i64 x0.Then)], .agg [.val (.int .i64 x1.First), .val (.int .i64 x1.Then)]] [] (fun d' b' => d' = .val (.int .i64 y) /\ b' = [])) (rec : (List Aa) -> Int -> Int -> Int -> Option ((List Aa))) (hrec : ∀ (data : List Aa) (a : Int) (b : Int) (limit : Int) (r : (List Aa)), rec data a b limit = some r -> Fn Tryz.prog 98 1 [.row 0, .val (.int .i64 a), .val (.int .i64 b), .val (.int .i64 limit), .clo 69 0 []] [.row 122 2 (Av Aa.enc data)] (fun d' b' => d' = .tup [] /\ b' = [.row 122 2 (Av Aa.enc r)])) (data : List Aa) (a : Int) (b : Int) (limit : Int) (r : (List Aa)) (hg : Ak.F rec data a b limit cmp = some r) : Fn Tryz.prog 98 1 [.row 0, .val (.int .i64 a), .val (.int .i64 b), .val (.int .i64 limit), .clo 69 0 []] [.row 122 2 (Av Aa.enc data)] (fun d' b' => d' = .tup [] /\ b' = [.row 122 2 (Av Aa.enc r)]) := by
 unfold Ak.F at hg
 refine Fn.of Tryz.func98 rfl rfl rfl fun w0 I ρ0 => ?_
 show Cy _ ⟨w0, I, ρ0, 1, 1, 148⟩ _ _ _
 refine Bu 1 9 Bg ?_
 refine Ao ?_
 refine Al fun hU => ?_
 refine Bu 9 17 hU ?_
 refine Ao ?_
 refine Al fun hU => ?_
 refine A3 ?_
 refine Ix (fun ((a_1, b_1, limit_1, wasBalanced_1, wasPartitioned_1, data_1) : Int × Int × Int × Bool × Bool × List Aa) => mk [(0, .row 0), (1, .val (.int .i64 a_1)), (2, .val (.int .i64 b_1)), (3, .val (.int .i64 limit_1)), (4, .clo 69 0 []), (10, .val (.bool wasBalanced_1)), (11, .val (.bool wasPartitioned_1))] [(0, .row 122 2 (Av Aa.enc data_1))] 1) hg (A9 [(0, 0)]) ?_
 rintro ⟨a_1, b_1, limit_1, wasBalanced_1, wasPartitioned_1, data_1⟩ m1 o1 hg hn1
 replace hg : Ak.l1 rec cmp a_1 b_1 limit_1 wasBalanced_1 wasPartitioned_1 data_1 = some o1 := hg
 show Cy _ _ _ _ (mk _ _ _)
 unfold Ak.l1 at hg
 refine A3 ?_
 refine Bu 1 33 Bg ?_
 refine Ao ?_
 refine Al fun hU => ?_
 refine Aj ?_
 refine Bu 33 49 hU ?_
 refine Ao ?_
 refine Al fun hU => ?_
 refine D1 rfl hg (fun h5 hg => ?_) fun h5 hg => ?_
 ·refine Aj ?_
  refine Af (Cd _ _ []) 49 89 hU rfl rfl ?_
  refine Ao ?_
  obtain ⟨y, hy, hg⟩ := Ad hg
  refine K0 [0] [0] [] false (G9 data_1 a_1 b_1 cmp hf_cmp _ hy) ?_
  refine Al fun hU => ?_
  refine Bv ?_
  replace hg := Cr hg hn1
  obtain rfl := oi_ hg
  exact Bt [(0, 0)] ⟨rfl, rfl⟩
 ·refine Ay ?_
  repeat first | refine Dg ?_ | refine Df ?_
  refine Aj ?_
  refine Bu 49 65 hU ?_
  refine Ao ?_
  refine Al fun hU => ?_
  refine D1 rfl hg (fun h8 hg => ?_) fun h8 hg => ?_
  ·refine Aj ?_
   refine Af (Cd _ _ []) 65 105 hU rfl rfl ?_
   refine Ao ?_
   obtain ⟨y_2, hy_2, hg⟩ := Ad hg
   refine K0 [0] [0] [] false (Hv data_1 a_1 b_1 cmp hf_cmp _ hy_2) ?_
   refine Al fun hU => ?_
   refine Bv ?_
   replace hg := Cr hg hn1
   obtain rfl := oi_ hg
   exact Bt [(0, 0)] ⟨rfl, rfl⟩
  ·refine Ay ?_
   repeat first | refine Dg ?_ | refine Df ?_
   refine B7 (ι := Int × List Aa) (fun ((limit_2, data_2) : Int × List Aa) => mk [(0, .row 0), (1, .val (.int .i64 a_1)), (2, .val (.int .i64 b_1)), (3, .val (.int .i64 limit_2)), (4, .clo 69 0 []), (10, .val (.bool wasBalanced_1)), (11, .val (.bool wasPartitioned_1)), (12, .val (.int .i64 (W (b_1 - a_1))))] [(0, .row 122 2 (Av Aa.enc data_2))] 1) (fun ((limit_2, data_2) : Int × List Aa) => Ak.j2 rec cmp a_1 b_1 wasBalanced_1 wasPartitioned_1 limit_2 data_2 = some o1) ?_ ?_
   ·refine Aj ?_
    refine Af (Cd _ _ []) 65 81 hU rfl rfl ?_
    refine Ao ?_
    refine Al fun hU => ?_
    refine D1 rfl hg (fun h11 hg => ?_) fun h11 hg => ?_
    ·refine Aj ?_
     refine Af (Cd _ _ []) 81 121 hU rfl rfl ?_
     refine Ao ?_
     obtain ⟨y_3, hy_3, hg⟩ := Ad hg
     refine K0 [0] [0] [] false (G8 data_1 a_1 b_1 cmp hf_cmp _ hy_3) ?_
     refine Al fun hU => ?_
     refine Af (Cd _ _ []) 121 145 hU rfl rfl ?_
     refine Ao ?_
     refine Al fun hU => ?_
     exact ⟨(W (limit_1 - 1), y_3), hg, A9 [(0, 0)]⟩
    ·refine Ay ?_
     repeat first | refine Dg ?_ | refine Df ?_
     exact ⟨(limit_1, data_1), hg, A9 [(0, 0)]⟩
   ·rintro ⟨limit_2, data_2⟩ hg
    replace hg : Ak.j2 rec cmp a_1 b_1 wasBalanced_1 wasPartitioned_1 limit_2 data_2 = some o1 := hg
    show Cy _ _ _ _ (mk _ _ _)
    unfold Ak.j2 at hg
    refine Bu 1 81 Bg ?_
    refine Ao ?_
    obtain ⟨y_4, hy_4, hg⟩ := Ad hg
    refine K0 [0] [] [] true (Hf data_2 a_1 b_1 cmp hf_cmp _ hy_4) ?_
    refine Ao ?_
    refine Al fun hU => ?_
    refine B7 (ι := Int × Int × List Aa) (fun ((pivot_3, hint_3, data_3) : Int × Int × List Aa) => mk [(0, .row 0), (1, .val (.int .i64 a_1)), (2, .val (.int .i64 b_1)), (3, .val (.int .i64 limit_2)), (4, .clo 69 0 []), (10, .val (.bool wasBalanced_1)), (11, .val (.bool wasPartitioned_1)), (12, .val (.int .i64 (W (b_1 - a_1)))), (13, .val (.int .i64 pivot_3)), (14, .val (.int .i64 hint_3))] [(0, .row 122 2 (Av Aa.enc data_3))] 1) (fun ((pivot_3, hint_3, data_3) : Int × Int × List Aa) => Ak.j3 rec cmp a_1 b_1 wasBalanced_1 wasPartitioned_1 limit_2 pivot_3 hint_3 data_3 = some o1) ?_ ?_
    ·refine Aj ?_
     refine Af (Cd _ _ []) 81 97 hU rfl rfl ?_
     refine Ao ?_
     refine Al fun hU => ?_
     refine D1 rfl hg (fun h16 hg => ?_) fun h16 hg => ?_
     ·refine Aj ?_
      refine Af (Cd _ _ []) 97 137 hU rfl rfl ?_
      refine Ao ?_
      obtain ⟨y_5, hy_5, hg⟩ := Ad hg
      refine K0 [0] [0] [] false (Ha data_2 a_1 b_1 cmp hf_cmp _ hy_5) ?_
      refine Al fun hU => ?_
      refine Bu 137 193 hU ?_
      refine Ao ?_
      refine Al fun hU => ?_
      refine Af (Cd _ _ []) 193 201 hU rfl rfl ?_
      refine Ao ?_
      refine Al fun hU => ?_
      exact ⟨(W ((W (b_1 - 1)) - (W (y_4.1 - a_1))), 1, y_5), hg, A9 [(0, 0)]⟩
     ·refine Ay ?_
      repeat first | refine Dg ?_ | refine Df ?_
      exact ⟨(y_4.1, y_4.2, data_2), hg, A9 [(0, 0)]⟩
    ·rintro ⟨pivot_3, hint_3, data_3⟩ hg
     replace hg : Ak.j3 rec cmp a_1 b_1 wasBalanced_1 wasPartitioned_1 limit_2 pivot_3 hint_3 data_3 = some o1 := hg
     show Cy _ _ _ _ (mk _ _ _)
     unfold Ak.j3 at hg
     refine B7 (ι := List Aa) (fun (data_5 : List Aa) => mk [(0, .row 0), (1, .val (.int .i64 a_1)), (2, .val (.int .i64 b_1)), (3, .val (.int .i64 limit_2)), (4, .clo 69 0 []), (10, .val (.bool wasBalanced_1)), (11, .val (.bool wasPartitioned_1)), (12, .val (.int .i64 (W (b_1 - a_1)))), (13, .val (.int .i64 pivot_3))] [(0, .row 122 2 (Av Aa.enc data_5))] 1) (fun (data_5 : List Aa) => Ak.j5 rec cmp a_1 b_1 wasBalanced_1 wasPartitioned_1 limit_2 pivot_3 data_5 = some o1) ?_ ?_
     ·refine B7 (ι := Bool) (fun (x75_4 : Bool) => mk [(0, .row 0), (1, .val (.int .i64 a_1)), (2, .val (.int .i64 b_1)), (3, .val (.int .i64 limit_2)), (4, .clo 69 0 []), (10, .val (.bool wasBalanced_1)), (11, .val (.bool wasPartitioned_1)), (12, .val (.int .i64 (W (b_1 - a_1)))), (13, .val (.int .i64 pivot_3)), (75, .val (.bool x75_4))] [(0, .row 122 2 (Av Aa.enc data_3))] 1) (fun (x75_4 : Bool) => Ak.j4 rec cmp a_1 b_1 wasBalanced_1 wasPartitioned_1 limit_2 pivot_3 data_3 x75_4 = some o1) ?_ ?_
      ·refine Af (Cd _ _ []) 1 65 Bg rfl rfl ?_
       refine Ao ?_
       rcases E8 hg with ⟨h20, hg⟩ | ⟨h20, hg⟩
       ·refine Ao ?_
        rcases E8 hg with ⟨h21, hg⟩ | ⟨h21, hg⟩
        ·refine Ao ?_
         refine Al fun hU => ?_
         exact ⟨decide (hint_3 = 1), hg, A9 [(0, 0)]⟩
        ·refine Ao ?_
         refine Al fun hU => ?_
         exact ⟨false, hg, A9 [(0, 0)]⟩
       ·refine Ao ?_
        refine Al fun hU => ?_
        exact ⟨false, hg, A9 [(0, 0)]⟩
      ·rintro x75_4 hg
       replace hg : Ak.j4 rec cmp a_1 b_1 wasBalanced_1 wasPartitioned_1 limit_2 pivot_3 data_3 x75_4 = some o1 := hg
       show Cy _ _ _ _ (mk _ _ _)
       unfold Ak.j4 at hg
       refine D1 rfl hg (fun h25 hg => ?_) fun h25 hg => ?_
       ·refine Aj ?_
        refine Af (Cd _ _ []) 1 41 Bg rfl rfl ?_
        refine Ao ?_
        obtain ⟨y_6, hy_6, hg⟩ := Ad hg
        refine K0 [0] [0] [] false (Gp data_3 a_1 b_1 cmp hf_cmp _ hy_6) ?_
        refine Al fun hU => ?_
        refine D1 rfl hg (fun h27 hg => ?_) fun h27 hg => ?_
        ·refine Z5 ?_
         repeat first | refine Dg ?_ | refine Df ?_
         replace hg := Cr hg hn1
         obtain rfl := oi_ hg
         exact Bt [(0, 0)] ⟨rfl, rfl⟩
        ·refine Ay ?_
         repeat first | refine Dg ?_ | refine Df ?_
         exact ⟨y_6.2, hg, A9 [(0, 0)]⟩
       ·refine Ay ?_
        repeat first | refine Dg ?_ | refine Df ?_
        exact ⟨data_3, hg, A9 [(0, 0)]⟩
     ·rintro data_5 hg
      replace hg : Ak.j5 rec cmp a_1 b_1 wasBalanced_1 wasPartitioned_1 limit_2 pivot_3 data_5 = some o1 := hg
      show Cy _ _ _ _ (mk _ _ _)
      unfold Ak.j5 at hg
      refine Aj ?_
      refine B7 (ι := Bool) (fun (x97_6 : Bool) => mk [(0, .row 0), (1, .val (.int .i64 a_1)), (2, .val (.int .i64 b_1)), (3, .val (.int .i64 limit_2)), (4, .clo 69 0 []), (10, .val (.bool wasBalanced_1)), (11, .val (.bool wasPartitioned_1)), (12, .val (.int .i64 (W (b_1 - a_1)))), (13, .val (.int .i64 pivot_3)), (97, .val (.bool x97_6))] [(0, .row 122 2 (Av Aa.enc data_5))] 1) (fun (x97_6 : Bool) => Ak.j6 rec cmp a_1 b_1 wasBalanced_1 wasPartitioned_1 limit_2 pivot_3 data_5 x97_6 = some o1) ?_ ?_
      ·refine Ck (Cd _ _ []) (by kernel_rfl) [0, 1, 3, 7, 7, 7, 39, 119, 247, 7, 7, 1543, 3591, 8191, 16383, 32767, 65535] 1 137 Bg rfl rfl (by kernel_rfl) ?_
       refine Ao ?_
       rcases E8 hg with ⟨h28, hg⟩ | ⟨h28, hg⟩
       ·refine Ao ?_
        obtain ⟨e, he, hg⟩ := Ad hg
        refine Ao ?_
        refine Da (rd := [0]) (Cj rfl rfl h28) rfl (Ci Dd (Bh Aa.enc_len (Aq he) (o := 0) (m := 2) (cs := [.int .i64 e.First, .int .i64 e.Then]) rfl (by decide) rfl) (Ax Aa.enc_len (Aq he) (o := 0) (m := 2) (by decide) rfl)) rfl rfl ?_
        refine Ao ?_
        obtain ⟨e_2, he_2, hg⟩ := Ad hg
        refine Ao ?_
        refine Da (rd := [0]) (Cj rfl rfl h28) rfl (Ci Dd (Bh Aa.enc_len (Aq he_2) (o := 0) (m := 2) (cs := [.int .i64 e_2.First, .int .i64 e_2.Then]) rfl (by decide) rfl) (Ax Aa.enc_len (Aq he_2) (o := 0) (m := 2) (by decide) rfl)) rfl rfl ?_
        obtain ⟨y_7, hy_7, hg⟩ := Ad hg
        refine Fg (rd := []) (ps := []) (gs := []) false (Cj rfl rfl h28) rfl (hf_cmp e e_2 _ hy_7) rfl rfl (.cons (.agg (.cons .val (.cons .val .nil))) (.cons (.agg (.cons .val (.cons .val .nil))) .nil)) rfl rfl (by intro h; cases h) rfl rfl rfl rfl ?_
        refine Ao ?_
        refine Al fun hU => ?_
        exact ⟨!(decide (y_7 < 0)), hg, A9 [(0, 0)]⟩
       ·refine Ao ?_
        refine Al fun hU => ?_
        exact ⟨false, hg, A9 [(0, 0)]⟩
      ·rintro x97_6 hg
       replace hg : Ak.j6 rec cmp a_1 b_1 wasBalanced_1 wasPartitioned_1 limit_2 pivot_3 data_5 x97_6 = some o1 := hg
       show Cy _ _ _ _ (mk _ _ _)
       unfold Ak.j6 at hg
       refine D1 rfl hg (fun h31 hg => ?_) fun h31 hg => ?_
       ·refine Aj ?_
        refine Af (Cd _ _ []) 1 57 Bg rfl rfl ?_
        refine Ao ?_
        obtain ⟨y_8, hy_8, hg⟩ := Ad hg
        refine K0 [0] [0] [] false (G6 data_5 a_1 b_1 pivot_3 cmp hf_cmp _ hy_8) ?_
        refine Ao ?_
        refine Al fun hU => ?_
        refine Bu 57 73 hU ?_
        refine Ao ?_
        refine Al fun hU => ?_
        refine B8 ?_
        repeat first | refine Dg ?_ | refine Df ?_
        obtain rfl := oi_ hg
        exact ⟨((y_8.1, b_1, limit_2, wasBalanced_1, wasPartitioned_1, y_8.2), m1), Nat.lt_succ_self _, hn1, A9 [(0, 0)]⟩
       ·refine Ay ?_
        repeat first | refine Dg ?_ | refine Df ?_
        refine Bu 1 89 Bg ?_
        refine Ao ?_
        obtain ⟨y_9, hy_9, hg⟩ := Ad hg
        refine K0 [0] [0] [] false (Hp data_5 a_1 b_1 pivot_3 cmp hf_cmp _ hy_9) ?_
        refine Ao ?_
        refine Al fun hU => ?_
        refine Bu 89 105 hU ?_
        refine Ao ?_
        refine Al fun hU => ?_
        refine Bu 105 169 hU ?_
        refine Ao ?_
        refine Al fun hU => ?_
        refine Bu 169 193 hU ?_
        refine Ao ?_
        obtain ⟨q, hq, hg⟩ := Ad hg
        refine Cl rfl rfl (Rc hq) rfl rfl ?_
        refine Ao ?_
        refine Al fun hU => ?_
        refine Bu 193 217 hU ?_
        refine Ao ?_
        refine Al fun hU => ?_
        refine D1 rfl hg (fun h39 hg => ?_) fun h39 hg => ?_
        ·refine Aj ?_
         refine Af (Cd _ _ []) 217 249 hU rfl rfl ?_
         refine Ao ?_
         refine Al fun hU => ?_
         refine Bu 249 297 hU ?_
         refine Ao ?_
         obtain ⟨y_10, hy_10, hg⟩ := Ad hg
         refine K0 [0] [0] [] false (hrec y_9.2.2 a_1 y_9.1 limit_2 _ hy_10) ?_
         refine Al fun hU => ?_
         refine Af (Cd _ _ []) 297 321 hU rfl rfl ?_
         refine Ao ?_
         refine Al fun hU => ?_
         obtain rfl := oi_ hg
         exact ⟨((W (y_9.1 + 1), b_1, limit_2, decide (q <= (W (y_9.1 - a_1))), y_9.2.1, y_10), m1), Nat.lt_succ_self _, hn1, A9 [(0, 0)]⟩
        ·refine Aj ?_
         refine Af (Cd _ _ []) 217 249 hU rfl rfl ?_
         refine Ao ?_
         refine Al fun hU => ?_
         refine Bu 249 305 hU ?_
         refine Ao ?_
         obtain ⟨y_11, hy_11, hg⟩ := Ad hg
         refine K0 [0] [0] [] false (hrec y_9.2.2 (W (y_9.1 + 1)) b_1 limit_2 _ hy_11) ?_
         refine Al fun hU => ?_
         refine Af (Cd _ _ []) 305 321 hU rfl rfl ?_
         refine Ao ?_
         refine Al fun hU => ?_
         obtain rfl := oi_ hg
         exact ⟨((a_1, y_9.1, limit_2, decide (q <= (W (b_1 - y_9.1))), y_9.2.1, y_11), m1), Nat.lt_succ_self _, hn1, A9 [(0, 0)]⟩
theorem Eo (data : List Aa) (a : Int) (b : Int) (limit : Int) (cmp : Aa -> Aa -> Option (Int)) (hf_cmp : ∀ (x0 : Aa) (x1 : Aa) (y : Int), cmp x0 x1 = some y -> Fn Tryz.prog 69 0 [.agg [.val (.int .i64 x0.First), .val (.int .i64 x0.Then)], .agg [.val (.int .i64 x1.First), .val (.int .i64 x1.Then)]] [] (fun d' b' => d' = .val (.int .i64 y) /\ b' = [])) (r : (List Aa)) (hg : Ak data a b limit cmp = some r) : Fn Tryz.prog 98 1 [.row 0, .val (.int .i64 a), .val (.int .i64 b), .val (.int .i64 limit), .clo 69 0 []] [.row 122 2 (Av Aa.enc data)] (fun d' b' => d' = .tup [] /\ b' = [.row 122 2 (Av Aa.enc r)]) :=
 Q0 (motive := fun (x : List Aa × Int × Int × Int) (r : (List Aa)) => Fn Tryz.prog 98 1 [.row 0, .val (.int .i64 x.2.1), .val (.int .i64 x.2.2.1), .val (.int .i64 x.2.2.2), .clo 69 0 []] [.row 122 2 (Av Aa.enc x.1)] (fun d' b' => d' = .tup [] /\ b' = [.row 122 2 (Av Aa.enc r)])) (fun rec hrec x r h => Eo.F cmp hf_cmp _ (fun data a b limit r h => hrec (data, a, b, limit) r h) x.1 x.2.1 x.2.2.1 x.2.2.2 r h) (data, a, b, limit) r hg
end Go.Proofs.YtkpcbnnlefcebaaGreat
