import Derived.Test.YtkpcbnnlefcebaaGreatT1
import Derived.Test.YtkpcbnnlefcebaaGreatA3
set_option linter.unusedVariables false
set_option linter.unusedSimpArgs false
set_option maxRecDepth 100000
set_option maxHeartbeats 1600000
namespace Go.Proofs.YtkpcbnnlefcebaaGreat
open Go.RowKit
theorem S8 (alg : Int) (r : Int) (hg : Fk alg = some r) : Fn Tryz.prog 82 0 [.val (.int .i64 alg)] [] (fun d' b' => d' = .val (.int .i64 r) /\ b' = []) := by
 unfold Fk at hg
 refine Fn.of Tryz.func82 rfl rfl rfl fun w0 I ρ0 => ?_
 show Cy _ ⟨w0, I, ρ0, 0, 0, 14⟩ _ _ _
 refine Bu 0 8 Bg ?_
 refine Ao ?_
 refine Al fun hU => ?_
 refine Aj ?_
 refine B7 (ι := Bool) (fun (x8_1 : Bool) => mk [(0, .val (.int .i64 alg)), (8, .val (.bool x8_1))] [] 0) (fun (x8_1 : Bool) => Fk.j1 alg x8_1 = some r) ?_ ?_
 ·refine Af (Cd _ _ []) 8 56 hU rfl rfl ?_
  refine Ao ?_
  rcases E8 hg with ⟨h2, hg⟩ | ⟨h2, hg⟩
  ·refine Ao ?_
   refine Al fun hU => ?_
   exact ⟨true, hg, A9 []⟩
  ·refine Ao ?_
   refine Al fun hU => ?_
   exact ⟨decide (22 < alg), hg, A9 []⟩
 ·rintro x8_1 hg
  replace hg : Fk.j1 alg x8_1 = some r := hg
  show Cy _ _ _ _ (mk _ _ _)
  unfold Fk.j1 at hg
  refine D1 rfl hg (fun h5 hg => ?_) fun h5 hg => ?_
  ·refine Aj ?_
   refine Af (Cd _ _ []) 0 8 Bg rfl rfl ?_
   refine Ao ?_
   refine Al fun hU => ?_
   refine Bv ?_
   obtain rfl := oi_ hg
   exact Bt [] ⟨rfl, rfl⟩
  ·refine Ay ?_
   repeat first | refine Dg ?_ | refine Df ?_
   refine Bu 0 48 Bg ?_
   obtain ⟨y, hy, hg⟩ := Ad hg
   refine E4 (Zn _ hy) ?_
   refine Ao ?_
   obtain ⟨e, he, hg⟩ := Ad hg
   refine Ao ?_
   refine Cl rfl rfl (Ig eP Nw (by decide) (Nu Ar.enc_len (Aq he) (o := 1) (by decide) rfl)) rfl rfl ?_
   refine Cl rfl rfl (Cz Nw (Do Ar.enc_len (Aq he) (o := 1) (c := .int .i64 e.kind) rfl rfl)) rfl rfl ?_
   refine Ao ?_
   refine Al fun hU => ?_
   refine Bv ?_
   obtain rfl := oi_ hg
   exact Bt [] ⟨rfl, rfl⟩
theorem T1 (u : Az) (r : Bool) (hg : H5 u = some r) : Fn Tryz.prog 80 0 [.agg [.val (.int .i64 u.Alg), .val (.int .i64 u.Bits)]] [] (fun d' b' => d' = .val (.bool r) /\ b' = []) := by
 unfold H5 at hg
 refine Fn.of Tryz.func80 rfl rfl rfl fun w0 I ρ0 => ?_
 show Cy _ ⟨w0, I, ρ0, 0, 0, 11⟩ _ _ _
 refine Bu 0 16 Bg ?_
 refine Ao ?_
 refine Al fun hU => ?_
 refine Bu 16 88 hU ?_
 refine Ao ?_
 obtain ⟨y, hy, hg⟩ := Ad hg
 refine E4 (Sd _ _ hy) ?_
 refine Ao ?_
 rcases E8 hg with ⟨h2, hg⟩ | ⟨h2, hg⟩
 ·refine Ao ?_
  obtain ⟨y_2, hy_2, hg⟩ := Ad hg
  refine E4 (S8 _ _ hy_2) ?_
  refine Ao ?_
  refine Al fun hU => ?_
  refine Bv ?_
  obtain rfl := oi_ hg
  exact Bt [] ⟨rfl, rfl⟩
 ·refine Ao ?_
  refine Al fun hU => ?_
  refine Bv ?_
  obtain rfl := oi_ hg
  exact Bt [] ⟨rfl, rfl⟩
theorem Sg (c : Am) (r : Int) (hg : Be c = some r) : Fn Tryz.prog 58 0 [.agg (Am.dv c)] [] (fun d' b' => d' = .val (.int .i64 r) /\ b' = []) := by
 unfold Be at hg
 refine Fn.of Tryz.func58 rfl rfl rfl fun w0 I ρ0 => ?_
 show Cy _ ⟨w0, I, ρ0, 0, 0, 146⟩ _ _ _
 refine Bu 0 16 Bg ?_
 refine Ao ?_
 refine Al fun hU => ?_
 refine Aj ?_
 refine B7 (ι := Bool) (fun (x39_1 : Bool) => mk [(1, .ptr 0 0), (39, .val (.bool x39_1))] [(0, .box (Am.dv c) 85)] 1) (fun (x39_1 : Bool) => Be.j1 c x39_1 = some r) ?_ ?_
 ·refine Af (Cd _ _ []) 16 304 hU rfl rfl ?_
  refine Ao ?_
  rcases E8 hg with ⟨h2, hg⟩ | ⟨h2, hg⟩
  ·refine Ao ?_
   refine Al fun hU => ?_
   exact ⟨true, hg, A9 [(0, 0)]⟩
  ·refine Ao ?_
   rcases E8 hg with ⟨h4, hg⟩ | ⟨h4, hg⟩
   ·refine Ao ?_
    refine Al fun hU => ?_
    exact ⟨true, hg, A9 [(0, 0)]⟩
   ·refine Ao ?_
    obtain ⟨y, hy, hg⟩ := Ad hg
    refine E4 (Pl _ _ hy) ?_
    refine Ao ?_
    rcases E8 hg with ⟨h6, hg⟩ | ⟨h6, hg⟩
    ·refine Ao ?_
     refine Al fun hU => ?_
     exact ⟨true, hg, A9 [(0, 0)]⟩
    ·refine Ao ?_
     obtain ⟨y_2, hy_2, hg⟩ := Ad hg
     refine E4 (Pl _ _ hy_2) ?_
     refine Ao ?_
     rcases E8 hg with ⟨h8, hg⟩ | ⟨h8, hg⟩
     ·refine Ao ?_
      refine Al fun hU => ?_
      exact ⟨true, hg, A9 [(0, 0)]⟩
     ·refine Ao ?_
      obtain ⟨y_3, hy_3, hg⟩ := Ad hg
      refine E4 (T1 _ _ hy_3) ?_
      refine Ao ?_
      rcases E8 hg with ⟨h10, hg⟩ | ⟨h10, hg⟩
      ·refine Ao ?_
       refine Al fun hU => ?_
       exact ⟨true, hg, A9 [(0, 0)]⟩
      ·refine Ao ?_
       rcases E8 hg with ⟨h12, hg⟩ | ⟨h12, hg⟩
       ·refine Ao ?_
        refine Al fun hU => ?_
        exact ⟨true, hg, A9 [(0, 0)]⟩
       ·refine Ao ?_
        refine Al fun hU => ?_
        exact ⟨decide (2147483648 < c.KeyId), hg, A9 [(0, 0)]⟩
 ·rintro x39_1 hg
  replace hg : Be.j1 c x39_1 = some r := hg
  show Cy _ _ _ _ (mk _ _ _)
  unfold Be.j1 at hg
  refine D1 rfl hg (fun h15 hg => ?_) fun h15 hg => ?_
  ·refine Aj ?_
   refine Af (Cd _ _ []) 1 9 Bg rfl rfl ?_
   refine Ao ?_
   refine Al fun hU => ?_
   refine Bv ?_
   obtain rfl := oi_ hg
   exact Bt [] ⟨rfl, rfl⟩
  ·refine Ay ?_
   repeat first | refine Dg ?_ | refine Df ?_
   refine Aj ?_
   refine B7 (ι := Bool) (fun (x67_2 : Bool) => mk [(1, .ptr 0 0), (67, .val (.bool x67_2))] [(0, .box (Am.dv c) 85)] 1) (fun (x67_2 : Bool) => Be.j2 c x67_2 = some r) ?_ ?_
   ·refine Af (Cd _ _ []) 1 225 Bg rfl rfl ?_
    refine Ao ?_
    obtain ⟨y_4, hy_4, hg⟩ := Ad hg
    refine E4 (Sd _ _ hy_4) ?_
    refine Ao ?_
    rcases E8 hg with ⟨h17, hg⟩ | ⟨h17, hg⟩
    ·refine Ao ?_
     refine Al fun hU => ?_
     exact ⟨true, hg, A9 [(0, 0)]⟩
    ·refine Ao ?_
     obtain ⟨y_5, hy_5, hg⟩ := Ad hg
     refine E4 (S8 _ _ hy_5) ?_
     refine Ao ?_
     rcases E8 hg with ⟨h19, hg⟩ | ⟨h19, hg⟩
     ·refine Ao ?_
      refine Al fun hU => ?_
      exact ⟨true, hg, A9 [(0, 0)]⟩
     ·refine Ao ?_
      rcases E8 hg with ⟨h21, hg⟩ | ⟨h21, hg⟩
      ·refine Ao ?_
       refine Al fun hU => ?_
       exact ⟨true, hg, A9 [(0, 0)]⟩
      ·refine Ao ?_
       rcases E8 hg with ⟨h23, hg⟩ | ⟨h23, hg⟩
       ·refine Ao ?_
        refine Al fun hU => ?_
        exact ⟨true, hg, A9 [(0, 0)]⟩
       ·refine Ao ?_
        refine Al fun hU => ?_
        exact ⟨decide (40000 < c.To), hg, A9 [(0, 0)]⟩
   ·rintro x67_2 hg
    replace hg : Be.j2 c x67_2 = some r := hg
    show Cy _ _ _ _ (mk _ _ _)
    unfold Be.j2 at hg
    refine D1 rfl hg (fun h26 hg => ?_) fun h26 hg => ?_
    ·refine Aj ?_
     refine Af (Cd _ _ []) 1 9 Bg rfl rfl ?_
     refine Ao ?_
     refine Al fun hU => ?_
     refine Bv ?_
     obtain rfl := oi_ hg
     exact Bt [] ⟨rfl, rfl⟩
    ·refine Ay ?_
     repeat first | refine Dg ?_ | refine Df ?_
     refine Aj ?_
     refine B7 (ι := Bool) (fun (x91_3 : Bool) => mk [(1, .ptr 0 0), (91, .val (.bool x91_3))] [(0, .box (Am.dv c) 85)] 1) (fun (x91_3 : Bool) => Be.j3 c x91_3 = some r) ?_ ?_
     ·refine Af (Cd _ _ []) 1 193 Bg rfl rfl ?_
      refine Ao ?_
      rcases E8 hg with ⟨h28, hg⟩ | ⟨h28, hg⟩
      ·refine Ao ?_
       refine Al fun hU => ?_
       exact ⟨true, hg, A9 [(0, 0)]⟩
      ·refine Ao ?_
       rcases E8 hg with ⟨h30, hg⟩ | ⟨h30, hg⟩
       ·refine Ao ?_
        refine Al fun hU => ?_
        exact ⟨true, hg, A9 [(0, 0)]⟩
       ·refine Ao ?_
        rcases E8 hg with ⟨h32, hg⟩ | ⟨h32, hg⟩
        ·refine Ao ?_
         rcases E8 hg with ⟨h33, hg⟩ | ⟨h33, hg⟩
         ·refine Ao ?_
          refine Al fun hU => ?_
          exact ⟨true, hg, A9 [(0, 0)]⟩
         ·refine Ao ?_
          refine Al fun hU => ?_
          exact ⟨decide (8 < (c.Names.length : Int)), hg, A9 [(0, 0)]⟩
        ·refine Ao ?_
         refine Al fun hU => ?_
         exact ⟨decide (8 < (c.Names.length : Int)), hg, A9 [(0, 0)]⟩
     ·rintro x91_3 hg
      replace hg : Be.j3 c x91_3 = some r := hg
      show Cy _ _ _ _ (mk _ _ _)
      unfold Be.j3 at hg
      refine D1 rfl hg (fun h37 hg => ?_) fun h37 hg => ?_
      ·refine Aj ?_
       refine Af (Cd _ _ []) 1 9 Bg rfl rfl ?_
       refine Ao ?_
       refine Al fun hU => ?_
       refine Bv ?_
       obtain rfl := oi_ hg
       exact Bt [] ⟨rfl, rfl⟩
      ·refine Ay ?_
       repeat first | refine Dg ?_ | refine Df ?_
       refine Aj ?_
       refine Bu 1 9 Bg ?_
       refine Ao ?_
       refine Al fun hU => ?_
       refine A3 ?_
       refine Ix (fun (i_4 : Int) => mk [(1, .ptr 0 0), (3, .val (.int .i64 i_4))] [(0, .box (Am.dv c) 85)] 1) hg (A9 [(0, 0)]) ?_
       rintro i_4 m4 o4 hg hn4
       replace hg : Be.l4 c i_4 = some o4 := hg
       show Cy _ _ _ _ (mk _ _ _)
       unfold Be.l4 at hg
       refine Aj ?_
       refine Bu 1 41 Bg ?_
       refine Ao ?_
       refine Al fun hU => ?_
       refine D1 rfl hg (fun h41 hg => ?_) fun h41 hg => ?_
       ·refine Ay ?_
        repeat first | refine Dg ?_ | refine Df ?_
        refine Aj ?_
        refine A3 ?_
        refine B7 (ι := Bool) (fun (x123_5 : Bool) => mk [(1, .ptr 0 0), (3, .val (.int .i64 i_4)), (123, .val (.bool x123_5))] [(0, .box (Am.dv c) 85)] 1) (fun (x123_5 : Bool) => Be.j5 i_4 x123_5 = some o4) ?_ ?_
        ·refine Ck (Cd _ _ []) (by kernel_rfl) [0, 1, 0, 7, 15, 31, 63, 127, 255, 511, 1023, 2047, 4095, 2047, 10239, 32767, 65535, 2047, 133119, 2047, 919551, 1968127, 4194303, 8388607, 16777215] 41 241 hU rfl rfl (by kernel_rfl) ?_
         refine Ao ?_
         obtain ⟨e, he, hg⟩ := Ad hg
         refine Ao ?_
         refine Cl rfl rfl (Cz kI (Do Nt (Aq he) (o := 0) (c := .str e) rfl rfl)) rfl rfl ?_
         obtain ⟨y_6, hy_6, hg⟩ := Ad hg
         refine E4 (Pl _ _ hy_6) ?_
         refine Ao ?_
         rcases E8 hg with ⟨h42, hg⟩ | ⟨h42, hg⟩
         ·refine Ao ?_
          refine Al fun hU => ?_
          exact ⟨true, hg, A9 [(0, 0)]⟩
         ·refine Ao ?_
          rcases E8 hg with ⟨h44, hg⟩ | ⟨h44, hg⟩
          ·refine Ao ?_
           obtain ⟨e_2, he_2, hg⟩ := Ad hg
           refine Ao ?_
           refine Cl (Cj rfl rfl h44) rfl (Cz kI (Do Nt (Aq he_2) (o := 0) (c := .str e_2) rfl rfl)) rfl rfl ?_
           refine Ao ?_
           refine Cl (Cj rfl rfl h44) rfl (Cz kI (Do Nt (Aq he) (o := 0) (c := .str e) rfl rfl)) rfl rfl ?_
           refine Cl (Cj rfl rfl h44) rfl dP rfl rfl ?_
           refine Ao ?_
           refine Al fun hU => ?_
           exact ⟨!gH (Ny e_2) (Ny e), hg, A9 [(0, 0)]⟩
          ·refine Ao ?_
           refine Al fun hU => ?_
           exact ⟨false, hg, A9 [(0, 0)]⟩
        ·rintro x123_5 hg
         replace hg : Be.j5 i_4 x123_5 = some o4 := hg
         show Cy _ _ _ _ (mk _ _ _)
         unfold Be.j5 at hg
         refine D1 rfl hg (fun h47 hg => ?_) fun h47 hg => ?_
         ·refine Aj ?_
          refine Af (Cd _ _ []) 1 9 Bg rfl rfl ?_
          refine Ao ?_
          refine Al fun hU => ?_
          refine Bv ?_
          replace hg := Cr hg hn4
          obtain rfl := oi_ hg
          exact Bt [] ⟨rfl, rfl⟩
         ·refine Ay ?_
          repeat first | refine Dg ?_ | refine Df ?_
          refine Af (Cd _ _ []) 1 25 Bg rfl rfl ?_
          refine Ao ?_
          refine Al fun hU => ?_
          obtain rfl := oi_ hg
          exact ⟨(W (i_4 + 1), m4), Nat.lt_succ_self _, hn4, A9 [(0, 0)]⟩
       ·refine B8 ?_
        repeat first | refine Dg ?_ | refine Df ?_
        replace hg := Cr hg hn4
        refine Aj ?_
        refine B7 (ι := Bool) (fun (x145_6 : Bool) => mk [(145, .val (.bool x145_6))] [] 0) (fun (x145_6 : Bool) => Be.j6 x145_6 = some r) ?_ ?_
        ·refine Af (Cd _ _ []) 41 217 hU rfl rfl ?_
         refine Ao ?_
         rcases E8 hg with ⟨h50, hg⟩ | ⟨h50, hg⟩
         ·refine Ao ?_
          refine Al fun hU => ?_
          exact ⟨true, hg, A9 []⟩
         ·refine Ao ?_
          rcases E8 hg with ⟨h52, hg⟩ | ⟨h52, hg⟩
          ·refine Ao ?_
           refine Al fun hU => ?_
           exact ⟨true, hg, A9 []⟩
          ·refine Ao ?_
           rcases E8 hg with ⟨h54, hg⟩ | ⟨h54, hg⟩
           ·refine Ao ?_
            refine Al fun hU => ?_
            exact ⟨true, hg, A9 []⟩
           ·refine Ao ?_
            refine Al fun hU => ?_
            exact ⟨decide (4294967296 <= c.Seal.Sum), hg, A9 []⟩
        ·rintro x145_6 hg
         replace hg : Be.j6 x145_6 = some r := hg
         show Cy _ _ _ _ (mk _ _ _)
         unfold Be.j6 at hg
         refine D1 rfl hg (fun h57 hg => ?_) fun h57 hg => ?_
         ·refine Aj ?_
          refine Af (Cd _ _ []) 0 8 Bg rfl rfl ?_
          refine Ao ?_
          refine Al fun hU => ?_
          refine Bv ?_
          obtain rfl := oi_ hg
          exact Bt [] ⟨rfl, rfl⟩
         ·refine Ay ?_
          repeat first | refine Dg ?_ | refine Df ?_
          refine Bu 0 8 Bg ?_
          refine Ao ?_
          refine Al fun hU => ?_
          refine Bv ?_
          obtain rfl := oi_ hg
          exact Bt [] ⟨rfl, rfl⟩
theorem Pr (s : ByteArray) (r : Ah) (hg : In s = some r) : Fn Tryz.prog 113 0 [.val (.string s)] [] (fun d' b' => d' = .agg (Ah.dv r) /\ b' = []) := by
 unfold In at hg
 refine Fn.of Tryz.func113 rfl rfl rfl fun w0 I ρ0 => ?_
 show Cy _ ⟨w0, I, ρ0, 0, 0, 6⟩ _ _ _
 refine Bu 0 8 Bg ?_
 refine Ao ?_
 refine Al fun hU => ?_
 refine Bu 8 40 hU ?_
 refine Ao ?_
 refine Cl rfl rfl (Z4 U1 dD V7) rfl rfl ?_
 refine Cl rfl rfl (.build (r := [.val (.int .i64 12), .sl 1 (Av e8 (Ny s)), .val (.bool false), .val (.slice none 0 0)]) Py aZ Ye (by kernel_rfl) rfl) rfl rfl ?_
 refine Ao ?_
 refine Al fun hU => ?_
 refine Bv ?_
 obtain rfl := oi_ hg
 exact Bt [] ⟨rfl, rfl⟩
theorem Jk (n : Int) (r : Ah) (hg : C0 n = some r) : Fn Tryz.prog 115 0 [.val (.int .i64 n)] [] (fun d' b' => d' = .agg (Ah.dv r) /\ b' = []) := by
 unfold C0 at hg
 refine Fn.of Tryz.func115 rfl rfl rfl fun w0 I ρ0 => ?_
 show Cy _ ⟨w0, I, ρ0, 0, 0, 45⟩ _ _ _
 refine Bu 0 8 Bg ?_
 refine Ao ?_
 refine Al fun hU => ?_
 refine Bu 8 40 hU ?_
 refine Ao ?_
 refine Cl rfl rfl (Lw V4 V7) rfl rfl ?_
 refine Cl rfl rfl (Bc K6 z5 (by decide) rfl rfl rfl rfl lW (cs := [.int .u8 ((u8 n).toNat : Int)]) (.cons .int .nil) rfl (l := ([(u8 n)] : List UInt8)) (f := e8) rfl) rfl rfl ?_
 refine Ao ?_
 refine Al fun hU => ?_
 refine Aj ?_
 refine Bu 40 64 hU ?_
 refine Ao ?_
 obtain ⟨q, hq, hg⟩ := Ad hg
 refine Cl rfl rfl (U2 hq) rfl rfl ?_
 refine Ao ?_
 refine Al fun hU => ?_
 refine A3 ?_
 refine Ix (fun ((x_1, b_1) : Int × List UInt8) => mk [(2, .ptr 0 0), (3, .row 1), (4, .val (.int .i64 x_1))] [(0, .box [.val (.int .i64 0), .val (.slice none 0 0), .val (.bool false), .val (.slice none 0 0)] 138), (1, .row 5 1 (Av e8 b_1))] 2) hg (A9 [(0, 0), (1, 24)]) ?_
 rintro ⟨x_1, b_1⟩ m1 o1 hg hn1
 replace hg : C0.l1 x_1 b_1 = some o1 := hg
 show Cy _ _ _ _ (mk _ _ _)
 unfold C0.l1 at hg
 refine Aj ?_
 refine B7 (ι := Bool) (fun (x35_2 : Bool) => mk [(2, .ptr 0 0), (3, .row 1), (4, .val (.int .i64 x_1)), (35, .val (.bool x35_2))] [(0, .box [.val (.int .i64 0), .val (.slice none 0 0), .val (.bool false), .val (.slice none 0 0)] 138), (1, .row 5 1 (Av e8 b_1))] 2) (fun (x35_2 : Bool) => C0.j2 x_1 b_1 x35_2 = some o1) ?_ ?_
 ·refine Af (Cd _ _ []) 2 210 Bg rfl rfl ?_
  refine Ao ?_
  rcases E8 hg with ⟨h4, hg⟩ | ⟨h4, hg⟩
  ·refine Ao ?_
   rcases E8 hg with ⟨h5, hg⟩ | ⟨h5, hg⟩
   ·refine Ao ?_
    refine Al fun hU => ?_
    exact ⟨true, hg, A9 [(0, 0), (1, 1)]⟩
   ·refine Ao ?_
    rcases E8 hg with ⟨h7, hg⟩ | ⟨h7, hg⟩
    ·refine Ao ?_
     obtain ⟨e, he, hg⟩ := Ad hg
     refine Ao ?_
     refine Da (rd := [1]) (Cj rfl rfl h7) rfl (.loadR1 lX (Do I7 (Aq he) (o := 0) (c := .int .u8 (e.toNat : Int)) rfl rfl)) rfl rfl ?_
     refine Ao ?_
     rcases E8 hg with ⟨h8, hg⟩ | ⟨h8, hg⟩
     ·refine Ao ?_
      refine Al fun hU => ?_
      exact ⟨true, hg, A9 [(0, 0), (1, 1)]⟩
     ·refine Ao ?_
      rcases E8 hg with ⟨h10, hg⟩ | ⟨h10, hg⟩
      ·refine Ao ?_
       refine Da (rd := [1]) (Cj rfl rfl h10) rfl (.loadR1 lX (Do I7 (Aq he) (o := 0) (c := .int .u8 (e.toNat : Int)) rfl rfl)) rfl rfl ?_
       refine Ao ?_
       refine Al fun hU => ?_
       exact ⟨decide ((e.toNat : Int) < 128), hg, A9 [(0, 0), (1, 1)]⟩
      ·refine Ao ?_
       refine Al fun hU => ?_
       exact ⟨false, hg, A9 [(0, 0), (1, 1)]⟩
    ·refine Ao ?_
     rcases E8 hg with ⟨h13, hg⟩ | ⟨h13, hg⟩
     ·refine Ao ?_
      obtain ⟨e_2, he_2, hg⟩ := Ad hg
      refine Ao ?_
      refine Da (rd := [1]) (Cj rfl rfl h13) rfl (.loadR1 lX (Do I7 (Aq he_2) (o := 0) (c := .int .u8 (e_2.toNat : Int)) rfl rfl)) rfl rfl ?_
      refine Ao ?_
      refine Al fun hU => ?_
      exact ⟨decide ((e_2.toNat : Int) < 128), hg, A9 [(0, 0), (1, 1)]⟩
     ·refine Ao ?_
      refine Al fun hU => ?_
      exact ⟨false, hg, A9 [(0, 0), (1, 1)]⟩
  ·refine Ao ?_
   rcases E8 hg with ⟨h16, hg⟩ | ⟨h16, hg⟩
   ·refine Ao ?_
    obtain ⟨e_3, he_3, hg⟩ := Ad hg
    refine Ao ?_
    refine Da (rd := [1]) (Cj rfl rfl h16) rfl (.loadR1 lX (Do I7 (Aq he_3) (o := 0) (c := .int .u8 (e_3.toNat : Int)) rfl rfl)) rfl rfl ?_
    refine Ao ?_
    rcases E8 hg with ⟨h17, hg⟩ | ⟨h17, hg⟩
    ·refine Ao ?_
     refine Al fun hU => ?_
     exact ⟨true, hg, A9 [(0, 0), (1, 1)]⟩
    ·refine Ao ?_
     rcases E8 hg with ⟨h19, hg⟩ | ⟨h19, hg⟩
     ·refine Ao ?_
      refine Da (rd := [1]) (Cj rfl rfl h19) rfl (.loadR1 lX (Do I7 (Aq he_3) (o := 0) (c := .int .u8 (e_3.toNat : Int)) rfl rfl)) rfl rfl ?_
      refine Ao ?_
      refine Al fun hU => ?_
      exact ⟨decide ((e_3.toNat : Int) < 128), hg, A9 [(0, 0), (1, 1)]⟩
     ·refine Ao ?_
      refine Al fun hU => ?_
      exact ⟨false, hg, A9 [(0, 0), (1, 1)]⟩
   ·refine Ao ?_
    rcases E8 hg with ⟨h22, hg⟩ | ⟨h22, hg⟩
    ·refine Ao ?_
     obtain ⟨e_4, he_4, hg⟩ := Ad hg
     refine Ao ?_
     refine Da (rd := [1]) (Cj rfl rfl h22) rfl (.loadR1 lX (Do I7 (Aq he_4) (o := 0) (c := .int .u8 (e_4.toNat : Int)) rfl rfl)) rfl rfl ?_
     refine Ao ?_
     refine Al fun hU => ?_
     exact ⟨decide ((e_4.toNat : Int) < 128), hg, A9 [(0, 0), (1, 1)]⟩
    ·refine Ao ?_
     refine Al fun hU => ?_
     exact ⟨false, hg, A9 [(0, 0), (1, 1)]⟩
 ·rintro x35_2 hg
  replace hg : C0.j2 x_1 b_1 x35_2 = some o1 := hg
  show Cy _ _ _ _ (mk _ _ _)
  unfold C0.j2 at hg
  refine D1 rfl hg (fun h25 hg => ?_) fun h25 hg => ?_
  ·refine Ay ?_
   repeat first | refine Dg ?_ | refine Df ?_
   refine Aj ?_
   refine A3 ?_
   refine Af (Cd _ _ []) 2 50 Bg rfl rfl ?_
   refine Ao ?_
   refine Cl rfl rfl (Lw V4 V7) rfl rfl ?_
   refine Cl rfl rfl (Bc K6 z5 (by decide) rfl rfl rfl rfl lW (cs := [.int .u8 ((u8 x_1).toNat : Int)]) (.cons .int .nil) rfl (l := ([(u8 x_1)] : List UInt8)) (f := e8) rfl) rfl rfl ?_
   refine Ao ?_
   obtain ⟨l, hl, hg⟩ := Ad hg
   refine Da (rd := [18, 1]) rfl rfl (E3 K6 I7 .row rfl .row rfl hl rfl) rfl rfl ?_
   refine Ao ?_
   refine Al fun hU => ?_
   refine Af (Cd _ _ []) 50 74 hU rfl rfl ?_
   refine Ao ?_
   obtain ⟨q_2, hq_2, hg⟩ := Ad hg
   refine Cl rfl rfl (U2 hq_2) rfl rfl ?_
   refine Ao ?_
   refine Al fun hU => ?_
   obtain rfl := oi_ hg
   exact ⟨((q_2, l), m1), Nat.lt_succ_self _, hn1, A9 [(0, 0), (1, 34)]⟩
  ·refine B8 ?_
   repeat first | refine Dg ?_ | refine Df ?_
   replace hg := Cr hg hn1
   refine Bu 2 26 Bg ?_
   refine Ao ?_
   refine Cl rfl rfl (.build (r := [.val (.int .i64 2), .row 1, .val (.bool false), .val (.slice none 0 0)]) Py aZ Ye (by kernel_rfl) rfl) rfl rfl ?_
   refine Ao ?_
   refine Al fun hU => ?_
   refine Bv ?_
   obtain rfl := oi_ hg
   exact Bt [] ⟨rfl, rfl⟩
theorem Np.F (rec : (List Ah) -> Option ((List Ah))) (hrec : ∀ (l : (List Ah)) (r : (List Ah)), rec l = some r -> Fn Tryz.prog 143 0 [.sl 4 (Av Ah.enc l)] [] (fun d' b' => d' = .sl 4 (Av Ah.enc r) /\ b' = [])) (l : (List Ah)) (r : (List Ah)) (hg : Dj.F rec l = some r) : Fn Tryz.prog 143 0 [.sl 4 (Av Ah.enc l)] [] (fun d' b' => d' = .sl 4 (Av Ah.enc r) /\ b' = []) := by
 unfold Dj.F at hg
 refine Fn.of Tryz.func143 rfl rfl rfl fun w0 I ρ0 => ?_
 show Cy _ ⟨w0, I, ρ0, 0, 0, 30⟩ _ _ _
 refine Bu 0 8 Bg ?_
 refine Ao ?_
 refine Al fun hU => ?_
 refine Bu 8 16 hU ?_
 refine Ao ?_
 refine Al fun hU => ?_
 refine Aj ?_
 refine Bu 16 24 hU ?_
 refine Ao ?_
 refine Al fun hU => ?_
 refine A3 ?_
 refine Ix (fun ((i_1, out_1) : Int × List Ah) => mk [(0, .sl 4 (Av Ah.enc l)), (3, .row 0), (4, .val (.int .i64 i_1))] [(0, .row 138 4 (Av Ah.enc out_1))] 1) hg (A9 []) ?_
 rintro ⟨i_1, out_1⟩ m1 o1 hg hn1
 replace hg : Dj.l1 rec l i_1 out_1 = some o1 := hg
 show Cy _ _ _ _ (mk _ _ _)
 unfold Dj.l1 at hg
 refine Aj ?_
 refine Bu 1 33 Bg ?_
 refine Ao ?_
 refine Al fun hU => ?_
 refine D1 rfl hg (fun h5 hg => ?_) fun h5 hg => ?_
 ·refine Ay ?_
  repeat first | refine Dg ?_ | refine Df ?_
  refine Aj ?_
  refine A3 ?_
  refine Bu 33 81 hU ?_
  refine Ao ?_
  obtain ⟨e, he, hg⟩ := Ad hg
  refine Ao ?_
  refine Cl rfl rfl (D4 aG (Bh Ah.enc_len (Aq he) (o := 0) (m := 4) (cs := [.int .i64 e.Tag, .sl 1 (Av e8 e.Bytes), .bool e.Nested, .sl 4 (Av Ah.enc e.Elements)]) (by simp only [Ah.enc_eq]; rfl) (by decide) rfl) (Ax Ah.enc_len (Aq he) (o := 0) (m := 4) (by decide) rfl)) rfl rfl ?_
  refine Ao ?_
  refine Al fun hU => ?_
  refine Bu 81 129 hU ?_
  refine Cl rfl rfl (Bc K6 z5 (by decide) rfl rfl rfl rfl lW (cs := []) .nil rfl (l := ([] : List UInt8)) (f := e8) rfl) rfl rfl ?_
  refine Ao ?_
  obtain ⟨l_2, hl_2, hg⟩ := Ad hg
  refine Da (rd := [81]) rfl rfl (E3 K6 I7 .row rfl .sl rfl hl_2 rfl) rfl rfl ?_
  refine Ao ?_
  refine Al fun hU => ?_
  refine Bu 129 169 hU ?_
  refine Ao ?_
  obtain ⟨y, hy, hg⟩ := Ad hg
  refine E4 (hrec _ _ hy) ?_
  refine Ao ?_
  refine Al fun hU => ?_
  refine H6 (σ' := mk [(0, .sl 4 (Av Ah.enc l)), (3, .row 0), (4, .val (.int .i64 i_1)), (5, .ptr 1 0)] [(0, .row 138 4 (Av Ah.enc out_1)), (1, .box [.val (.int .i64 e.Tag), .sl 1 (Av e8 l_2), .val (.bool e.Nested), .sl 4 (Av Ah.enc y)] 138)] 2) (A9 [(0, 0), (1, 65)]) ?_
  refine Af (Cd _ _ []) 2 42 Bg rfl rfl ?_
  refine Ao ?_
  refine Cl rfl rfl (Bc W0 Ye (by decide) rfl rfl rfl rfl eQ (cs := [.int .i64 e.Tag, .sl 1 (Av e8 l_2), .bool e.Nested, .sl 4 (Av Ah.enc y)]) (.cons .int (.cons .sl (.cons .bool (.cons .sl .nil)))) rfl (l := ([(Ah.mk e.Tag l_2 e.Nested y)] : List Ah)) (f := Ah.enc) (by simp only [Av, List.flatMap_cons, List.flatMap_nil, Ah.enc_eq]; rfl)) rfl rfl ?_
  obtain ⟨l_3, hl_3, hg⟩ := Ad hg
  refine Da (rd := [0, 18]) rfl rfl (E3 W0 Ah.enc_len .row rfl .row rfl hl_3 rfl) rfl rfl ?_
  refine Ao ?_
  refine Al fun hU => ?_
  refine Af (Cd _ _ []) 42 66 hU rfl rfl ?_
  refine Ao ?_
  refine Al fun hU => ?_
  obtain rfl := oi_ hg
  exact ⟨((W (i_1 + 1), l_3), m1), Nat.lt_succ_self _, hn1, A9 [(0, 26)]⟩
 ·refine B8 ?_
  repeat first | refine Dg ?_ | refine Df ?_
  replace hg := Cr hg hn1
  refine Bu 33 49 hU ?_
  refine Ao ?_
  refine Al fun hU => ?_
  refine Bv ?_
  obtain rfl := oi_ hg
  exact Bt [] ⟨rfl, rfl⟩
theorem Np (l : (List Ah)) (r : (List Ah)) (hg : Dj l = some r) : Fn Tryz.prog 143 0 [.sl 4 (Av Ah.enc l)] [] (fun d' b' => d' = .sl 4 (Av Ah.enc r) /\ b' = []) :=
 Q0 (motive := fun (x : (List Ah)) (r : (List Ah)) => Fn Tryz.prog 143 0 [.sl 4 (Av Ah.enc x)] [] (fun d' b' => d' = .sl 4 (Av Ah.enc r) /\ b' = [])) (fun rec hrec x r h => Np.F _ (fun l r h => hrec l r h) x r h) l r hg
theorem Pk (l : (List Ah)) (r : Ah) (hg : Il l = some r) : Fn Tryz.prog 114 0 [.sl 4 (Av Ah.enc l)] [] (fun d' b' => d' = .agg (Ah.dv r) /\ b' = []) := by
 unfold Il at hg
 refine Fn.of Tryz.func114 rfl rfl rfl fun w0 I ρ0 => ?_
 show Cy _ ⟨w0, I, ρ0, 0, 0, 6⟩ _ _ _
 refine Bu 0 8 Bg ?_
 refine Ao ?_
 refine Al fun hU => ?_
 refine Bu 8 40 hU ?_
 refine Ao ?_
 obtain ⟨y, hy, hg⟩ := Ad hg
 refine E4 (Np _ _ hy) ?_
 refine Cl rfl rfl (.build (r := [.val (.int .i64 48), .val (.slice none 0 0), .val (.bool true), .sl 4 (Av Ah.enc y)]) Py aZ Ye (by kernel_rfl) rfl) rfl rfl ?_
 refine Ao ?_
 refine Al fun hU => ?_
 refine Bv ?_
 obtain rfl := oi_ hg
 exact Bt [] ⟨rfl, rfl⟩
theorem Vf (u : Az) (r : Ah) (hg : Kq u = some r) : Fn Tryz.prog 116 0 [.agg [.val (.int .i64 u.Alg), .val (.int .i64 u.Bits)]] [] (fun d' b' => d' = .agg (Ah.dv r) /\ b' = []) := by
 unfold Kq at hg
 refine Fn.of Tryz.func116 rfl rfl rfl fun w0 I ρ0 => ?_
 show Cy _ ⟨w0, I, ρ0, 0, 0, 11⟩ _ _ _
 refine Bu 0 16 Bg ?_
 refine Ao ?_
 refine Al fun hU => ?_
 refine Aj ?_
 refine Ck (Cd _ _ [64]) (by kernel_rfl) [0, 1, 3, 0, 8, 31, 63, 127, 255] 16 88 hU rfl rfl (by kernel_rfl) ?_
 refine Ao ?_
 obtain ⟨y, hy, hg⟩ := Ad hg
 refine E4 (Jk _ _ hy) ?_
 refine Ao ?_
 obtain ⟨y_2, hy_2, hg⟩ := Ad hg
 refine E4 (Jk _ _ hy_2) ?_
 refine Wn (rd := []) rfl rfl (Bc W0 Ye (by decide) rfl rfl rfl rfl eQ (cs := [.int .i64 y.Tag, .sl 1 (Av e8 y.Bytes), .bool y.Nested, .sl 4 (Av Ah.enc y.Elements), .int .i64 y_2.Tag, .sl 1 (Av e8 y_2.Bytes), .bool y_2.Nested, .sl 4 (Av Ah.enc y_2.Elements)]) (.cons .int (.cons .sl (.cons .bool (.cons .sl (.cons .int (.cons .sl (.cons .bool (.cons .sl .nil)))))))) rfl (l := ([y, y_2] : List Ah)) (f := Ah.enc) (by simp only [Av, List.flatMap_cons, List.flatMap_nil, Ah.enc_eq]; rfl)) rfl rfl rfl ?_
 obtain ⟨y_3, hy_3, hg⟩ := Ad hg
 refine E4 (Pk _ _ hy_3) ?_
 refine Ao ?_
 refine Al fun hU => ?_
 refine Bv ?_
 obtain rfl := oi_ hg
 exact Bt [] ⟨rfl, rfl⟩
theorem aB (b : Bool) (r : Ah) (hg : Kz b = some r) : Fn Tryz.prog 117 0 [.val (.bool b)] [] (fun d' b' => d' = .agg (Ah.dv r) /\ b' = []) := by
 unfold Kz at hg
 refine Fn.of Tryz.func117 rfl rfl rfl fun w0 I ρ0 => ?_
 show Cy _ ⟨w0, I, ρ0, 0, 0, 8⟩ _ _ _
 refine Bu 0 8 Bg ?_
 refine Ao ?_
 refine Al fun hU => ?_
 refine Aj ?_
 refine Bu 8 16 hU ?_
 refine Ao ?_
 refine Al fun hU => ?_
 refine D1 rfl hg (fun h3 hg => ?_) fun h3 hg => ?_
 ·refine Aj ?_
  refine Af (Cd _ _ []) 16 40 hU rfl rfl ?_
  refine Cl rfl rfl (Bc K6 z5 (by decide) rfl rfl rfl rfl lW (cs := [.int .u8 255]) (.cons .int .nil) rfl (l := ([(255 : UInt8)] : List UInt8)) (f := e8) rfl) rfl rfl ?_
  refine Cl rfl rfl (.build (r := [.val (.int .i64 1), .row 16, .val (.bool false), .val (.slice none 0 0)]) Py aZ Ye (by kernel_rfl) rfl) rfl rfl ?_
  refine Ao ?_
  refine Al fun hU => ?_
  refine Bv ?_
  obtain rfl := oi_ hg
  exact Bt [] ⟨rfl, rfl⟩
 ·refine Ay ?_
  repeat first | refine Dg ?_ | refine Df ?_
  refine Bu 16 40 hU ?_
  refine Cl rfl rfl (Bc K6 z5 (by decide) rfl rfl rfl rfl lW (cs := [.int .u8 0]) (.cons .int .nil) rfl (l := ([(0 : UInt8)] : List UInt8)) (f := e8) rfl) rfl rfl ?_
  refine Cl rfl rfl (.build (r := [.val (.int .i64 1), .row 16, .val (.bool false), .val (.slice none 0 0)]) Py aZ Ye (by kernel_rfl) rfl) rfl rfl ?_
  refine Ao ?_
  refine Al fun hU => ?_
  refine Bv ?_
  obtain rfl := oi_ hg
  exact Bt [] ⟨rfl, rfl⟩
theorem Z3 (c : Am) (r : Ah) (hg : Ge c = some r) : Fn Tryz.prog 84 0 [.agg (Am.dv c)] [] (fun d' b' => d' = .agg (Ah.dv r) /\ b' = []) := by
 unfold Ge at hg
 refine Fn.of Tryz.func84 rfl rfl rfl fun w0 I ρ0 => ?_
 show Cy _ ⟨w0, I, ρ0, 0, 0, 55⟩ _ _ _
 refine Bu 0 16 Bg ?_
 refine Ao ?_
 refine Al fun hU => ?_
 refine Bu 16 24 hU ?_
 refine Ao ?_
 refine Al fun hU => ?_
 refine Aj ?_
 refine Bu 24 32 hU ?_
 refine Ao ?_
 refine Al fun hU => ?_
 refine A3 ?_
 refine Ix (fun ((i_1, names_1) : Int × List Ah) => mk [(1, .ptr 0 0), (2, .ptr 1 0), (3, .row 2), (4, .val (.int .i64 i_1))] [(0, .box (Am.dv c) 85), (1, .box [.val (.int .i64 0), .val (.slice none 0 0), .val (.bool false), .val (.slice none 0 0)] 138), (2, .row 138 4 (Av Ah.enc names_1))] 3) hg (A9 [(0, 0), (1, 8)]) ?_
 rintro ⟨i_1, names_1⟩ m1 o1 hg hn1
 replace hg : Ge.l1 c i_1 names_1 = some o1 := hg
 show Cy _ _ _ _ (mk _ _ _)
 unfold Ge.l1 at hg
 refine Aj ?_
 refine Bu 3 43 Bg ?_
 refine Ao ?_
 refine Al fun hU => ?_
 refine D1 rfl hg (fun h5 hg => ?_) fun h5 hg => ?_
 ·refine Ay ?_
  repeat first | refine Dg ?_ | refine Df ?_
  refine Aj ?_
  refine A3 ?_
  refine Af (Cd _ _ []) 43 123 hU rfl rfl ?_
  refine Ao ?_
  obtain ⟨e, he, hg⟩ := Ad hg
  refine Ao ?_
  refine Cl rfl rfl (Cz kI (Do Nt (Aq he) (o := 0) (c := .str e) rfl rfl)) rfl rfl ?_
  obtain ⟨y, hy, hg⟩ := Ad hg
  refine E4 (Pr _ _ hy) ?_
  refine Cl rfl rfl (Bc W0 Ye (by decide) rfl rfl rfl rfl eQ (cs := [.int .i64 y.Tag, .sl 1 (Av e8 y.Bytes), .bool y.Nested, .sl 4 (Av Ah.enc y.Elements)]) (.cons .int (.cons .sl (.cons .bool (.cons .sl .nil)))) rfl (l := ([y] : List Ah)) (f := Ah.enc) (by simp only [Av, List.flatMap_cons, List.flatMap_nil, Ah.enc_eq]; rfl)) rfl rfl ?_
  obtain ⟨l, hl, hg⟩ := Ad hg
  refine Da (rd := [2, 99]) rfl rfl (E3 W0 Ah.enc_len .row rfl .row rfl hl rfl) rfl rfl ?_
  refine Ao ?_
  refine Al fun hU => ?_
  refine Af (Cd _ _ []) 123 147 hU rfl rfl ?_
  refine Ao ?_
  refine Al fun hU => ?_
  obtain rfl := oi_ hg
  exact ⟨((W (i_1 + 1), l), m1), Nat.lt_succ_self _, hn1, A9 [(0, 0), (1, 1), (2, 107)]⟩
 ·refine B8 ?_
  repeat first | refine Dg ?_ | refine Df ?_
  replace hg := Cr hg hn1
  refine Aj ?_
  refine H6 (σ' := mk [(1, .ptr 0 0), (2, .ptr 1 0), (3, .sl 4 (Av Ah.enc names_1))] [(0, .box (Am.dv c) 85), (1, .box [.val (.int .i64 0), .val (.slice none 0 0), .val (.bool false), .val (.slice none 0 0)] 138)] 2) (A9 [(0, 0), (1, 1)]) ?_
  refine Ck (Cd _ _ [258]) (by kernel_rfl) [0, 1, 3, 0, 8, 31, 0, 64, 255, 0, 512, 2047, 0, 4096, 16383, 0, 32768, 131071, 0, 262144, 1048575, 0, 2097152, 8388607, 0, 16777216, 67108863, 0, 134217728, 536870911, 0, 2147483647, 4294967295, 8589934591, 17179869183] 2 282 Bg rfl rfl (by kernel_rfl) ?_
  refine Ao ?_
  obtain ⟨y_12, hy_12, hg⟩ := Ad hg
  refine E4 (Jk _ _ hy_12) ?_
  refine Ao ?_
  obtain ⟨y_13, hy_13, hg⟩ := Ad hg
  refine E4 (Pr _ _ hy_13) ?_
  refine Ao ?_
  obtain ⟨y_14, hy_14, hg⟩ := Ad hg
  refine E4 (Pr _ _ hy_14) ?_
  refine Ao ?_
  obtain ⟨y_15, hy_15, hg⟩ := Ad hg
  refine E4 (Vf _ _ hy_15) ?_
  refine Ao ?_
  obtain ⟨y_16, hy_16, hg⟩ := Ad hg
  refine E4 (Jk _ _ hy_16) ?_
  refine Ao ?_
  obtain ⟨y_17, hy_17, hg⟩ := Ad hg
  refine E4 (Vf _ _ hy_17) ?_
  refine Ao ?_
  obtain ⟨y_18, hy_18, hg⟩ := Ad hg
  refine E4 (Jk _ _ hy_18) ?_
  refine Ao ?_
  obtain ⟨y_19, hy_19, hg⟩ := Ad hg
  refine E4 (Jk _ _ hy_19) ?_
  refine Ao ?_
  obtain ⟨y_20, hy_20, hg⟩ := Ad hg
  refine E4 (aB _ _ hy_20) ?_
  refine Ao ?_
  obtain ⟨y_21, hy_21, hg⟩ := Ad hg
  refine E4 (Jk _ _ hy_21) ?_
  refine Ao ?_
  obtain ⟨y_22, hy_22, hg⟩ := Ad hg
  refine E4 (Pk _ _ hy_22) ?_
  refine Wn (rd := []) rfl rfl (Bc W0 Ye (by decide) rfl rfl rfl rfl eQ (cs := [.int .i64 y_12.Tag, .sl 1 (Av e8 y_12.Bytes), .bool y_12.Nested, .sl 4 (Av Ah.enc y_12.Elements), .int .i64 y_13.Tag, .sl 1 (Av e8 y_13.Bytes), .bool y_13.Nested, .sl 4 (Av Ah.enc y_13.Elements), .int .i64 y_14.Tag, .sl 1 (Av e8 y_14.Bytes), .bool y_14.Nested, .sl 4 (Av Ah.enc y_14.Elements), .int .i64 y_15.Tag, .sl 1 (Av e8 y_15.Bytes), .bool y_15.Nested, .sl 4 (Av Ah.enc y_15.Elements), .int .i64 y_16.Tag, .sl 1 (Av e8 y_16.Bytes), .bool y_16.Nested, .sl 4 (Av Ah.enc y_16.Elements), .int .i64 y_17.Tag, .sl 1 (Av e8 y_17.Bytes), .bool y_17.Nested, .sl 4 (Av Ah.enc y_17.Elements), .int .i64 y_18.Tag, .sl 1 (Av e8 y_18.Bytes), .bool y_18.Nested, .sl 4 (Av Ah.enc y_18.Elements), .int .i64 y_19.Tag, .sl 1 (Av e8 y_19.Bytes), .bool y_19.Nested, .sl 4 (Av Ah.enc y_19.Elements), .int .i64 y_20.Tag, .sl 1 (Av e8 y_20.Bytes), .bool y_20.Nested, .sl 4 (Av Ah.enc y_20.Elements), .int .i64 y_21.Tag, .sl 1 (Av e8 y_21.Bytes), .bool y_21.Nested, .sl 4 (Av Ah.enc y_21.Elements), .int .i64 y_22.Tag, .sl 1 (Av e8 y_22.Bytes), .bool y_22.Nested, .sl 4 (Av Ah.enc y_22.Elements)]) (.cons .int (.cons .sl (.cons .bool (.cons .sl (.cons .int (.cons .sl (.cons .bool (.cons .sl (.cons .int (.cons .sl (.cons .bool (.cons .sl (.cons .int (.cons .sl (.cons .bool (.cons .sl (.cons .int (.cons .sl (.cons .bool (.cons .sl (.cons .int (.cons .sl (.cons .bool (.cons .sl (.cons .int (.cons .sl (.cons .bool (.cons .sl (.cons .int (.cons .sl (.cons .bool (.cons .sl (.cons .int (.cons .sl (.cons .bool (.cons .sl (.cons .int (.cons .sl (.cons .bool (.cons .sl (.cons .int (.cons .sl (.cons .bool (.cons .sl .nil)))))))))))))))))))))))))))))))))))))))))))) rfl (l := ([y_12, y_13, y_14, y_15, y_16, y_17, y_18, y_19, y_20, y_21, y_22] : List Ah)) (f := Ah.enc) (by simp only [Av, List.flatMap_cons, List.flatMap_nil, Ah.enc_eq]; rfl)) rfl rfl rfl ?_
  obtain ⟨y_23, hy_23, hg⟩ := Ad hg
  refine E4 (Pk _ _ hy_23) ?_
  refine Ao ?_
  refine Al fun hU => ?_
  refine Bv ?_
  obtain rfl := oi_ hg
  exact Bt [] ⟨rfl, rfl⟩
theorem aK (n : Int) (r : Bool) (hg : L8 n = some r) : Fn Tryz.prog 141 0 [.val (.int .i64 n)] [] (fun d' b' => d' = .val (.bool r) /\ b' = []) := by
 unfold L8 at hg
 refine Fn.of Tryz.func141 rfl rfl rfl fun w0 I ρ0 => ?_
 show Cy _ ⟨w0, I, ρ0, 0, 0, 14⟩ _ _ _
 refine Bu 0 8 Bg ?_
 refine Ao ?_
 refine Al fun hU => ?_
 refine Bu 8 104 hU ?_
 refine Ao ?_
 rcases E8 hg with ⟨h2, hg⟩ | ⟨h2, hg⟩
 ·refine Ao ?_
  rcases E8 hg with ⟨h3, hg⟩ | ⟨h3, hg⟩
  ·refine Ao ?_
   obtain ⟨q, hq, hg⟩ := Ad hg
   refine Cl (Cj rfl rfl h3) rfl (aW hq) rfl rfl ?_
   refine Ao ?_
   refine Al fun hU => ?_
   refine Bv ?_
   obtain rfl := oi_ hg
   exact Bt [] ⟨rfl, rfl⟩
  ·refine Ao ?_
   refine Al fun hU => ?_
   refine Bv ?_
   obtain rfl := oi_ hg
   exact Bt [] ⟨rfl, rfl⟩
 ·refine Ao ?_
  refine Al fun hU => ?_
  refine Bv ?_
  obtain rfl := oi_ hg
  exact Bt [] ⟨rfl, rfl⟩
theorem M8.F (rec : Ah -> Option (Bool)) (hrec : ∀ (v : Ah) (r : Bool), rec v = some r -> Fn Tryz.prog 110 0 [.agg (Ah.dv v)] [] (fun d' b' => d' = .val (.bool r) /\ b' = [])) (v : Ah) (r : Bool) (hg : Cc.F rec v = some r) : Fn Tryz.prog 110 0 [.agg (Ah.dv v)] [] (fun d' b' => d' = .val (.bool r) /\ b' = []) := by
 unfold Cc.F at hg
 refine Fn.of Tryz.func110 rfl rfl rfl fun w0 I ρ0 => ?_
 show Cy _ ⟨w0, I, ρ0, 0, 0, 53⟩ _ _ _
 refine Bu 0 16 Bg ?_
 refine Ao ?_
 refine Al fun hU => ?_
 refine Aj ?_
 refine B7 (ι := Bool) (fun (x38_1 : Bool) => mk [(1, .ptr 0 0), (38, .val (.bool x38_1))] [(0, .box (Ah.dv v) 138)] 1) (fun (x38_1 : Bool) => Cc.j1 rec v x38_1 = some r) ?_ ?_
 ·refine Af (Cd _ _ []) 16 296 hU rfl rfl ?_
  refine Ao ?_
  obtain ⟨y, hy, hg⟩ := Ad hg
  refine E4 (aK _ _ hy) ?_
  refine Ao ?_
  rcases E8 hg with ⟨h2, hg⟩ | ⟨h2, hg⟩
  ·refine Ao ?_
   refine Al fun hU => ?_
   exact ⟨true, hg, A9 [(0, 0)]⟩
  ·refine Ao ?_
   obtain ⟨q, hq, hg⟩ := Ad hg
   refine Cl (Cj rfl rfl h2) rfl (Rc hq) rfl rfl ?_
   obtain ⟨q_2, hq_2, hg⟩ := Ad hg
   refine Cl (Cj rfl rfl h2) rfl (aW hq_2) rfl rfl ?_
   refine Ao ?_
   refine Cl (Cj rfl rfl h2) rfl (qB zC) rfl rfl ?_
   refine Ao ?_
   rcases E8 hg with ⟨h4, hg⟩ | ⟨h4, hg⟩
   ·refine Ao ?_
    refine Al fun hU => ?_
    exact ⟨true, hg, A9 [(0, 0)]⟩
   ·refine Ao ?_
    rcases E8 hg with ⟨h6, hg⟩ | ⟨h6, hg⟩
    ·refine Ao ?_
     rcases E8 hg with ⟨h7, hg⟩ | ⟨h7, hg⟩
     ·refine Ao ?_
      refine Al fun hU => ?_
      exact ⟨true, hg, A9 [(0, 0)]⟩
     ·refine Ao ?_
      refine Al fun hU => ?_
      exact ⟨false, hg, A9 [(0, 0)]⟩
    ·refine Ao ?_
     refine Al fun hU => ?_
     exact ⟨decide (0 < (v.Elements.length : Int)), hg, A9 [(0, 0)]⟩
 ·rintro x38_1 hg
  replace hg : Cc.j1 rec v x38_1 = some r := hg
  show Cy _ _ _ _ (mk _ _ _)
  unfold Cc.j1 at hg
  refine D1 rfl hg (fun h11 hg => ?_) fun h11 hg => ?_
  ·refine Aj ?_
   refine Af (Cd _ _ []) 1 9 Bg rfl rfl ?_
   refine Ao ?_
   refine Al fun hU => ?_
   refine Bv ?_
   obtain rfl := oi_ hg
   exact Bt [] ⟨rfl, rfl⟩
  ·refine Ay ?_
   repeat first | refine Dg ?_ | refine Df ?_
   refine Aj ?_
   refine Bu 1 9 Bg ?_
   refine Ao ?_
   refine Al fun hU => ?_
   refine A3 ?_
   refine Ix (fun (i_2 : Int) => mk [(1, .ptr 0 0), (3, .val (.int .i64 i_2))] [(0, .box (Ah.dv v) 138)] 1) hg (A9 [(0, 0)]) ?_
   rintro i_2 m2 o2 hg hn2
   replace hg : Cc.l2 rec v i_2 = some o2 := hg
   show Cy _ _ _ _ (mk _ _ _)
   unfold Cc.l2 at hg
   refine Aj ?_
   refine Bu 1 41 Bg ?_
   refine Ao ?_
   refine Al fun hU => ?_
   refine D1 rfl hg (fun h15 hg => ?_) fun h15 hg => ?_
   ·refine Ay ?_
    repeat first | refine Dg ?_ | refine Df ?_
    refine Aj ?_
    refine A3 ?_
    refine Bu 41 97 hU ?_
    refine Ao ?_
    obtain ⟨e, he, hg⟩ := Ad hg
    refine Ao ?_
    refine Cl rfl rfl (D4 aG (Bh Ah.enc_len (Aq he) (o := 0) (m := 4) (cs := [.int .i64 e.Tag, .sl 1 (Av e8 e.Bytes), .bool e.Nested, .sl 4 (Av Ah.enc e.Elements)]) (by simp only [Ah.enc_eq]; rfl) (by decide) rfl) (Ax Ah.enc_len (Aq he) (o := 0) (m := 4) (by decide) rfl)) rfl rfl ?_
    obtain ⟨y_2, hy_2, hg⟩ := Ad hg
    refine E4 (hrec _ _ hy_2) ?_
    refine Ao ?_
    refine Al fun hU => ?_
    refine D1 rfl hg (fun h17 hg => ?_) fun h17 hg => ?_
    ·refine Aj ?_
     refine Af (Cd _ _ []) 97 105 hU rfl rfl ?_
     refine Ao ?_
     refine Al fun hU => ?_
     refine Bv ?_
     replace hg := Cr hg hn2
     obtain rfl := oi_ hg
     exact Bt [] ⟨rfl, rfl⟩
    ·refine Ay ?_
     repeat first | refine Dg ?_ | refine Df ?_
     refine Af (Cd _ _ []) 97 121 hU rfl rfl ?_
     refine Ao ?_
     refine Al fun hU => ?_
     obtain rfl := oi_ hg
     exact ⟨(W (i_2 + 1), m2), Nat.lt_succ_self _, hn2, A9 [(0, 0)]⟩
   ·refine B8 ?_
    repeat first | refine Dg ?_ | refine Df ?_
    replace hg := Cr hg hn2
    refine Bu 41 49 hU ?_
    refine Ao ?_
    refine Al fun hU => ?_
    refine Bv ?_
    obtain rfl := oi_ hg
    exact Bt [] ⟨rfl, rfl⟩
theorem M8 (v : Ah) (r : Bool) (hg : Cc v = some r) : Fn Tryz.prog 110 0 [.agg (Ah.dv v)] [] (fun d' b' => d' = .val (.bool r) /\ b' = []) :=
 Q0 (motive := fun (x : Ah) (r : Bool) => Fn Tryz.prog 110 0 [.agg (Ah.dv x)] [] (fun d' b' => d' = .val (.bool r) /\ b' = [])) (fun rec hrec x r h => M8.F _ (fun v r h => hrec v r h) x r h) v r hg
theorem Oc.F (rec : Ah -> Option (Int)) (hrec : ∀ (v : Ah) (r : Int), rec v = some r -> Fn Tryz.prog 111 0 [.agg (Ah.dv v)] [] (fun d' b' => d' = .val (.int .i64 r) /\ b' = [])) (v : Ah) (r : Int) (hg : Du.F rec v = some r) : Fn Tryz.prog 111 0 [.agg (Ah.dv v)] [] (fun d' b' => d' = .val (.int .i64 r) /\ b' = []) := by
 unfold Du.F at hg
 refine Fn.of Tryz.func111 rfl rfl rfl fun w0 I ρ0 => ?_
 show Cy _ ⟨w0, I, ρ0, 0, 0, 22⟩ _ _ _
 refine Bu 0 16 Bg ?_
 refine Ao ?_
 refine Al fun hU => ?_
 refine Bu 16 24 hU ?_
 refine Ao ?_
 refine Al fun hU => ?_
 refine Aj ?_
 refine Bu 24 32 hU ?_
 refine Ao ?_
 refine Al fun hU => ?_
 refine A3 ?_
 refine Ix (fun ((d_1, i_1) : Int × Int) => mk [(1, .ptr 0 0), (3, .val (.int .i64 d_1)), (4, .val (.int .i64 i_1))] [(0, .box (Ah.dv v) 138)] 1) hg (A9 [(0, 0)]) ?_
 rintro ⟨d_1, i_1⟩ m1 o1 hg hn1
 replace hg : Du.l1 rec v d_1 i_1 = some o1 := hg
 show Cy _ _ _ _ (mk _ _ _)
 unfold Du.l1 at hg
 refine Aj ?_
 refine Bu 1 41 Bg ?_
 refine Ao ?_
 refine Al fun hU => ?_
 refine D1 rfl hg (fun h5 hg => ?_) fun h5 hg => ?_
 ·refine Ay ?_
  repeat first | refine Dg ?_ | refine Df ?_
  refine Aj ?_
  refine A3 ?_
  refine Af (Cd _ _ []) 41 113 hU rfl rfl ?_
  refine Ao ?_
  obtain ⟨e, he, hg⟩ := Ad hg
  refine Ao ?_
  refine Cl rfl rfl (D4 aG (Bh Ah.enc_len (Aq he) (o := 0) (m := 4) (cs := [.int .i64 e.Tag, .sl 1 (Av e8 e.Bytes), .bool e.Nested, .sl 4 (Av Ah.enc e.Elements)]) (by simp only [Ah.enc_eq]; rfl) (by decide) rfl) (Ax Ah.enc_len (Aq he) (o := 0) (m := 4) (by decide) rfl)) rfl rfl ?_
  obtain ⟨y, hy, hg⟩ := Ad hg
  refine E4 (hrec _ _ hy) ?_
  refine Cl rfl rfl wO rfl rfl ?_
  refine Ao ?_
  refine Al fun hU => ?_
  refine Af (Cd _ _ []) 113 137 hU rfl rfl ?_
  refine Ao ?_
  refine Al fun hU => ?_
  obtain rfl := oi_ hg
  exact ⟨((max d_1 y, W (i_1 + 1)), m1), Nat.lt_succ_self _, hn1, A9 [(0, 0)]⟩
 ·refine B8 ?_
  repeat first | refine Dg ?_ | refine Df ?_
  replace hg := Cr hg hn1
  refine Bu 41 65 hU ?_
  refine Ao ?_
  refine Al fun hU => ?_
  refine Bv ?_
  obtain rfl := oi_ hg
  exact Bt [] ⟨rfl, rfl⟩
theorem Oc (v : Ah) (r : Int) (hg : Du v = some r) : Fn Tryz.prog 111 0 [.agg (Ah.dv v)] [] (fun d' b' => d' = .val (.int .i64 r) /\ b' = []) :=
 Q0 (motive := fun (x : Ah) (r : Int) => Fn Tryz.prog 111 0 [.agg (Ah.dv x)] [] (fun d' b' => d' = .val (.int .i64 r) /\ b' = [])) (fun rec hrec x r h => Oc.F _ (fun v r h => hrec v r h) x r h) v r hg
end Go.Proofs.YtkpcbnnlefcebaaGreat
