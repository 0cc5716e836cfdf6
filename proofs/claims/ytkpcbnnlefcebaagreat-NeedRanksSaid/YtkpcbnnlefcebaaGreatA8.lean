import Derived.Test.YtkpcbnnlefcebaaGreatT1
import Derived.Test.YtkpcbnnlefcebaaGreatA1
import Derived.Test.YtkpcbnnlefcebaaGreatA3
import Derived.Test.YtkpcbnnlefcebaaGreatA7
set_option linter.unusedVariables false
set_option linter.unusedSimpArgs false
set_option maxRecDepth 100000
set_option maxHeartbeats 1600000
namespace Go.Proofs.YtkpcbnnlefcebaaGreat
open Go.RowKit
theorem Uk (i : By) (r : Int) (hg : Bi i = some r) : Fn Tryz.prog 64 0 [.agg (By.dv i)] [] (fun d' b' => d' = .val (.int .i64 r) /\ b' = []) := by
 unfold Bi at hg
 refine Fn.of Tryz.func64 rfl rfl rfl fun w0 I ρ0 => ?_
 show Cy _ ⟨w0, I, ρ0, 0, 0, 96⟩ _ _ _
 refine Bu 0 16 Bg ?_
 refine Ao ?_
 refine Al fun hU => ?_
 refine B7 (ι := Bool) (fun (known_1 : Bool) => mk [(1, .ptr 0 0), (3, .val (.bool known_1))] [(0, .box (By.dv i) 77)] 1) (fun (known_1 : Bool) => Bi.j1 i known_1 = some r) ?_ ?_
 ·refine Af (Cd _ _ []) 16 88 hU rfl rfl ?_
  refine Ao ?_
  rcases E8 hg with ⟨h2, hg⟩ | ⟨h2, hg⟩
  ·refine Ao ?_
   refine Al fun hU => ?_
   exact ⟨true, hg, A9 [(0, 0)]⟩
  ·refine Ao ?_
   refine Al fun hU => ?_
   exact ⟨decide (i.Kind = 2), hg, A9 [(0, 0)]⟩
 ·rintro known_1 hg
  replace hg : Bi.j1 i known_1 = some r := hg
  show Cy _ _ _ _ (mk _ _ _)
  unfold Bi.j1 at hg
  refine Aj ?_
  refine B7 (ι := Bool) (fun (x43_2 : Bool) => mk [(1, .ptr 0 0), (43, .val (.bool x43_2))] [(0, .box (By.dv i) 77)] 1) (fun (x43_2 : Bool) => Bi.j2 i x43_2 = some r) ?_ ?_
  ·refine Af (Cd _ _ []) 1 241 Bg rfl rfl ?_
   refine Ao ?_
   obtain ⟨y, hy, hg⟩ := Ad hg
   refine E4 (Ki _ _ hy) ?_
   refine Ao ?_
   rcases E8 hg with ⟨h5, hg⟩ | ⟨h5, hg⟩
   ·refine Ao ?_
    refine Al fun hU => ?_
    exact ⟨true, hg, A9 [(0, 0)]⟩
   ·refine Ao ?_
    rcases E8 hg with ⟨h7, hg⟩ | ⟨h7, hg⟩
    ·refine Ao ?_
     refine Al fun hU => ?_
     exact ⟨true, hg, A9 [(0, 0)]⟩
    ·refine Ao ?_
     rcases E8 hg with ⟨h9, hg⟩ | ⟨h9, hg⟩
     ·refine Ao ?_
      refine Al fun hU => ?_
      exact ⟨true, hg, A9 [(0, 0)]⟩
     ·refine Ao ?_
      rcases E8 hg with ⟨h11, hg⟩ | ⟨h11, hg⟩
      ·refine Ao ?_
       refine Al fun hU => ?_
       exact ⟨true, hg, A9 [(0, 0)]⟩
      ·refine Ao ?_
       rcases E8 hg with ⟨h13, hg⟩ | ⟨h13, hg⟩
       ·refine Ao ?_
        refine Al fun hU => ?_
        exact ⟨true, hg, A9 [(0, 0)]⟩
       ·refine Ao ?_
        refine Al fun hU => ?_
        exact ⟨decide (8 < (i.Links.length : Int)), hg, A9 [(0, 0)]⟩
  ·rintro x43_2 hg
   replace hg : Bi.j2 i x43_2 = some r := hg
   show Cy _ _ _ _ (mk _ _ _)
   unfold Bi.j2 at hg
   refine D1 rfl hg (fun h16 hg => ?_) fun h16 hg => ?_
   ·refine Aj ?_
    refine Af (Cd _ _ []) 1 9 Bg rfl rfl ?_
    refine Ao ?_
    refine Al fun hU => ?_
    refine Bv ?_
    obtain rfl := oi_ hg
    exact Bt [] ⟨rfl, rfl⟩
   ·refine Ay ?_
    repeat first | refine Dg ?_ | refine Df ?_
    refine Aj ?_
    refine Bu 1 33 Bg ?_
    refine Ao ?_
    refine Al fun hU => ?_
    refine A3 ?_
    refine Ix (fun (x47_3 : Int) => mk [(1, .ptr 0 0), (45, .sl 3 (Av Ds.enc i.Links)), (46, .val (.int .i64 (i.Links.length : Int))), (47, .val (.int .i64 x47_3))] [(0, .box (By.dv i) 77)] 1) hg (A9 [(0, 0)]) ?_
    rintro x47_3 m3 o3 hg hn3
    replace hg : Bi.l3 i x47_3 = some o3 := hg
    show Cy _ _ _ _ (mk _ _ _)
    unfold Bi.l3 at hg
    refine Bu 1 9 Bg ?_
    refine Ao ?_
    refine Al fun hU => ?_
    refine Aj ?_
    refine D1 rfl hg (fun h20 hg => ?_) fun h20 hg => ?_
    ·refine Ay ?_
     repeat first | refine Dg ?_ | refine Df ?_
     refine Aj ?_
     refine A3 ?_
     refine Bu 9 57 hU ?_
     refine Ao ?_
     obtain ⟨e, he, hg⟩ := Ad hg
     refine Ao ?_
     refine Cl rfl rfl (D4 pM (Bh Ds.enc_len (Aq he) (o := 0) (m := 3) (cs := [.int .i64 e.Use.Alg, .int .i64 e.Use.Bits, .int .i64 e.Day]) rfl (by decide) rfl) (Ax Ds.enc_len (Aq he) (o := 0) (m := 3) (by decide) rfl)) rfl rfl ?_
     refine Ao ?_
     refine Al fun hU => ?_
     refine B7 (ι := Bool) (fun (x81_4 : Bool) => mk [(1, .ptr 0 0), (45, .sl 3 (Av Ds.enc i.Links)), (46, .val (.int .i64 (i.Links.length : Int))), (47, .val (.int .i64 x47_3)), (81, .val (.bool x81_4))] [(0, .box (By.dv i) 77)] 1) (fun (x81_4 : Bool) => Bi.j4 x47_3 x81_4 = some o3) ?_ ?_
     ·refine Ck (Cd _ _ []) (by kernel_rfl) [0, 1, 3, 7, 15, 31, 63, 127, 255, 511, 1023, 2047, 4095, 8191, 16383, 32767, 65535, 131071, 262143, 524287, 262143, 1310719, 4194303, 8388607, 16777215, 262143, 33816575, 134217727, 268435455, 536870911] 57 297 hU rfl rfl (by kernel_rfl) ?_
      refine Ao ?_
      obtain ⟨y_2, hy_2, hg⟩ := Ad hg
      refine E4 (Mi _ _ hy_2) ?_
      refine Ao ?_
      rcases E8 hg with ⟨h22, hg⟩ | ⟨h22, hg⟩
      ·refine Ao ?_
       refine Al fun hU => ?_
       exact ⟨true, hg, A9 [(0, 0)]⟩
      ·refine Ao ?_
       rcases E8 hg with ⟨h24, hg⟩ | ⟨h24, hg⟩
       ·refine Ao ?_
        refine Al fun hU => ?_
        exact ⟨true, hg, A9 [(0, 0)]⟩
       ·refine Ao ?_
        rcases E8 hg with ⟨h26, hg⟩ | ⟨h26, hg⟩
        ·refine Ao ?_
         refine Al fun hU => ?_
         exact ⟨true, hg, A9 [(0, 0)]⟩
        ·refine Ao ?_
         rcases E8 hg with ⟨h28, hg⟩ | ⟨h28, hg⟩
         ·refine Ao ?_
          obtain ⟨e_2, he_2, hg⟩ := Ad hg
          refine Ao ?_
          refine Cl (Cj rfl rfl h28) rfl (Ig Z2 Nw (by decide) (Nu Ds.enc_len (Aq he_2) (o := 2) (by decide) rfl)) rfl rfl ?_
          refine Cl (Cj rfl rfl h28) rfl (Cz Nw (Do Ds.enc_len (Aq he_2) (o := 2) (c := .int .i64 e_2.Day) rfl rfl)) rfl rfl ?_
          refine Ao ?_
          refine Al fun hU => ?_
          exact ⟨decide (e.Day <= e_2.Day), hg, A9 [(0, 0)]⟩
         ·refine Ao ?_
          refine Al fun hU => ?_
          exact ⟨false, hg, A9 [(0, 0)]⟩
     ·rintro x81_4 hg
      replace hg : Bi.j4 x47_3 x81_4 = some o3 := hg
      show Cy _ _ _ _ (mk _ _ _)
      unfold Bi.j4 at hg
      refine D1 rfl hg (fun h31 hg => ?_) fun h31 hg => ?_
      ·refine Aj ?_
       refine Af (Cd _ _ []) 1 9 Bg rfl rfl ?_
       refine Ao ?_
       refine Al fun hU => ?_
       refine Bv ?_
       replace hg := Cr hg hn3
       obtain rfl := oi_ hg
       exact Bt [] ⟨rfl, rfl⟩
      ·refine Ay ?_
       repeat first | refine Dg ?_ | refine Df ?_
       refine Af (Cd _ _ []) 1 17 Bg rfl rfl ?_
       refine Ao ?_
       refine Al fun hU => ?_
       obtain rfl := oi_ hg
       exact ⟨(W (x47_3 + 1), m3), Nat.lt_succ_self _, hn3, A9 [(0, 0)]⟩
    ·refine B8 ?_
     repeat first | refine Dg ?_ | refine Df ?_
     replace hg := Cr hg hn3
     refine Aj ?_
     refine B7 (ι := Bool) (fun (x95_5 : Bool) => mk [(95, .val (.bool x95_5))] [] 0) (fun (x95_5 : Bool) => Bi.j5 x95_5 = some r) ?_ ?_
     ·refine Ck (Cd _ _ []) (by kernel_rfl) [0, 1, 0, 4, 12, 28, 60, 127, 255, 511, 1023, 2047, 4095] 9 113 hU rfl rfl (by kernel_rfl) ?_
      refine Ao ?_
      obtain ⟨e_3, he_3, hg⟩ := Ad hg
      refine Ao ?_
      refine Cl rfl rfl (Ig Z2 Nw (by decide) (Nu Ds.enc_len (Aq he_3) (o := 2) (by decide) rfl)) rfl rfl ?_
      refine Cl rfl rfl (Cz Nw (Do Ds.enc_len (Aq he_3) (o := 2) (c := .int .i64 e_3.Day) rfl rfl)) rfl rfl ?_
      refine Ao ?_
      rcases E8 hg with ⟨h34, hg⟩ | ⟨h34, hg⟩
      ·refine Ao ?_
       refine Al fun hU => ?_
       exact ⟨true, hg, A9 []⟩
      ·refine Ao ?_
       refine Al fun hU => ?_
       exact ⟨decide (40000 < i.Until), hg, A9 []⟩
     ·rintro x95_5 hg
      replace hg : Bi.j5 x95_5 = some r := hg
      show Cy _ _ _ _ (mk _ _ _)
      unfold Bi.j5 at hg
      refine D1 rfl hg (fun h37 hg => ?_) fun h37 hg => ?_
      ·refine Aj ?_
       refine Af (Cd _ _ []) 0 8 Bg rfl rfl ?_
       refine Ao ?_
       refine Al fun hU => ?_
       refine Bv ?_
       obtain rfl := oi_ hg
       exact Bt [] ⟨rfl, rfl⟩
      ·refine Ay ?_
       repeat first | refine Dg ?_ | refine Df ?_
       refine Bu 0 8 Bg ?_
       refine Ao ?_
       refine Al fun hU => ?_
       refine Bv ?_
       obtain rfl := oi_ hg
       exact Bt [] ⟨rfl, rfl⟩
theorem Sb (x' : By) (r : Bool) (hg : Gl x' = some r) : Fn Tryz.prog 63 0 [.agg (By.dv x')] [] (fun d' b' => d' = .val (.bool r) /\ b' = []) := by
 unfold Gl at hg
 refine Fn.of Tryz.func63 rfl rfl rfl fun w0 I ρ0 => ?_
 show Cy _ ⟨w0, I, ρ0, 0, 0, 6⟩ _ _ _
 refine Bu 0 16 Bg ?_
 refine Ao ?_
 refine Al fun hU => ?_
 refine Bu 16 48 hU ?_
 refine Ao ?_
 obtain ⟨y, hy, hg⟩ := Ad hg
 refine E4 (Uk _ _ hy) ?_
 refine Ao ?_
 refine Al fun hU => ?_
 refine Bv ?_
 obtain rfl := oi_ hg
 exact Bt [] ⟨rfl, rfl⟩
theorem Js (s : (List By)) (f : By -> Option (Bool)) (hf_f : ∀ (x0 : By) (y : Bool), f x0 = some y -> Fn Tryz.prog 63 0 [.agg (By.dv x0)] [] (fun d' b' => d' = .val (.bool y) /\ b' = [])) (r : Int) (hg : B4 s f = some r) : Fn Tryz.prog 94 0 [.sl 5 (Av By.enc s), .clo 63 0 []] [] (fun d' b' => d' = .val (.int .i64 r) /\ b' = []) := by
 unfold B4 at hg
 refine Fn.of Tryz.func94 rfl rfl rfl fun w0 I ρ0 => ?_
 show Cy _ ⟨w0, I, ρ0, 0, 0, 19⟩ _ _ _
 refine Bu 0 8 Bg ?_
 refine Ao ?_
 refine Al fun hU => ?_
 refine Aj ?_
 refine Bu 8 32 hU ?_
 refine Ao ?_
 refine Al fun hU => ?_
 refine A3 ?_
 refine Ix (fun (x8_1 : Int) => mk [(0, .sl 5 (Av By.enc s)), (1, .clo 63 0 []), (7, .val (.int .i64 (s.length : Int))), (8, .val (.int .i64 x8_1))] [] 0) hg (A9 []) ?_
 rintro x8_1 m1 o1 hg hn1
 replace hg : B4.l1 s f x8_1 = some o1 := hg
 show Cy _ _ _ _ (mk _ _ _)
 unfold B4.l1 at hg
 refine Bu 0 8 Bg ?_
 refine Ao ?_
 refine Al fun hU => ?_
 refine Aj ?_
 refine D1 rfl hg (fun h4 hg => ?_) fun h4 hg => ?_
 ·refine Ay ?_
  repeat first | refine Dg ?_ | refine Df ?_
  refine Aj ?_
  refine A3 ?_
  refine Bu 8 24 hU ?_
  refine Ao ?_
  refine Al fun hU => ?_
  refine Bu 24 72 hU ?_
  refine Ao ?_
  obtain ⟨e, he, hg⟩ := Ad hg
  refine Ao ?_
  refine Cl rfl rfl (D4 vT (Bh By.enc_len (Aq he) (o := 0) (m := 5) (cs := [.str e.Name, .int .i64 e.Kind, .int .i64 e.Purpose, .sl 3 (Av Ds.enc e.Links), .int .i64 e.Until]) rfl (by decide) rfl) (Ax By.enc_len (Aq he) (o := 0) (m := 5) (by decide) rfl)) rfl rfl ?_
  obtain ⟨y, hy, hg⟩ := Ad hg
  refine Fg (rd := []) (ps := []) (gs := []) false rfl rfl (hf_f e _ hy) rfl rfl (.cons (.agg (.cons .val (.cons .val (.cons .val (.cons .sl (.cons .val .nil)))))) .nil) rfl rfl (by intro h; cases h) rfl rfl rfl rfl ?_
  refine Al fun hU => ?_
  refine D1 rfl hg (fun h7 hg => ?_) fun h7 hg => ?_
  ·refine Aj ?_
   refine Af (Cd _ _ []) 72 88 hU rfl rfl ?_
   refine Ao ?_
   refine Al fun hU => ?_
   refine Bv ?_
   replace hg := Cr hg hn1
   obtain rfl := oi_ hg
   exact Bt [] ⟨rfl, rfl⟩
  ·refine Ay ?_
   repeat first | refine Dg ?_ | refine Df ?_
   refine Af (Cd _ _ []) 72 88 hU rfl rfl ?_
   refine Ao ?_
   refine Al fun hU => ?_
   obtain rfl := oi_ hg
   exact ⟨(W (x8_1 + 1), m1), Nat.lt_succ_self _, hn1, A9 []⟩
 ·refine B8 ?_
  repeat first | refine Dg ?_ | refine Df ?_
  replace hg := Cr hg hn1
  refine Bu 8 16 hU ?_
  refine Ao ?_
  refine Al fun hU => ?_
  refine Bv ?_
  obtain rfl := oi_ hg
  exact Bt [] ⟨rfl, rfl⟩
theorem I6 (s : (List By)) (f : By -> Option (Bool)) (hf_f : ∀ (x0 : By) (y : Bool), f x0 = some y -> Fn Tryz.prog 63 0 [.agg (By.dv x0)] [] (fun d' b' => d' = .val (.bool y) /\ b' = [])) (r : Bool) (hg : E2 s f = some r) : Fn Tryz.prog 62 0 [.sl 5 (Av By.enc s), .clo 63 0 []] [] (fun d' b' => d' = .val (.bool r) /\ b' = []) := by
 unfold E2 at hg
 refine Fn.of Tryz.func62 rfl rfl rfl fun w0 I ρ0 => ?_
 show Cy _ ⟨w0, I, ρ0, 0, 0, 9⟩ _ _ _
 refine Bu 0 8 Bg ?_
 refine Ao ?_
 refine Al fun hU => ?_
 refine Bu 8 48 hU ?_
 refine Ao ?_
 obtain ⟨y, hy, hg⟩ := Ad hg
 refine E4 (Js s f hf_f _ hy) ?_
 refine Ao ?_
 refine Al fun hU => ?_
 refine Bv ?_
 obtain rfl := oi_ hg
 exact Bt [] ⟨rfl, rfl⟩
theorem T4 (l : (List Ba)) (size : Int) (r : Bool) (hg : B9 l size = some r) : Fn Tryz.prog 65 0 [.sl 2 (Av Ba.enc l), .val (.int .i64 size)] [] (fun d' b' => d' = .val (.bool r) /\ b' = []) := by
 unfold B9 at hg
 refine Fn.of Tryz.func65 rfl rfl rfl fun w0 I ρ0 => ?_
 show Cy _ ⟨w0, I, ρ0, 0, 0, 80⟩ _ _ _
 refine Bu 0 8 Bg ?_
 refine Ao ?_
 refine Al fun hU => ?_
 refine Aj ?_
 refine Bu 8 32 hU ?_
 refine Ao ?_
 refine Al fun hU => ?_
 refine A3 ?_
 refine Ix (fun (x9_1 : Int) => mk [(0, .sl 2 (Av Ba.enc l)), (1, .val (.int .i64 size)), (7, .sl 2 (Av Ba.enc l)), (8, .val (.int .i64 (l.length : Int))), (9, .val (.int .i64 x9_1))] [] 0) hg (A9 []) ?_
 rintro x9_1 m1 o1 hg hn1
 replace hg : B9.l1 l size x9_1 = some o1 := hg
 show Cy _ _ _ _ (mk _ _ _)
 unfold B9.l1 at hg
 refine Bu 0 8 Bg ?_
 refine Ao ?_
 refine Al fun hU => ?_
 refine Aj ?_
 refine D1 rfl hg (fun h4 hg => ?_) fun h4 hg => ?_
 ·refine Ay ?_
  repeat first | refine Dg ?_ | refine Df ?_
  refine Aj ?_
  refine A3 ?_
  refine Bu 8 56 hU ?_
  refine Ao ?_
  obtain ⟨e, he, hg⟩ := Ad hg
  refine Ao ?_
  refine Cl rfl rfl (D4 oI (Bh Ba.enc_len (Aq he) (o := 0) (m := 2) (cs := [.int .i64 e.Client, .int .i64 e.Server]) rfl (by decide) rfl) (Ax Ba.enc_len (Aq he) (o := 0) (m := 2) (by decide) rfl)) rfl rfl ?_
  refine Ao ?_
  refine Al fun hU => ?_
  refine Aj ?_
  refine B7 (ι := Bool) (fun (x40_2 : Bool) => mk [(0, .sl 2 (Av Ba.enc l)), (1, .val (.int .i64 size)), (5, .val (.int .i64 x9_1)), (6, .ptr 0 0), (7, .sl 2 (Av Ba.enc l)), (8, .val (.int .i64 (l.length : Int))), (9, .val (.int .i64 x9_1)), (40, .val (.bool x40_2))] [(0, .box [.val (.int .i64 e.Client), .val (.int .i64 e.Server)] 34)] 1) (fun (x40_2 : Bool) => B9.j2 l x9_1 e x40_2 = some o1) ?_ ?_
  ·refine Af (Cd _ _ []) 56 272 hU rfl rfl ?_
   refine Ao ?_
   rcases E8 hg with ⟨h6, hg⟩ | ⟨h6, hg⟩
   ·refine Ao ?_
    refine Al fun hU => ?_
    exact ⟨true, hg, A9 [(0, 32)]⟩
   ·refine Ao ?_
    rcases E8 hg with ⟨h8, hg⟩ | ⟨h8, hg⟩
    ·refine Ao ?_
     refine Al fun hU => ?_
     exact ⟨true, hg, A9 [(0, 32)]⟩
    ·refine Ao ?_
     rcases E8 hg with ⟨h10, hg⟩ | ⟨h10, hg⟩
     ·refine Ao ?_
      refine Al fun hU => ?_
      exact ⟨true, hg, A9 [(0, 32)]⟩
     ·refine Ao ?_
      rcases E8 hg with ⟨h12, hg⟩ | ⟨h12, hg⟩
      ·refine Ao ?_
       refine Al fun hU => ?_
       exact ⟨true, hg, A9 [(0, 32)]⟩
      ·refine Ao ?_
       refine Al fun hU => ?_
       exact ⟨decide (e.Client = e.Server), hg, A9 [(0, 32)]⟩
  ·rintro x40_2 hg
   replace hg : B9.j2 l x9_1 e x40_2 = some o1 := hg
   show Cy _ _ _ _ (mk _ _ _)
   unfold B9.j2 at hg
   refine D1 rfl hg (fun h15 hg => ?_) fun h15 hg => ?_
   ·refine Aj ?_
    refine Af (Cd _ _ []) 1 9 Bg rfl rfl ?_
    refine Ao ?_
    refine Al fun hU => ?_
    refine Bv ?_
    replace hg := Cr hg hn1
    obtain rfl := oi_ hg
    exact Bt [] ⟨rfl, rfl⟩
   ·refine Ay ?_
    repeat first | refine Dg ?_ | refine Df ?_
    refine B7 (ι := Bool) (fun (x75_3 : Bool) => mk [(0, .sl 2 (Av Ba.enc l)), (1, .val (.int .i64 size)), (7, .sl 2 (Av Ba.enc l)), (8, .val (.int .i64 (l.length : Int))), (9, .val (.int .i64 x9_1)), (75, .val (.bool x75_3))] [] 0) (fun (x75_3 : Bool) => B9.j3 x9_1 x75_3 = some o1) ?_ ?_
    ·refine Ck (Cd _ _ []) (by kernel_rfl) [0, 1, 3, 7, 7, 23, 63, 127, 255, 7, 519, 2047, 4095, 8191, 8191, 24575, 65535, 131071, 262143, 8191, 532479, 2097151, 4194303, 8388607, 8388607, 25165823, 67108863, 134217727, 268435455, 8388607, 545259519, 2147483647, 4294967295, 8589934591, 17179869183] 1 281 Bg rfl rfl (by kernel_rfl) ?_
     refine Ao ?_
     rcases E8 hg with ⟨h17, hg⟩ | ⟨h17, hg⟩
     ·refine Ao ?_
      obtain ⟨e_2, he_2, hg⟩ := Ad hg
      refine Ao ?_
      refine Cl (Cj rfl rfl h17) rfl (Ig cW Nw (by decide) (Nu Ba.enc_len (Aq he_2) (o := 0) (by decide) rfl)) rfl rfl ?_
      refine Cl (Cj rfl rfl h17) rfl (Cz Nw (Do Ba.enc_len (Aq he_2) (o := 0) (c := .int .i64 e_2.Client) rfl rfl)) rfl rfl ?_
      refine Ao ?_
      rcases E8 hg with ⟨h18, hg⟩ | ⟨h18, hg⟩
      ·refine Ao ?_
       refine Al fun hU => ?_
       exact ⟨true, hg, A9 []⟩
      ·refine Ao ?_
       refine Cl (Cj rfl rfl h18) rfl (Ig cW Nw (by decide) (Nu Ba.enc_len (Aq he_2) (o := 0) (by decide) rfl)) rfl rfl ?_
       refine Cl (Cj rfl rfl h18) rfl (Cz Nw (Do Ba.enc_len (Aq he_2) (o := 0) (c := .int .i64 e_2.Client) rfl rfl)) rfl rfl ?_
       refine Ao ?_
       rcases E8 hg with ⟨h20, hg⟩ | ⟨h20, hg⟩
       ·refine Ao ?_
        refine Cl (Cj rfl rfl h20) rfl (Ig lJ Nw (by decide) (Nu Ba.enc_len (Aq he_2) (o := 1) (by decide) rfl)) rfl rfl ?_
        refine Cl (Cj rfl rfl h20) rfl (Cz Nw (Do Ba.enc_len (Aq he_2) (o := 1) (c := .int .i64 e_2.Server) rfl rfl)) rfl rfl ?_
        refine Ao ?_
        refine Al fun hU => ?_
        exact ⟨decide (e.Server <= e_2.Server), hg, A9 []⟩
       ·refine Ao ?_
        refine Al fun hU => ?_
        exact ⟨false, hg, A9 []⟩
     ·refine Ao ?_
      refine Al fun hU => ?_
      exact ⟨false, hg, A9 []⟩
    ·rintro x75_3 hg
     replace hg : B9.j3 x9_1 x75_3 = some o1 := hg
     show Cy _ _ _ _ (mk _ _ _)
     unfold B9.j3 at hg
     refine D1 rfl hg (fun h24 hg => ?_) fun h24 hg => ?_
     ·refine Aj ?_
      refine Af (Cd _ _ []) 0 8 Bg rfl rfl ?_
      refine Ao ?_
      refine Al fun hU => ?_
      refine Bv ?_
      replace hg := Cr hg hn1
      obtain rfl := oi_ hg
      exact Bt [] ⟨rfl, rfl⟩
     ·refine Ay ?_
      repeat first | refine Dg ?_ | refine Df ?_
      refine Af (Cd _ _ []) 0 16 Bg rfl rfl ?_
      refine Ao ?_
      refine Al fun hU => ?_
      obtain rfl := oi_ hg
      exact ⟨(W (x9_1 + 1), m1), Nat.lt_succ_self _, hn1, A9 []⟩
 ·refine B8 ?_
  repeat first | refine Dg ?_ | refine Df ?_
  replace hg := Cr hg hn1
  refine Bu 8 40 hU ?_
  refine Ao ?_
  refine Al fun hU => ?_
  refine Bv ?_
  obtain rfl := oi_ hg
  exact Bt [] ⟨rfl, rfl⟩
theorem Om (e : Bj) (r : Int) (hg : Ce e = some r) : Fn Tryz.prog 38 0 [.agg (Bj.dv e)] [] (fun d' b' => d' = .val (.int .i64 r) /\ b' = []) := by
 unfold Ce at hg
 refine Fn.of Tryz.func38 rfl rfl rfl fun w0 I ρ0 => ?_
 show Cy _ ⟨w0, I, ρ0, 0, 0, 59⟩ _ _ _
 refine Bu 0 16 Bg ?_
 refine Ao ?_
 refine Al fun hU => ?_
 refine Aj ?_
 refine Bu 16 48 hU ?_
 refine Ao ?_
 refine Al fun hU => ?_
 refine A3 ?_
 refine Ix (fun (x9_1 : Int) => mk [(1, .ptr 0 0), (7, .sl 9 (Av Aw.enc e.Endpoints)), (8, .val (.int .i64 (e.Endpoints.length : Int))), (9, .val (.int .i64 x9_1))] [(0, .box (Bj.dv e) 29)] 1) hg (A9 [(0, 0)]) ?_
 rintro x9_1 m1 o1 hg hn1
 replace hg : Ce.l1 e x9_1 = some o1 := hg
 show Cy _ _ _ _ (mk _ _ _)
 unfold Ce.l1 at hg
 refine Bu 1 9 Bg ?_
 refine Ao ?_
 refine Al fun hU => ?_
 refine Aj ?_
 refine D1 rfl hg (fun h4 hg => ?_) fun h4 hg => ?_
 ·refine Ay ?_
  repeat first | refine Dg ?_ | refine Df ?_
  refine Aj ?_
  refine A3 ?_
  refine Bu 9 57 hU ?_
  refine Ao ?_
  obtain ⟨e_2, he_2, hg⟩ := Ad hg
  refine Ao ?_
  refine Cl rfl rfl (D4 dG (Bh Aw.enc_len (Aq he_2) (o := 0) (m := 9) (cs := [.str e_2.Name, .int .i64 e_2.Least, .int .i64 e_2.Most, .sl 1 (Av eI e_2.Suites), .bool e_2.OwnOrder, .sl 4 (Av Bq.enc e_2.Identities), .sl 1 (Av eI e_2.Anchors), .sl 1 (Av eI e_2.Hashes), .bool e_2.Fallback]) rfl (by decide) rfl) (Ax Aw.enc_len (Aq he_2) (o := 0) (m := 9) (by decide) rfl)) rfl rfl ?_
  refine Ao ?_
  refine Al fun hU => ?_
  refine B7 (ι := Bool) (fun (x32_2 : Bool) => mk [(1, .ptr 0 0), (7, .sl 9 (Av Aw.enc e.Endpoints)), (8, .val (.int .i64 (e.Endpoints.length : Int))), (9, .val (.int .i64 x9_1)), (32, .val (.bool x32_2))] [(0, .box (Bj.dv e) 29)] 1) (fun (x32_2 : Bool) => Ce.j2 x9_1 x32_2 = some o1) ?_ ?_
  ·refine Ck (Cd _ _ []) (by kernel_rfl) [0, 1, 3, 7, 15, 31, 63, 127, 255, 127, 639, 2047, 4095, 8191, 127, 16511, 65535, 131071, 262143] 57 209 hU rfl rfl (by kernel_rfl) ?_
   refine Ao ?_
   obtain ⟨y, hy, hg⟩ := Ad hg
   refine E4 (Us _ _ hy) ?_
   refine Ao ?_
   rcases E8 hg with ⟨h6, hg⟩ | ⟨h6, hg⟩
   ·refine Ao ?_
    refine Al fun hU => ?_
    exact ⟨true, hg, A9 [(0, 0)]⟩
   ·refine Ao ?_
    rcases E8 hg with ⟨h8, hg⟩ | ⟨h8, hg⟩
    ·refine Ao ?_
     obtain ⟨e_3, he_3, hg⟩ := Ad hg
     refine Ao ?_
     refine Cl (Cj rfl rfl h8) rfl (Ig iN kI (by decide) (Nu Aw.enc_len (Aq he_3) (o := 0) (by decide) rfl)) rfl rfl ?_
     refine Cl (Cj rfl rfl h8) rfl (Cz kI (Do Aw.enc_len (Aq he_3) (o := 0) (c := .str e_3.Name) rfl rfl)) rfl rfl ?_
     refine Ao ?_
     refine Cl (Cj rfl rfl h8) rfl dP rfl rfl ?_
     refine Ao ?_
     refine Al fun hU => ?_
     exact ⟨!gH (Ny e_3.Name) (Ny e_2.Name), hg, A9 [(0, 0)]⟩
    ·refine Ao ?_
     refine Al fun hU => ?_
     exact ⟨false, hg, A9 [(0, 0)]⟩
  ·rintro x32_2 hg
   replace hg : Ce.j2 x9_1 x32_2 = some o1 := hg
   show Cy _ _ _ _ (mk _ _ _)
   unfold Ce.j2 at hg
   refine D1 rfl hg (fun h11 hg => ?_) fun h11 hg => ?_
   ·refine Aj ?_
    refine Af (Cd _ _ []) 1 9 Bg rfl rfl ?_
    refine Ao ?_
    refine Al fun hU => ?_
    refine Bv ?_
    replace hg := Cr hg hn1
    obtain rfl := oi_ hg
    exact Bt [] ⟨rfl, rfl⟩
   ·refine Ay ?_
    repeat first | refine Dg ?_ | refine Df ?_
    refine Af (Cd _ _ []) 1 17 Bg rfl rfl ?_
    refine Ao ?_
    refine Al fun hU => ?_
    obtain rfl := oi_ hg
    exact ⟨(W (x9_1 + 1), m1), Nat.lt_succ_self _, hn1, A9 [(0, 0)]⟩
 ·refine B8 ?_
  repeat first | refine Dg ?_ | refine Df ?_
  replace hg := Cr hg hn1
  refine Bu 9 41 hU ?_
  refine Ao ?_
  obtain ⟨y_2, hy_2, hg⟩ := Ad hg
  refine E4 (I6 e.Items (fun x0 => Gl x0) (fun x0 y h => Sb x0 y h) _ hy_2) ?_
  refine Ao ?_
  refine Al fun hU => ?_
  refine Aj ?_
  refine B7 (ι := Bool) (fun (x58_3 : Bool) => mk [(58, .val (.bool x58_3))] [] 0) (fun (x58_3 : Bool) => Ce.j3 x58_3 = some r) ?_ ?_
  ·refine Af (Cd _ _ []) 41 217 hU rfl rfl ?_
   refine Ao ?_
   rcases E8 hg with ⟨h15, hg⟩ | ⟨h15, hg⟩
   ·refine Ao ?_
    refine Al fun hU => ?_
    exact ⟨true, hg, A9 []⟩
   ·refine Ao ?_
    rcases E8 hg with ⟨h17, hg⟩ | ⟨h17, hg⟩
    ·refine Ao ?_
     refine Al fun hU => ?_
     exact ⟨true, hg, A9 []⟩
    ·refine Ao ?_
     rcases E8 hg with ⟨h19, hg⟩ | ⟨h19, hg⟩
     ·refine Ao ?_
      refine Al fun hU => ?_
      exact ⟨true, hg, A9 []⟩
     ·refine Ao ?_
      obtain ⟨y_3, hy_3, hg⟩ := Ad hg
      refine E4 (T4 _ _ _ hy_3) ?_
      refine Ao ?_
      refine Al fun hU => ?_
      exact ⟨!y_3, hg, A9 []⟩
  ·rintro x58_3 hg
   replace hg : Ce.j3 x58_3 = some r := hg
   show Cy _ _ _ _ (mk _ _ _)
   unfold Ce.j3 at hg
   refine D1 rfl hg (fun h22 hg => ?_) fun h22 hg => ?_
   ·refine Aj ?_
    refine Af (Cd _ _ []) 0 8 Bg rfl rfl ?_
    refine Ao ?_
    refine Al fun hU => ?_
    refine Bv ?_
    obtain rfl := oi_ hg
    exact Bt [] ⟨rfl, rfl⟩
   ·refine Ay ?_
    repeat first | refine Dg ?_ | refine Df ?_
    refine Bu 0 8 Bg ?_
    refine Ao ?_
    refine Al fun hU => ?_
    refine Bv ?_
    obtain rfl := oi_ hg
    exact Bt [] ⟨rfl, rfl⟩
theorem Pg (e : Bj) (c : An) (r : Bool) (hg : Is e c = some r) : Fn Tryz.prog 41 0 [.agg (Bj.dv e), .agg (An.dv c)] [] (fun d' b' => d' = .val (.bool r) /\ b' = []) := by
 unfold Is at hg
 refine Fn.of Tryz.func41 rfl rfl rfl fun w0 I ρ0 => ?_
 show Cy _ ⟨w0, I, ρ0, 0, 0, 16⟩ _ _ _
 refine Bu 0 24 Bg ?_
 refine Ao ?_
 refine Al fun hU => ?_
 refine Bu 24 120 hU ?_
 refine Ao ?_
 rcases E8 hg with ⟨h2, hg⟩ | ⟨h2, hg⟩
 ·refine Ao ?_
  refine Al fun hU => ?_
  refine Bv ?_
  obtain rfl := oi_ hg
  exact Bt [] ⟨rfl, rfl⟩
 ·refine Ao ?_
  refine Al fun hU => ?_
  refine Bv ?_
  obtain rfl := oi_ hg
  exact Bt [] ⟨rfl, rfl⟩
theorem Uz (c : An) (c0 : Bj) (r : Bool) (hg : Hg c c0 = some r) : Fn Tryz.prog 40 0 [.agg (An.dv c), .elt (([.sl 9 (Av Aw.enc c0.Endpoints), .sl 2 (Av Ba.enc c0.Edges), .sl 5 (Av By.enc c0.Items)] : List C).drop 0)] [] (fun d' b' => d' = .val (.bool r) /\ b' = []) := by
 unfold Hg at hg
 refine Fn.of Tryz.func40 rfl rfl rfl fun w0 I ρ0 => ?_
 show Cy _ ⟨w0, I, ρ0, 0, 0, 8⟩ _ _ _
 refine Bu 0 16 Bg ?_
 refine Ao ?_
 refine Al fun hU => ?_
 refine Bu 16 56 hU ?_
 refine Cl rfl rfl (D4 rC (cs2 := [.sl 9 (Av Aw.enc c0.Endpoints), .sl 2 (Av Ba.enc c0.Edges), .sl 5 (Av By.enc c0.Items)]) rfl (Nat.le_of_ble_eq_true rfl)) rfl rfl ?_
 refine Ao ?_
 obtain ⟨y, hy, hg⟩ := Ad hg
 refine E4 (Pg _ _ _ hy) ?_
 refine Ao ?_
 refine Al fun hU => ?_
 refine Bv ?_
 obtain rfl := oi_ hg
 exact Bt [] ⟨rfl, rfl⟩
theorem Ia (s : (List An)) (f : An -> Option (Bool)) (f_c0 : Bj) (hf_f : ∀ (x0 : An) (y : Bool), f x0 = some y -> Fn Tryz.prog 40 0 [.agg (An.dv x0), .elt (([.sl 9 (Av Aw.enc f_c0.Endpoints), .sl 2 (Av Ba.enc f_c0.Edges), .sl 5 (Av By.enc f_c0.Items)] : List C).drop 0)] [] (fun d' b' => d' = .val (.bool y) /\ b' = [])) (r : Int) (hg : Bz s f = some r) : Fn Tryz.prog 66 0 [.sl 8 (Av An.enc s), .clo 40 0 [.elt (([.sl 9 (Av Aw.enc f_c0.Endpoints), .sl 2 (Av Ba.enc f_c0.Edges), .sl 5 (Av By.enc f_c0.Items)] : List C).drop 0)]] [] (fun d' b' => d' = .val (.int .i64 r) /\ b' = []) := by
 unfold Bz at hg
 refine Fn.of Tryz.func66 rfl rfl rfl fun w0 I ρ0 => ?_
 show Cy _ ⟨w0, I, ρ0, 0, 0, 19⟩ _ _ _
 refine Bu 0 8 Bg ?_
 refine Ao ?_
 refine Al fun hU => ?_
 refine Aj ?_
 refine Bu 8 32 hU ?_
 refine Ao ?_
 refine Al fun hU => ?_
 refine A3 ?_
 refine Ix (fun (x8_1 : Int) => mk [(0, .sl 8 (Av An.enc s)), (1, .clo 40 0 [.elt (([.sl 9 (Av Aw.enc f_c0.Endpoints), .sl 2 (Av Ba.enc f_c0.Edges), .sl 5 (Av By.enc f_c0.Items)] : List C).drop 0)]), (7, .val (.int .i64 (s.length : Int))), (8, .val (.int .i64 x8_1))] [] 0) hg (A9 []) ?_
 rintro x8_1 m1 o1 hg hn1
 replace hg : Bz.l1 s f x8_1 = some o1 := hg
 show Cy _ _ _ _ (mk _ _ _)
 unfold Bz.l1 at hg
 refine Bu 0 8 Bg ?_
 refine Ao ?_
 refine Al fun hU => ?_
 refine Aj ?_
 refine D1 rfl hg (fun h4 hg => ?_) fun h4 hg => ?_
 ·refine Ay ?_
  repeat first | refine Dg ?_ | refine Df ?_
  refine Aj ?_
  refine A3 ?_
  refine Bu 8 24 hU ?_
  refine Ao ?_
  refine Al fun hU => ?_
  refine Bu 24 72 hU ?_
  refine Ao ?_
  obtain ⟨e, he, hg⟩ := Ad hg
  refine Ao ?_
  refine Cl rfl rfl (D4 V9 (Bh An.enc_len (Aq he) (o := 0) (m := 8) (cs := [.int .i64 e.Endpoint, .int .i64 e.Kind, .int .i64 e.Number, .int .i64 e.At, .int .i64 e.Identity.Key.Alg, .int .i64 e.Identity.Key.Bits, .int .i64 e.Identity.KeyId, .sl 15 (Av Am.enc e.Identity.Chain)]) rfl (by decide) rfl) (Ax An.enc_len (Aq he) (o := 0) (m := 8) (by decide) rfl)) rfl rfl ?_
  obtain ⟨y, hy, hg⟩ := Ad hg
  refine Fg (rd := []) (ps := []) (gs := []) false rfl rfl (hf_f e _ hy) rfl rfl (.cons (.agg (.cons .val (.cons .val (.cons .val (.cons .val (.cons .val (.cons .val (.cons .val (.cons .sl .nil))))))))) (.cons .elt .nil)) rfl rfl (by intro h; cases h) rfl rfl rfl rfl ?_
  refine Al fun hU => ?_
  refine D1 rfl hg (fun h7 hg => ?_) fun h7 hg => ?_
  ·refine Aj ?_
   refine Af (Cd _ _ []) 72 88 hU rfl rfl ?_
   refine Ao ?_
   refine Al fun hU => ?_
   refine Bv ?_
   replace hg := Cr hg hn1
   obtain rfl := oi_ hg
   exact Bt [] ⟨rfl, rfl⟩
  ·refine Ay ?_
   repeat first | refine Dg ?_ | refine Df ?_
   refine Af (Cd _ _ []) 72 88 hU rfl rfl ?_
   refine Ao ?_
   refine Al fun hU => ?_
   obtain rfl := oi_ hg
   exact ⟨(W (x8_1 + 1), m1), Nat.lt_succ_self _, hn1, A9 []⟩
 ·refine B8 ?_
  repeat first | refine Dg ?_ | refine Df ?_
  replace hg := Cr hg hn1
  refine Bu 8 16 hU ?_
  refine Ao ?_
  refine Al fun hU => ?_
  refine Bv ?_
  obtain rfl := oi_ hg
  exact Bt [] ⟨rfl, rfl⟩
theorem Ht (s : (List An)) (f : An -> Option (Bool)) (f_c0 : Bj) (hf_f : ∀ (x0 : An) (y : Bool), f x0 = some y -> Fn Tryz.prog 40 0 [.agg (An.dv x0), .elt (([.sl 9 (Av Aw.enc f_c0.Endpoints), .sl 2 (Av Ba.enc f_c0.Edges), .sl 5 (Av By.enc f_c0.Items)] : List C).drop 0)] [] (fun d' b' => d' = .val (.bool y) /\ b' = [])) (r : Bool) (hg : El s f = some r) : Fn Tryz.prog 39 0 [.sl 8 (Av An.enc s), .clo 40 0 [.elt (([.sl 9 (Av Aw.enc f_c0.Endpoints), .sl 2 (Av Ba.enc f_c0.Edges), .sl 5 (Av By.enc f_c0.Items)] : List C).drop 0)]] [] (fun d' b' => d' = .val (.bool r) /\ b' = []) := by
 unfold El at hg
 refine Fn.of Tryz.func39 rfl rfl rfl fun w0 I ρ0 => ?_
 show Cy _ ⟨w0, I, ρ0, 0, 0, 9⟩ _ _ _
 refine Bu 0 8 Bg ?_
 refine Ao ?_
 refine Al fun hU => ?_
 refine Bu 8 48 hU ?_
 refine Ao ?_
 obtain ⟨y, hy, hg⟩ := Ad hg
 refine E4 (Ia s f f_c0 hf_f _ hy) ?_
 refine Ao ?_
 refine Al fun hU => ?_
 refine Bv ?_
 obtain rfl := oi_ hg
 exact Bt [] ⟨rfl, rfl⟩
theorem Ox (s : (List Ba)) (v : Ba) (r : Int) (hg : Dc s v = some r) : Fn Tryz.prog 97 0 [.sl 2 (Av Ba.enc s), .agg [.val (.int .i64 v.Client), .val (.int .i64 v.Server)]] [] (fun d' b' => d' = .val (.int .i64 r) /\ b' = []) := by
 unfold Dc at hg
 refine Fn.of Tryz.func97 rfl rfl rfl fun w0 I ρ0 => ?_
 show Cy _ ⟨w0, I, ρ0, 0, 0, 19⟩ _ _ _
 refine Bu 0 16 Bg ?_
 refine Ao ?_
 refine Al fun hU => ?_
 refine Aj ?_
 refine Bu 16 40 hU ?_
 refine Ao ?_
 refine Al fun hU => ?_
 refine A3 ?_
 refine Ix (fun (x8_1 : Int) => mk [(0, .sl 2 (Av Ba.enc s)), (3, .ptr 0 0), (7, .val (.int .i64 (s.length : Int))), (8, .val (.int .i64 x8_1))] [(0, .box [.val (.int .i64 v.Client), .val (.int .i64 v.Server)] 34)] 1) hg (A9 [(0, 0)]) ?_
 rintro x8_1 m1 o1 hg hn1
 replace hg : Dc.l1 s v x8_1 = some o1 := hg
 show Cy _ _ _ _ (mk _ _ _)
 unfold Dc.l1 at hg
 refine Bu 1 9 Bg ?_
 refine Ao ?_
 refine Al fun hU => ?_
 refine Aj ?_
 refine D1 rfl hg (fun h4 hg => ?_) fun h4 hg => ?_
 ·refine Ay ?_
  repeat first | refine Dg ?_ | refine Df ?_
  refine Aj ?_
  refine A3 ?_
  refine Bu 9 25 hU ?_
  refine Ao ?_
  refine Al fun hU => ?_
  refine Aj ?_
  refine Ck (Cd _ _ []) (by kernel_rfl) [0, 0, 0, 6, 14, 31] 25 73 hU rfl rfl (by kernel_rfl) ?_
  refine Ao ?_
  obtain ⟨e, he, hg⟩ := Ad hg
  refine Ao ?_
  refine Cl rfl rfl (D4 oI (Bh Ba.enc_len (Aq he) (o := 0) (m := 2) (cs := [.int .i64 e.Client, .int .i64 e.Server]) rfl (by decide) rfl) (Ax Ba.enc_len (Aq he) (o := 0) (m := 2) (by decide) rfl)) rfl rfl ?_
  refine Cl rfl rfl (Sp v e) rfl rfl ?_
  refine Al fun hU => ?_
  refine D1 rfl hg (fun h7 hg => ?_) fun h7 hg => ?_
  ·refine Aj ?_
   refine Af (Cd _ _ []) 73 89 hU rfl rfl ?_
   refine Ao ?_
   refine Al fun hU => ?_
   refine Bv ?_
   replace hg := Cr hg hn1
   obtain rfl := oi_ hg
   exact Bt [] ⟨rfl, rfl⟩
  ·refine Ay ?_
   repeat first | refine Dg ?_ | refine Df ?_
   refine Af (Cd _ _ []) 73 89 hU rfl rfl ?_
   refine Ao ?_
   refine Al fun hU => ?_
   obtain rfl := oi_ hg
   exact ⟨(W (x8_1 + 1), m1), Nat.lt_succ_self _, hn1, A9 [(0, 0)]⟩
 ·refine B8 ?_
  repeat first | refine Dg ?_ | refine Df ?_
  replace hg := Cr hg hn1
  refine Bu 9 17 hU ?_
  refine Ao ?_
  refine Al fun hU => ?_
  refine Bv ?_
  obtain rfl := oi_ hg
  exact Bt [] ⟨rfl, rfl⟩
theorem Jj (s : (List Ba)) (v : Ba) (r : Bool) (hg : E5 s v = some r) : Fn Tryz.prog 67 0 [.sl 2 (Av Ba.enc s), .agg [.val (.int .i64 v.Client), .val (.int .i64 v.Server)]] [] (fun d' b' => d' = .val (.bool r) /\ b' = []) := by
 unfold E5 at hg
 refine Fn.of Tryz.func67 rfl rfl rfl fun w0 I ρ0 => ?_
 show Cy _ ⟨w0, I, ρ0, 0, 0, 9⟩ _ _ _
 refine Bu 0 16 Bg ?_
 refine Ao ?_
 refine Al fun hU => ?_
 refine Bu 16 56 hU ?_
 refine Ao ?_
 obtain ⟨y, hy, hg⟩ := Ad hg
 refine E4 (Ox _ _ _ hy) ?_
 refine Ao ?_
 refine Al fun hU => ?_
 refine Bv ?_
 obtain rfl := oi_ hg
 exact Bt [] ⟨rfl, rfl⟩
theorem X5 (e : Bj) (a : Int) (b : Int) (r : Bool) (hg : Kf e a b = some r) : Fn Tryz.prog 42 0 [.agg (Bj.dv e), .val (.int .i64 a), .val (.int .i64 b)] [] (fun d' b' => d' = .val (.bool r) /\ b' = []) := by
 unfold Kf at hg
 refine Fn.of Tryz.func42 rfl rfl rfl fun w0 I ρ0 => ?_
 show Cy _ ⟨w0, I, ρ0, 0, 0, 26⟩ _ _ _
 refine Bu 0 16 Bg ?_
 refine Ao ?_
 refine Al fun hU => ?_
 refine Bu 16 176 hU ?_
 refine Ao ?_
 rcases E8 hg with ⟨h2, hg⟩ | ⟨h2, hg⟩
 ·refine Ao ?_
  refine Al fun hU => ?_
  refine Bv ?_
  obtain rfl := oi_ hg
  exact Bt [] ⟨rfl, rfl⟩
 ·refine Ao ?_
  refine Cl (Cj rfl rfl h2) rfl (.build (r := [.val (.int .i64 a), .val (.int .i64 b)]) Vp gI mH (by kernel_rfl) rfl) rfl rfl ?_
  obtain ⟨y, hy, hg⟩ := Ad hg
  refine E4 (Jj _ _ _ hy) ?_
  refine Ao ?_
  rcases E8 hg with ⟨h4, hg⟩ | ⟨h4, hg⟩
  ·refine Ao ?_
   refine Al fun hU => ?_
   refine Bv ?_
   obtain rfl := oi_ hg
   exact Bt [] ⟨rfl, rfl⟩
  ·refine Ao ?_
   refine Cl (Cj rfl rfl h4) rfl (.build (r := [.val (.int .i64 b), .val (.int .i64 a)]) Vp gI mH (by kernel_rfl) rfl) rfl rfl ?_
   obtain ⟨y_2, hy_2, hg⟩ := Ad hg
   refine E4 (Jj _ _ _ hy_2) ?_
   refine Ao ?_
   refine Al fun hU => ?_
   refine Bv ?_
   obtain rfl := oi_ hg
   exact Bt [] ⟨rfl, rfl⟩
theorem Yc (e : Bj) (l : (List An)) (r : (List Ae) × Int) (hg : Cm e l = some r) : Fn Tryz.prog 12 0 [.agg (Bj.dv e), .sl 8 (Av An.enc l)] [] (fun d' b' => d' = .tup [.sl 2 (Av Ae.enc r.1), .val (.int .i64 r.2)] /\ b' = []) := by
 unfold Cm at hg
 refine Fn.of Tryz.func12 rfl rfl rfl fun w0 I ρ0 => ?_
 show Cy _ ⟨w0, I, ρ0, 0, 0, 72⟩ _ _ _
 refine Bu 0 24 Bg ?_
 refine Ao ?_
 refine Al fun hU => ?_
 refine Aj ?_
 refine A3 ?_
 refine Bu 24 56 hU ?_
 refine Ao ?_
 obtain ⟨y, hy, hg⟩ := Ad hg
 refine E4 (Om _ _ hy) ?_
 refine Ao ?_
 refine Al fun hU => ?_
 refine D1 rfl hg (fun h3 hg => ?_) fun h3 hg => ?_
 ·refine Aj ?_
  refine Af (Cd _ _ []) 56 72 hU rfl rfl ?_
  refine Ao ?_
  refine Al fun hU => ?_
  refine Bv ?_
  obtain rfl := oi_ hg
  exact Bt [] ⟨rfl, rfl⟩
 ·refine Aj ?_
  refine Af (Cd _ _ []) 56 88 hU rfl rfl ?_
  refine Ao ?_
  refine Al fun hU => ?_
  refine D1 rfl hg (fun h6 hg => ?_) fun h6 hg => ?_
  ·refine Aj ?_
   refine Af (Cd _ _ []) 88 104 hU rfl rfl ?_
   refine Ao ?_
   refine Al fun hU => ?_
   refine Bv ?_
   obtain rfl := oi_ hg
   exact Bt [] ⟨rfl, rfl⟩
  ·refine Aj ?_
   refine H6 (σ' := mk [(1, .sl 8 (Av An.enc l)), (2, .elt (([.sl 9 (Av Aw.enc e.Endpoints), .sl 2 (Av Ba.enc e.Edges), .sl 5 (Av By.enc e.Items)] : List C).drop 0))] [] 0) ((by exact Nx.lists [] rfl rfl ⟨⟨_, rfl, .sl _ _⟩, ⟨_, rfl, .frzb (ks := [some 9, some 2, some 5]) rfl (.cons .sl (.cons .sl (.cons .sl .nil))) (Ju rfl)⟩, trivial⟩ trivial)) ?_
   refine Af (Cd _ _ []) 0 32 Bg rfl rfl ?_
   refine Ao ?_
   obtain ⟨y_2, hy_2, hg⟩ := Ad hg
   refine E4 (Ht l (fun x0 => Hg x0 e) e (fun x0 y h => Uz x0 e y h) _ hy_2) ?_
   refine Ao ?_
   refine Al fun hU => ?_
   refine D1 rfl hg (fun h9 hg => ?_) fun h9 hg => ?_
   ·refine Aj ?_
    refine Af (Cd _ _ []) 32 48 hU rfl rfl ?_
    refine Ao ?_
    refine Al fun hU => ?_
    refine Bv ?_
    obtain rfl := oi_ hg
    exact Bt [] ⟨rfl, rfl⟩
   ·refine Ay ?_
    repeat first | refine Dg ?_ | refine Df ?_
    refine Bu 32 40 hU ?_
    refine Ao ?_
    refine Al fun hU => ?_
    refine Aj ?_
    refine Bu 40 64 hU ?_
    refine Ao ?_
    refine Al fun hU => ?_
    refine A3 ?_
    refine Ix (fun ((x25_2, out_2) : Int × List Ae) => mk [(1, .sl 8 (Av An.enc l)), (2, .elt (([.sl 9 (Av Aw.enc e.Endpoints), .sl 2 (Av Ba.enc e.Edges), .sl 5 (Av By.enc e.Items)] : List C).drop 0)), (6, .row 0), (23, .sl 8 (Av An.enc l)), (24, .val (.int .i64 (l.length : Int))), (25, .val (.int .i64 x25_2))] [(0, .row 53 2 (Av Ae.enc out_2))] 1) hg (A9 []) ?_
    rintro ⟨x25_2, out_2⟩ m2 o2 hg hn2
    replace hg : Cm.l2 e l x25_2 out_2 = some o2 := hg
    show Cy _ _ _ _ (mk _ _ _)
    unfold Cm.l2 at hg
    refine Bu 1 9 Bg ?_
    refine Ao ?_
    refine Al fun hU => ?_
    refine Aj ?_
    refine D1 rfl hg (fun h14 hg => ?_) fun h14 hg => ?_
    ·refine Ay ?_
     repeat first | refine Dg ?_ | refine Df ?_
     refine Aj ?_
     refine A3 ?_
     refine Bu 9 57 hU ?_
     refine Ao ?_
     obtain ⟨e_2, he_2, hg⟩ := Ad hg
     refine Ao ?_
     refine Cl rfl rfl (D4 V9 (Bh An.enc_len (Aq he_2) (o := 0) (m := 8) (cs := [.int .i64 e_2.Endpoint, .int .i64 e_2.Kind, .int .i64 e_2.Number, .int .i64 e_2.At, .int .i64 e_2.Identity.Key.Alg, .int .i64 e_2.Identity.Key.Bits, .int .i64 e_2.Identity.KeyId, .sl 15 (Av Am.enc e_2.Identity.Chain)]) rfl (by decide) rfl) (Ax An.enc_len (Aq he_2) (o := 0) (m := 8) (by decide) rfl)) rfl rfl ?_
     refine Ao ?_
     refine Al fun hU => ?_
     refine Bu 57 81 hU ?_
     refine Ao ?_
     refine Al fun hU => ?_
     refine A3 ?_
     refine Ix (fun ((x32_3, out_3) : Int × List Ae) => mk [(1, .sl 8 (Av An.enc l)), (2, .elt (([.sl 9 (Av Aw.enc e.Endpoints), .sl 2 (Av Ba.enc e.Edges), .sl 5 (Av By.enc e.Items)] : List C).drop 0)), (6, .row 0), (7, .val (.int .i64 x25_2)), (8, .ptr 1 0), (23, .sl 8 (Av An.enc l)), (24, .val (.int .i64 (l.length : Int))), (25, .val (.int .i64 x25_2)), (30, .sl 8 (Av An.enc l)), (31, .val (.int .i64 (l.length : Int))), (32, .val (.int .i64 x32_3))] [(0, .row 53 2 (Av Ae.enc out_3)), (1, .box (An.dv e_2) 44)] 2) hg (A9 [(0, 0), (1, 33)]) ?_
     rintro ⟨x32_3, out_3⟩ m3 o3 hg hn3
     replace hg : Cm.l3 e l x25_2 e_2 x32_3 out_3 = some o3 := hg
     show Cy _ _ _ _ (mk _ _ _)
     unfold Cm.l3 at hg
     refine Bu 2 10 Bg ?_
     refine Ao ?_
     refine Al fun hU => ?_
     refine Aj ?_
     refine D1 rfl hg (fun h18 hg => ?_) fun h18 hg => ?_
     ·refine Ay ?_
      repeat first | refine Dg ?_ | refine Df ?_
      refine B7 (ι := List Ae) (fun (out_5 : List Ae) => mk [(1, .sl 8 (Av An.enc l)), (2, .elt (([.sl 9 (Av Aw.enc e.Endpoints), .sl 2 (Av Ba.enc e.Edges), .sl 5 (Av By.enc e.Items)] : List C).drop 0)), (6, .row 0), (7, .val (.int .i64 x25_2)), (8, .ptr 1 0), (23, .sl 8 (Av An.enc l)), (24, .val (.int .i64 (l.length : Int))), (25, .val (.int .i64 x25_2)), (30, .sl 8 (Av An.enc l)), (31, .val (.int .i64 (l.length : Int))), (32, .val (.int .i64 x32_3))] [(0, .row 53 2 (Av Ae.enc out_5)), (1, .box (An.dv e_2) 44)] 2) (fun (out_5 : List Ae) => Cm.j5 x32_3 out_5 = some o3) ?_ ?_
      ·refine A3 ?_
       refine Bu 10 58 hU ?_
       refine Ao ?_
       obtain ⟨e_3, he_3, hg⟩ := Ad hg
       refine Ao ?_
       refine Cl rfl rfl (D4 V9 (Bh An.enc_len (Aq he_3) (o := 0) (m := 8) (cs := [.int .i64 e_3.Endpoint, .int .i64 e_3.Kind, .int .i64 e_3.Number, .int .i64 e_3.At, .int .i64 e_3.Identity.Key.Alg, .int .i64 e_3.Identity.Key.Bits, .int .i64 e_3.Identity.KeyId, .sl 15 (Av Am.enc e_3.Identity.Chain)]) rfl (by decide) rfl) (Ax An.enc_len (Aq he_3) (o := 0) (m := 8) (by decide) rfl)) rfl rfl ?_
       refine Ao ?_
       refine Al fun hU => ?_
       refine B7 (ι := Bool) (fun (x61_4 : Bool) => mk [(1, .sl 8 (Av An.enc l)), (2, .elt (([.sl 9 (Av Aw.enc e.Endpoints), .sl 2 (Av Ba.enc e.Edges), .sl 5 (Av By.enc e.Items)] : List C).drop 0)), (6, .row 0), (7, .val (.int .i64 x25_2)), (8, .ptr 1 0), (9, .val (.int .i64 x32_3)), (23, .sl 8 (Av An.enc l)), (24, .val (.int .i64 (l.length : Int))), (25, .val (.int .i64 x25_2)), (30, .sl 8 (Av An.enc l)), (31, .val (.int .i64 (l.length : Int))), (32, .val (.int .i64 x32_3)), (61, .val (.bool x61_4))] [(0, .row 53 2 (Av Ae.enc out_3)), (1, .box (An.dv e_2) 44)] 2) (fun (x61_4 : Bool) => Cm.j4 x25_2 x32_3 out_3 x61_4 = some o3) ?_ ?_
       ·refine Ck (Cd _ _ []) (by kernel_rfl) [0, 1, 0, 4, 15, 31, 0, 127, 0, 256, 0, 1024, 3840, 7936, 0, 32767, 65535, 131071, 262143, 262143, 786431, 262143, 2359295, 8388607, 16777215] 58 258 hU rfl rfl (by kernel_rfl) ?_
        refine Cl rfl rfl (Ig cO jH (by decide) (Nat.le_of_ble_eq_true rfl)) rfl rfl ?_
        refine Cl rfl rfl (Cz jH (c := .sl 9 (Av Aw.enc e.Endpoints)) rfl) rfl rfl ?_
        refine Ao ?_
        obtain ⟨e_4, he_4, hg⟩ := Ad hg
        refine Ao ?_
        refine Cl rfl rfl (D4 dG (Bh Aw.enc_len (Aq he_4) (o := 0) (m := 9) (cs := [.str e_4.Name, .int .i64 e_4.Least, .int .i64 e_4.Most, .sl 1 (Av eI e_4.Suites), .bool e_4.OwnOrder, .sl 4 (Av Bq.enc e_4.Identities), .sl 1 (Av eI e_4.Anchors), .sl 1 (Av eI e_4.Hashes), .bool e_4.Fallback]) rfl (by decide) rfl) (Ax Aw.enc_len (Aq he_4) (o := 0) (m := 9) (by decide) rfl)) rfl rfl ?_
        refine Ao ?_
        obtain ⟨y_3, hy_3, hg⟩ := Ad hg
        refine E4 (Ks _ _ _ hy_3) ?_
        refine Cl rfl rfl (Ig cO jH (by decide) (Nat.le_of_ble_eq_true rfl)) rfl rfl ?_
        refine Cl rfl rfl (Cz jH (c := .sl 9 (Av Aw.enc e.Endpoints)) rfl) rfl rfl ?_
        refine Ao ?_
        obtain ⟨e_5, he_5, hg⟩ := Ad hg
        refine Ao ?_
        refine Cl rfl rfl (D4 dG (Bh Aw.enc_len (Aq he_5) (o := 0) (m := 9) (cs := [.str e_5.Name, .int .i64 e_5.Least, .int .i64 e_5.Most, .sl 1 (Av eI e_5.Suites), .bool e_5.OwnOrder, .sl 4 (Av Bq.enc e_5.Identities), .sl 1 (Av eI e_5.Anchors), .sl 1 (Av eI e_5.Hashes), .bool e_5.Fallback]) rfl (by decide) rfl) (Ax Aw.enc_len (Aq he_5) (o := 0) (m := 9) (by decide) rfl)) rfl rfl ?_
        refine Ao ?_
        obtain ⟨y_4, hy_4, hg⟩ := Ad hg
        refine E4 (Ks _ _ _ hy_4) ?_
        refine Ao ?_
        rcases E8 hg with ⟨h20, hg⟩ | ⟨h20, hg⟩
        ·refine Cl (Cj rfl rfl h20) rfl (D4 rC (cs2 := [.sl 9 (Av Aw.enc e.Endpoints), .sl 2 (Av Ba.enc e.Edges), .sl 5 (Av By.enc e.Items)]) rfl (Nat.le_of_ble_eq_true rfl)) rfl rfl ?_
         refine Ao ?_
         obtain ⟨y_5, hy_5, hg⟩ := Ad hg
         refine E4 (X5 _ _ _ _ hy_5) ?_
         refine Ao ?_
         refine Al fun hU => ?_
         exact ⟨y_5, hg, A9 [(0, 0), (1, 1)]⟩
        ·refine Ao ?_
         refine Al fun hU => ?_
         exact ⟨false, hg, A9 [(0, 0), (1, 1)]⟩
       ·rintro x61_4 hg
        replace hg : Cm.j4 x25_2 x32_3 out_3 x61_4 = some o3 := hg
        show Cy _ _ _ _ (mk _ _ _)
        unfold Cm.j4 at hg
        refine D1 rfl hg (fun h23 hg => ?_) fun h23 hg => ?_
        ·refine Af (Cd _ _ []) 2 58 Bg rfl rfl ?_
         refine Ao ?_
         refine Cl rfl rfl (.build (r := [.val (.int .i64 x25_2), .val (.int .i64 x32_3)]) Sh bX fZ (by kernel_rfl) rfl) rfl rfl ?_
         refine Cl rfl rfl (Bc Zc fZ (by decide) rfl rfl rfl rfl nZ (cs := [.int .i64 x25_2, .int .i64 x32_3]) (.cons .int (.cons .int .nil)) rfl (l := ([(Ae.mk x25_2 x32_3)] : List Ae)) (f := Ae.enc) rfl) rfl rfl ?_
         obtain ⟨l_2, hl_2, hg⟩ := Ad hg
         refine Da (rd := [0, 34]) rfl rfl (E3 Zc Ae.enc_len .row rfl .row rfl hl_2 rfl) rfl rfl ?_
         refine Ao ?_
         refine Al fun hU => ?_
         exact ⟨l_2, hg, A9 [(0, 42), (1, 1)]⟩
        ·refine Ay ?_
         repeat first | refine Dg ?_ | refine Df ?_
         exact ⟨out_3, hg, A9 [(0, 0), (1, 1)]⟩
      ·rintro out_5 hg
       replace hg : Cm.j5 x32_3 out_5 = some o3 := hg
       show Cy _ _ _ _ (mk _ _ _)
       unfold Cm.j5 at hg
       refine Af (Cd _ _ []) 2 18 Bg rfl rfl ?_
       refine Ao ?_
       refine Al fun hU => ?_
       obtain rfl := oi_ hg
       exact ⟨((W (x32_3 + 1), out_5), m3), Nat.lt_succ_self _, hn3, A9 [(0, 0), (1, 1)]⟩
     ·refine B8 ?_
      repeat first | refine Dg ?_ | refine Df ?_
      replace hg := Cr hg hn3
      refine Af (Cd _ _ []) 10 26 hU rfl rfl ?_
      refine Ao ?_
      refine Al fun hU => ?_
      obtain rfl := oi_ hg
      exact ⟨((W (x25_2 + 1), out_3), m2), Nat.lt_succ_self _, hn2, A9 [(0, 0)]⟩
    ·refine B8 ?_
     repeat first | refine Dg ?_ | refine Df ?_
     replace hg := Cr hg hn2
     refine Aj ?_
     refine H6 (σ' := mk [(6, .sl 2 (Av Ae.enc out_2))] [] 0) (A9 []) ?_
     refine Af (Cd _ _ []) 0 32 Bg rfl rfl ?_
     refine Ao ?_
     obtain ⟨y_6, hy_6, hg⟩ := Ad hg
     refine E4 (Oe _ _ hy_6) ?_
     refine Ao ?_
     refine Al fun hU => ?_
     refine Bv ?_
     obtain rfl := oi_ hg
     exact Bt [] ⟨rfl, rfl⟩
end Go.Proofs.YtkpcbnnlefcebaaGreat
