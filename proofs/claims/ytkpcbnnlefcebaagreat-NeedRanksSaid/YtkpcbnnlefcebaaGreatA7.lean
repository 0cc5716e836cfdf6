import Derived.Test.YtkpcbnnlefcebaaGreatT1
import Derived.Test.YtkpcbnnlefcebaaGreatA6
set_option linter.unusedVariables false
set_option linter.unusedSimpArgs false
set_option maxRecDepth 100000
set_option maxHeartbeats 1600000
namespace Go.Proofs.YtkpcbnnlefcebaaGreat
open Go.RowKit
theorem S4 (bits : Int) (r : Int) (hg : C6 bits = some r) : Fn Tryz.prog 149 0 [.val (.int .i64 bits)] [] (fun d' b' => d' = .val (.int .i64 r) /\ b' = []) := by
 unfold C6 at hg
 refine Fn.of Tryz.func149 rfl rfl rfl fun w0 I ρ0 => ?_
 show Cy _ ⟨w0, I, ρ0, 0, 0, 21⟩ _ _ _
 refine Bu 0 8 Bg ?_
 refine Ao ?_
 refine Al fun hU => ?_
 refine Aj ?_
 refine Bu 8 64 hU ?_
 refine Cl rfl rfl (.buildArr (sz := 1) (r := [.val (.int .i64 1024), .val (.int .i64 56)]) S0 (by kernel_rfl) gD (by kernel_rfl) rfl) rfl rfl ?_
 refine Cl rfl rfl (.buildArr (sz := 1) (r := [.val (.int .i64 2048), .val (.int .i64 80)]) S0 (by kernel_rfl) gD (by kernel_rfl) rfl) rfl rfl ?_
 refine Cl rfl rfl (.buildArr (sz := 1) (r := [.val (.int .i64 3072), .val (.int .i64 112)]) S0 (by kernel_rfl) gD (by kernel_rfl) rfl) rfl rfl ?_
 refine Cl rfl rfl (.buildArr (sz := 1) (r := [.val (.int .i64 7680), .val (.int .i64 128)]) S0 (by kernel_rfl) gD (by kernel_rfl) rfl) rfl rfl ?_
 refine Cl rfl rfl (.buildArr (sz := 1) (r := [.val (.int .i64 15360), .val (.int .i64 192)]) S0 (by kernel_rfl) gD (by kernel_rfl) rfl) rfl rfl ?_
 refine Cl rfl rfl (.buildArr (sz := 2) (r := [.val (.int .i64 1024), .val (.int .i64 56), .val (.int .i64 2048), .val (.int .i64 80), .val (.int .i64 3072), .val (.int .i64 112), .val (.int .i64 7680), .val (.int .i64 128), .val (.int .i64 15360), .val (.int .i64 192)]) lP (by kernel_rfl) wV (by kernel_rfl) rfl) rfl rfl ?_
 refine Ao ?_
 refine Al fun hU => ?_
 refine A3 ?_
 refine Ix (fun (x11_1 : Int) => mk [(0, .val (.int .i64 bits)), (10, .agg [.val (.int .i64 1024), .val (.int .i64 56), .val (.int .i64 2048), .val (.int .i64 80), .val (.int .i64 3072), .val (.int .i64 112), .val (.int .i64 7680), .val (.int .i64 128), .val (.int .i64 15360), .val (.int .i64 192)]), (11, .val (.int .i64 x11_1))] [] 0) hg (A9 []) ?_
 rintro x11_1 m1 o1 hg hn1
 replace hg : C6.l1 bits x11_1 = some o1 := hg
 show Cy _ _ _ _ (mk _ _ _)
 unfold C6.l1 at hg
 refine Bu 0 8 Bg ?_
 refine Ao ?_
 refine Al fun hU => ?_
 refine Aj ?_
 refine D1 rfl hg (fun h4 hg => ?_) fun h4 hg => ?_
 ·refine Ay ?_
  repeat first | refine Dg ?_ | refine Df ?_
  refine Aj ?_
  refine A3 ?_
  refine Bu 8 32 hU ?_
  obtain ⟨e, he, hg⟩ := Ad hg
  refine Cl rfl rfl (Yk (f := (eA 2 eI)) (L := ([([1024, 56] : List Int), ([2048, 80] : List Int), ([3072, 112] : List Int), ([7680, 128] : List Int), ([15360, 192] : List Int)] : List (List Int))) lP pG (pY Hu) rfl rfl he (d2 := [.val (.int .i64 (e[0]!)), .val (.int .i64 (e[1]!))]) rfl) rfl rfl ?_
  refine Ao ?_
  refine Al fun hU => ?_
  refine Bu 32 64 hU ?_
  refine Ao ?_
  refine Da (rd := [16]) rfl rfl (.idxA (j := 0) S0 Nw rfl (by decide)) rfl rfl ?_
  refine Ao ?_
  refine Al fun hU => ?_
  refine D1 rfl hg (fun h7 hg => ?_) fun h7 hg => ?_
  ·refine Aj ?_
   refine Af (Cd _ _ []) 64 88 hU rfl rfl ?_
   refine Da (rd := [16]) rfl rfl (.idxA (j := 1) S0 Nw rfl (by decide)) rfl rfl ?_
   refine Ao ?_
   refine Al fun hU => ?_
   refine Bv ?_
   replace hg := Cr hg hn1
   obtain rfl := oi_ hg
   exact Bt [] ⟨rfl, rfl⟩
  ·refine Ay ?_
   repeat first | refine Dg ?_ | refine Df ?_
   refine Af (Cd _ _ []) 64 80 hU rfl rfl ?_
   refine Ao ?_
   refine Al fun hU => ?_
   obtain rfl := oi_ hg
   exact ⟨(W (x11_1 + 1), m1), Nat.lt_succ_self _, hn1, A9 []⟩
 ·refine B8 ?_
  repeat first | refine Dg ?_ | refine Df ?_
  replace hg := Cr hg hn1
  refine Bu 8 16 hU ?_
  refine Ao ?_
  refine Al fun hU => ?_
  refine Bv ?_
  obtain rfl := oi_ hg
  exact Bt [] ⟨rfl, rfl⟩
theorem Sw (u : Az) (r : Int) (hg : Bb u = some r) : Fn Tryz.prog 124 0 [.agg [.val (.int .i64 u.Alg), .val (.int .i64 u.Bits)]] [] (fun d' b' => d' = .val (.int .i64 r) /\ b' = []) := by
 unfold Bb at hg
 refine Fn.of Tryz.func124 rfl rfl rfl fun w0 I ρ0 => ?_
 show Cy _ ⟨w0, I, ρ0, 0, 0, 61⟩ _ _ _
 refine Bu 0 16 Bg ?_
 refine Ao ?_
 refine Al fun hU => ?_
 refine Bu 16 88 hU ?_
 refine Ao ?_
 obtain ⟨y, hy, hg⟩ := Ad hg
 refine E4 (Ti _ _ hy) ?_
 refine Ao ?_
 refine Al fun hU => ?_
 refine Aj ?_
 refine Bu 88 104 hU ?_
 refine Ao ?_
 refine Al fun hU => ?_
 refine D1 rfl hg (fun h4 hg => ?_) fun h4 hg => ?_
 ·refine Aj ?_
  refine Af (Cd _ _ []) 104 112 hU rfl rfl ?_
  refine Ao ?_
  refine Al fun hU => ?_
  refine Bv ?_
  obtain rfl := oi_ hg
  exact Bt [] ⟨rfl, rfl⟩
 ·refine Ay ?_
  repeat first | refine Dg ?_ | refine Df ?_
  refine Aj ?_
  refine Bu 104 120 hU ?_
  refine Ao ?_
  refine Al fun hU => ?_
  refine A3 ?_
  refine Bu 120 136 hU ?_
  refine Ao ?_
  refine Al fun hU => ?_
  refine D1 rfl hg (fun h8 hg => ?_) fun h8 hg => ?_
  ·refine Aj ?_
   refine Af (Cd _ _ []) 136 160 hU rfl rfl ?_
   refine Ao ?_
   refine Al fun hU => ?_
   refine D1 rfl hg (fun h10 hg => ?_) fun h10 hg => ?_
   ·refine Aj ?_
    refine Af (Cd _ _ []) 160 200 hU rfl rfl ?_
    refine Ao ?_
    obtain ⟨e, he, hg⟩ := Ad hg
    refine Ao ?_
    refine Cl rfl rfl (Cz Nw (Do Hu (Aq he) (o := 0) (c := .int .i64 e) rfl rfl)) rfl rfl ?_
    refine Ao ?_
    refine Al fun hU => ?_
    refine Bv ?_
    obtain rfl := oi_ hg
    exact Bt [] ⟨rfl, rfl⟩
   ·refine Ay ?_
    repeat first | refine Dg ?_ | refine Df ?_
    refine Bu 160 168 hU ?_
    refine Ao ?_
    refine Al fun hU => ?_
    refine Bv ?_
    obtain rfl := oi_ hg
    exact Bt [] ⟨rfl, rfl⟩
  ·refine Aj ?_
   refine Af (Cd _ _ []) 136 152 hU rfl rfl ?_
   refine Ao ?_
   refine Al fun hU => ?_
   refine D1 rfl hg (fun h13 hg => ?_) fun h13 hg => ?_
   ·refine B7 (ι := Bool) (fun (x34_1 : Bool) => mk [(1, .ptr 0 0), (34, .val (.bool x34_1))] [(0, .box [.val (.int .i64 u.Alg), .val (.int .i64 u.Bits)] 39)] 1) (fun (x34_1 : Bool) => Bb.j1 u x34_1 = some r) ?_ ?_
    ·refine Af (Cd _ _ []) 152 216 hU rfl rfl ?_
     refine Ao ?_
     rcases E8 hg with ⟨h14, hg⟩ | ⟨h14, hg⟩
     ·refine Ao ?_
      refine Al fun hU => ?_
      exact ⟨decide (u.Bits <= 16384), hg, A9 [(0, 0)]⟩
     ·refine Ao ?_
      refine Al fun hU => ?_
      exact ⟨false, hg, A9 [(0, 0)]⟩
    ·rintro x34_1 hg
     replace hg : Bb.j1 u x34_1 = some r := hg
     show Cy _ _ _ _ (mk _ _ _)
     unfold Bb.j1 at hg
     refine D1 rfl hg (fun h17 hg => ?_) fun h17 hg => ?_
     ·refine Aj ?_
      refine Af (Cd _ _ []) 1 33 Bg rfl rfl ?_
      refine Ao ?_
      obtain ⟨y_2, hy_2, hg⟩ := Ad hg
      refine E4 (S4 _ _ hy_2) ?_
      refine Ao ?_
      refine Al fun hU => ?_
      refine Bv ?_
      obtain rfl := oi_ hg
      exact Bt [] ⟨rfl, rfl⟩
     ·refine Ay ?_
      repeat first | refine Dg ?_ | refine Df ?_
      refine Bu 1 9 Bg ?_
      refine Ao ?_
      refine Al fun hU => ?_
      refine Bv ?_
      obtain rfl := oi_ hg
      exact Bt [] ⟨rfl, rfl⟩
   ·refine Aj ?_
    refine Af (Cd _ _ []) 152 168 hU rfl rfl ?_
    refine Ao ?_
    refine Al fun hU => ?_
    refine D1 rfl hg (fun h20 hg => ?_) fun h20 hg => ?_
    ·refine Aj ?_
     refine Af (Cd _ _ []) 168 200 hU rfl rfl ?_
     refine Cl rfl rfl (Bc G1 z3 (by decide) rfl rfl rfl rfl Mn (cs := [.int .i64 160, .int .i64 224, .int .i64 256, .int .i64 384, .int .i64 521]) (.cons .int (.cons .int (.cons .int (.cons .int (.cons .int .nil))))) rfl (l := ([160, 224, 256, 384, 521] : List Int)) (f := eI) rfl) rfl rfl ?_
     refine Ao ?_
     obtain ⟨y_3, hy_3, hg⟩ := Ad hg
     refine K0 [168] [] [] true (Ln _ _ _ hy_3) ?_
     refine Al fun hU => ?_
     refine D1 rfl hg (fun h22 hg => ?_) fun h22 hg => ?_
     ·refine Aj ?_
      refine Af (Cd _ _ []) 200 232 hU rfl rfl ?_
      refine Ao ?_
      obtain ⟨q, hq, hg⟩ := Ad hg
      refine Cl rfl rfl (Rc hq) rfl rfl ?_
      refine Ao ?_
      refine Al fun hU => ?_
      refine Bv ?_
      obtain rfl := oi_ hg
      exact Bt [] ⟨rfl, rfl⟩
     ·refine Ay ?_
      repeat first | refine Dg ?_ | refine Df ?_
      refine Bu 200 208 hU ?_
      refine Ao ?_
      refine Al fun hU => ?_
      refine Bv ?_
      obtain rfl := oi_ hg
      exact Bt [] ⟨rfl, rfl⟩
    ·refine Aj ?_
     refine Af (Cd _ _ []) 168 184 hU rfl rfl ?_
     refine Ao ?_
     refine Al fun hU => ?_
     refine D1 rfl hg (fun h25 hg => ?_) fun h25 hg => ?_
     ·refine Aj ?_
      refine Af (Cd _ _ []) 184 232 hU rfl rfl ?_
      refine Ao ?_
      obtain ⟨y_4, hy_4, hg⟩ := Ad hg
      refine E4 (Nj _ _ _ hy_4) ?_
      refine Ao ?_
      refine Al fun hU => ?_
      refine Bu 232 248 hU ?_
      refine Ao ?_
      refine Al fun hU => ?_
      refine D1 rfl hg (fun h28 hg => ?_) fun h28 hg => ?_
      ·refine Aj ?_
       refine Af (Cd _ _ []) 248 296 hU rfl rfl ?_
       refine Ao ?_
       obtain ⟨e_2, he_2, hg⟩ := Ad hg
       refine Ao ?_
       refine Cl rfl rfl (Cz Nw (Do Hu (Aq he_2) (o := 0) (c := .int .i64 e_2) rfl rfl)) rfl rfl ?_
       refine Ao ?_
       refine Al fun hU => ?_
       refine Bv ?_
       obtain rfl := oi_ hg
       exact Bt [] ⟨rfl, rfl⟩
      ·refine Ay ?_
       repeat first | refine Dg ?_ | refine Df ?_
       refine Bu 248 256 hU ?_
       refine Ao ?_
       refine Al fun hU => ?_
       refine Bv ?_
       obtain rfl := oi_ hg
       exact Bt [] ⟨rfl, rfl⟩
     ·refine Ay ?_
      repeat first | refine Dg ?_ | refine Df ?_
      refine Bu 184 192 hU ?_
      refine Ao ?_
      refine Al fun hU => ?_
      refine Bv ?_
      obtain rfl := oi_ hg
      exact Bt [] ⟨rfl, rfl⟩
theorem Mi (u : Az) (r : Bool) (hg : Fr u = some r) : Fn Tryz.prog 96 0 [.agg [.val (.int .i64 u.Alg), .val (.int .i64 u.Bits)]] [] (fun d' b' => d' = .val (.bool r) /\ b' = []) := by
 unfold Fr at hg
 refine Fn.of Tryz.func96 rfl rfl rfl fun w0 I ρ0 => ?_
 show Cy _ ⟨w0, I, ρ0, 0, 0, 6⟩ _ _ _
 refine Bu 0 16 Bg ?_
 refine Ao ?_
 refine Al fun hU => ?_
 refine Bu 16 48 hU ?_
 refine Ao ?_
 obtain ⟨y, hy, hg⟩ := Ad hg
 refine E4 (Sw _ _ hy) ?_
 refine Ao ?_
 refine Al fun hU => ?_
 refine Bv ?_
 obtain rfl := oi_ hg
 exact Bt [] ⟨rfl, rfl⟩
theorem Nc (alg : Int) (r : Int) (hg : Hk alg = some r) : Fn Tryz.prog 121 0 [.val (.int .i64 alg)] [] (fun d' b' => d' = .val (.int .i64 r) /\ b' = []) := by
 unfold Hk at hg
 refine Fn.of Tryz.func121 rfl rfl rfl fun w0 I ρ0 => ?_
 show Cy _ ⟨w0, I, ρ0, 0, 0, 12⟩ _ _ _
 refine Bu 0 8 Bg ?_
 refine Ao ?_
 refine Al fun hU => ?_
 refine Bu 8 72 hU ?_
 refine Ao ?_
 obtain ⟨y, hy, hg⟩ := Ad hg
 refine E4 (Ti _ _ hy) ?_
 refine Ao ?_
 refine Al fun hU => ?_
 refine Bu 72 96 hU ?_
 refine Ao ?_
 refine Al fun hU => ?_
 refine Bv ?_
 obtain rfl := oi_ hg
 exact Bt [] ⟨rfl, rfl⟩
theorem Ja (n : Int) (r : Bool) (hg : Fy n = some r) : Fn Tryz.prog 92 0 [.val (.int .i64 n)] [] (fun d' b' => d' = .val (.bool r) /\ b' = []) := by
 unfold Fy at hg
 refine Fn.of Tryz.func92 rfl rfl rfl fun w0 I ρ0 => ?_
 show Cy _ ⟨w0, I, ρ0, 0, 0, 9⟩ _ _ _
 refine Bu 0 8 Bg ?_
 refine Ao ?_
 refine Al fun hU => ?_
 refine Bu 8 64 hU ?_
 refine Ao ?_
 rcases E8 hg with ⟨h2, hg⟩ | ⟨h2, hg⟩
 ·refine Ao ?_
  refine Al fun hU => ?_
  refine Bv ?_
  obtain rfl := oi_ hg
  exact Bt [] ⟨rfl, rfl⟩
 ·refine Ao ?_
  refine Al fun hU => ?_
  refine Bv ?_
  obtain rfl := oi_ hg
  exact Bt [] ⟨rfl, rfl⟩
theorem Ki (s : ByteArray) (r : Bool) (hg : Ch s = some r) : Fn Tryz.prog 95 0 [.val (.string s)] [] (fun d' b' => d' = .val (.bool r) /\ b' = []) := by
 unfold Ch at hg
 refine Fn.of Tryz.func95 rfl rfl rfl fun w0 I ρ0 => ?_
 show Cy _ ⟨w0, I, ρ0, 0, 0, 27⟩ _ _ _
 refine Bu 0 8 Bg ?_
 refine Ao ?_
 refine Al fun hU => ?_
 refine Aj ?_
 refine Bu 8 40 hU ?_
 refine Ao ?_
 refine Cl rfl rfl (Z4 U1 dD V7) rfl rfl ?_
 refine Ao ?_
 refine Al fun hU => ?_
 refine A3 ?_
 refine Ix (fun (x8_1 : Int) => mk [(0, .val (.string s)), (6, .sl 1 (Av e8 (Ny s))), (7, .val (.int .i64 ((Ny s).length : Int))), (8, .val (.int .i64 x8_1))] [] 0) hg (A9 []) ?_
 rintro x8_1 m1 o1 hg hn1
 replace hg : Ch.l1 s x8_1 = some o1 := hg
 show Cy _ _ _ _ (mk _ _ _)
 unfold Ch.l1 at hg
 refine Bu 0 8 Bg ?_
 refine Ao ?_
 refine Al fun hU => ?_
 refine Aj ?_
 refine D1 rfl hg (fun h4 hg => ?_) fun h4 hg => ?_
 ·refine Ay ?_
  repeat first | refine Dg ?_ | refine Df ?_
  refine Aj ?_
  refine A3 ?_
  refine Bu 8 32 hU ?_
  obtain ⟨e, he, hg⟩ := Ad hg
  refine Ao ?_
  refine Cl rfl rfl (Cz lX (Do I7 (Aq he) (o := 0) (c := .int .u8 (e.toNat : Int)) rfl rfl)) rfl rfl ?_
  refine Ao ?_
  refine Al fun hU => ?_
  refine B7 (ι := Bool) (fun (x17_2 : Bool) => mk [(0, .val (.string s)), (6, .sl 1 (Av e8 (Ny s))), (7, .val (.int .i64 ((Ny s).length : Int))), (8, .val (.int .i64 x8_1)), (17, .val (.bool x17_2))] [] 0) (fun (x17_2 : Bool) => Ch.j2 x8_1 x17_2 = some o1) ?_ ?_
  ·refine Af (Cd _ _ []) 32 80 hU rfl rfl ?_
   refine Ao ?_
   rcases E8 hg with ⟨h6, hg⟩ | ⟨h6, hg⟩
   ·refine Ao ?_
    refine Al fun hU => ?_
    exact ⟨true, hg, A9 []⟩
   ·refine Ao ?_
    refine Al fun hU => ?_
    exact ⟨decide (126 < (e.toNat : Int)), hg, A9 []⟩
  ·rintro x17_2 hg
   replace hg : Ch.j2 x8_1 x17_2 = some o1 := hg
   show Cy _ _ _ _ (mk _ _ _)
   unfold Ch.j2 at hg
   refine D1 rfl hg (fun h9 hg => ?_) fun h9 hg => ?_
   ·refine Aj ?_
    refine Af (Cd _ _ []) 0 8 Bg rfl rfl ?_
    refine Ao ?_
    refine Al fun hU => ?_
    refine Bv ?_
    replace hg := Cr hg hn1
    obtain rfl := oi_ hg
    exact Bt [] ⟨rfl, rfl⟩
   ·refine Ay ?_
    repeat first | refine Dg ?_ | refine Df ?_
    refine Af (Cd _ _ []) 0 16 Bg rfl rfl ?_
    refine Ao ?_
    refine Al fun hU => ?_
    obtain rfl := oi_ hg
    exact ⟨(W (x8_1 + 1), m1), Nat.lt_succ_self _, hn1, A9 []⟩
 ·refine B8 ?_
  repeat first | refine Dg ?_ | refine Df ?_
  replace hg := Cr hg hn1
  refine Bu 8 80 hU ?_
  refine Ao ?_
  refine Cl rfl rfl (Sx U1) rfl rfl ?_
  refine Ao ?_
  rcases E8 hg with ⟨h12, hg⟩ | ⟨h12, hg⟩
  ·refine Ao ?_
   refine Cl (Cj rfl rfl h12) rfl (Sx U1) rfl rfl ?_
   refine Ao ?_
   refine Al fun hU => ?_
   refine Bv ?_
   obtain rfl := oi_ hg
   exact Bt [] ⟨rfl, rfl⟩
  ·refine Ao ?_
   refine Al fun hU => ?_
   refine Bv ?_
   obtain rfl := oi_ hg
   exact Bt [] ⟨rfl, rfl⟩
theorem Sa (l : (List ByteArray)) (r : Bool) (hg : Co l = some r) : Fn Tryz.prog 160 0 [.sl 1 (Av eS l)] [] (fun d' b' => d' = .val (.bool r) /\ b' = []) := by
 unfold Co at hg
 refine Fn.of Tryz.func160 rfl rfl rfl fun w0 I ρ0 => ?_
 show Cy _ ⟨w0, I, ρ0, 0, 0, 32⟩ _ _ _
 refine Bu 0 8 Bg ?_
 refine Ao ?_
 refine Al fun hU => ?_
 refine Aj ?_
 refine Bu 8 32 hU ?_
 refine Ao ?_
 refine Al fun hU => ?_
 refine A3 ?_
 refine Ix (fun (x7_1 : Int) => mk [(0, .sl 1 (Av eS l)), (5, .sl 1 (Av eS l)), (6, .val (.int .i64 (l.length : Int))), (7, .val (.int .i64 x7_1))] [] 0) hg (A9 []) ?_
 rintro x7_1 m1 o1 hg hn1
 replace hg : Co.l1 l x7_1 = some o1 := hg
 show Cy _ _ _ _ (mk _ _ _)
 unfold Co.l1 at hg
 refine Bu 0 8 Bg ?_
 refine Ao ?_
 refine Al fun hU => ?_
 refine Aj ?_
 refine D1 rfl hg (fun h4 hg => ?_) fun h4 hg => ?_
 ·refine Ay ?_
  repeat first | refine Dg ?_ | refine Df ?_
  refine Aj ?_
  refine A3 ?_
  refine Bu 8 48 hU ?_
  refine Ao ?_
  obtain ⟨e, he, hg⟩ := Ad hg
  refine Ao ?_
  refine Cl rfl rfl (Cz kI (Do Nt (Aq he) (o := 0) (c := .str e) rfl rfl)) rfl rfl ?_
  refine Ao ?_
  refine Al fun hU => ?_
  refine B7 (ι := Bool) (fun (x27_2 : Bool) => mk [(0, .sl 1 (Av eS l)), (5, .sl 1 (Av eS l)), (6, .val (.int .i64 (l.length : Int))), (7, .val (.int .i64 x7_1)), (27, .val (.bool x27_2))] [] 0) (fun (x27_2 : Bool) => Co.j2 x7_1 x27_2 = some o1) ?_ ?_
  ·refine Af (Cd _ _ []) 48 176 hU rfl rfl ?_
   refine Ao ?_
   obtain ⟨y, hy, hg⟩ := Ad hg
   refine E4 (Ki _ _ hy) ?_
   refine Ao ?_
   rcases E8 hg with ⟨h6, hg⟩ | ⟨h6, hg⟩
   ·refine Ao ?_
    refine Al fun hU => ?_
    exact ⟨true, hg, A9 []⟩
   ·refine Ao ?_
    rcases E8 hg with ⟨h8, hg⟩ | ⟨h8, hg⟩
    ·refine Ao ?_
     obtain ⟨e_2, he_2, hg⟩ := Ad hg
     refine Ao ?_
     refine Cl (Cj rfl rfl h8) rfl (Cz kI (Do Nt (Aq he_2) (o := 0) (c := .str e_2) rfl rfl)) rfl rfl ?_
     refine Ao ?_
     refine Cl (Cj rfl rfl h8) rfl dP rfl rfl ?_
     refine Ao ?_
     refine Al fun hU => ?_
     exact ⟨!gH (Ny e_2) (Ny e), hg, A9 []⟩
    ·refine Ao ?_
     refine Al fun hU => ?_
     exact ⟨false, hg, A9 []⟩
  ·rintro x27_2 hg
   replace hg : Co.j2 x7_1 x27_2 = some o1 := hg
   show Cy _ _ _ _ (mk _ _ _)
   unfold Co.j2 at hg
   refine D1 rfl hg (fun h11 hg => ?_) fun h11 hg => ?_
   ·refine Aj ?_
    refine Af (Cd _ _ []) 0 8 Bg rfl rfl ?_
    refine Ao ?_
    refine Al fun hU => ?_
    refine Bv ?_
    replace hg := Cr hg hn1
    obtain rfl := oi_ hg
    exact Bt [] ⟨rfl, rfl⟩
   ·refine Ay ?_
    repeat first | refine Dg ?_ | refine Df ?_
    refine Af (Cd _ _ []) 0 16 Bg rfl rfl ?_
    refine Ao ?_
    refine Al fun hU => ?_
    obtain rfl := oi_ hg
    exact ⟨(W (x7_1 + 1), m1), Nat.lt_succ_self _, hn1, A9 []⟩
 ·refine B8 ?_
  repeat first | refine Dg ?_ | refine Df ?_
  replace hg := Cr hg hn1
  refine Bu 8 40 hU ?_
  refine Ao ?_
  refine Al fun hU => ?_
  refine Bv ?_
  obtain rfl := oi_ hg
  exact Bt [] ⟨rfl, rfl⟩
theorem O8 (u : Az) (kind : Int) (r : Bool) (hg : Hi u kind = some r) : Fn Tryz.prog 161 0 [.agg [.val (.int .i64 u.Alg), .val (.int .i64 u.Bits)], .val (.int .i64 kind)] [] (fun d' b' => d' = .val (.bool r) /\ b' = []) := by
 unfold Hi at hg
 refine Fn.of Tryz.func161 rfl rfl rfl fun w0 I ρ0 => ?_
 show Cy _ ⟨w0, I, ρ0, 0, 0, 14⟩ _ _ _
 refine Bu 0 16 Bg ?_
 refine Ao ?_
 refine Al fun hU => ?_
 refine Bu 16 96 hU ?_
 refine Ao ?_
 obtain ⟨y, hy, hg⟩ := Ad hg
 refine E4 (Mi _ _ hy) ?_
 refine Ao ?_
 rcases E8 hg with ⟨h2, hg⟩ | ⟨h2, hg⟩
 ·refine Ao ?_
  obtain ⟨y_2, hy_2, hg⟩ := Ad hg
  refine E4 (Nc _ _ hy_2) ?_
  refine Ao ?_
  refine Al fun hU => ?_
  refine Bv ?_
  obtain rfl := oi_ hg
  exact Bt [] ⟨rfl, rfl⟩
 ·refine Ao ?_
  refine Al fun hU => ?_
  refine Bv ?_
  obtain rfl := oi_ hg
  exact Bt [] ⟨rfl, rfl⟩
theorem Tg (n : Int) (r : Bool) (hg : Hy n = some r) : Fn Tryz.prog 162 0 [.val (.int .i64 n)] [] (fun d' b' => d' = .val (.bool r) /\ b' = []) := by
 unfold Hy at hg
 refine Fn.of Tryz.func162 rfl rfl rfl fun w0 I ρ0 => ?_
 show Cy _ ⟨w0, I, ρ0, 0, 0, 9⟩ _ _ _
 refine Bu 0 8 Bg ?_
 refine Ao ?_
 refine Al fun hU => ?_
 refine Bu 8 64 hU ?_
 refine Ao ?_
 rcases E8 hg with ⟨h2, hg⟩ | ⟨h2, hg⟩
 ·refine Ao ?_
  refine Al fun hU => ?_
  refine Bv ?_
  obtain rfl := oi_ hg
  exact Bt [] ⟨rfl, rfl⟩
 ·refine Ao ?_
  refine Al fun hU => ?_
  refine Bv ?_
  obtain rfl := oi_ hg
  exact Bt [] ⟨rfl, rfl⟩
theorem R4 (c : Am) (r : Bool) (hg : Bp c = some r) : Fn Tryz.prog 148 0 [.agg (Am.dv c)] [] (fun d' b' => d' = .val (.bool r) /\ b' = []) := by
 unfold Bp at hg
 refine Fn.of Tryz.func148 rfl rfl rfl fun w0 I ρ0 => ?_
 show Cy _ ⟨w0, I, ρ0, 0, 0, 91⟩ _ _ _
 refine Bu 0 16 Bg ?_
 refine Ao ?_
 refine Al fun hU => ?_
 refine Aj ?_
 refine B7 (ι := Bool) (fun (x28_1 : Bool) => mk [(1, .ptr 0 0), (28, .val (.bool x28_1))] [(0, .box (Am.dv c) 85)] 1) (fun (x28_1 : Bool) => Bp.j1 c x28_1 = some r) ?_ ?_
 ·refine Af (Cd _ _ []) 16 224 hU rfl rfl ?_
  refine Ao ?_
  rcases E8 hg with ⟨h2, hg⟩ | ⟨h2, hg⟩
  ·refine Ao ?_
   refine Al fun hU => ?_
   exact ⟨true, hg, A9 [(0, 0)]⟩
  ·refine Ao ?_
   rcases E8 hg with ⟨h4, hg⟩ | ⟨h4, hg⟩
   ·refine Ao ?_
    refine Al fun hU => ?_
    exact ⟨true, hg, A9 [(0, 0)]⟩
   ·refine Ao ?_
    obtain ⟨y, hy, hg⟩ := Ad hg
    refine E4 (Ki _ _ hy) ?_
    refine Ao ?_
    rcases E8 hg with ⟨h6, hg⟩ | ⟨h6, hg⟩
    ·refine Ao ?_
     refine Al fun hU => ?_
     exact ⟨true, hg, A9 [(0, 0)]⟩
    ·refine Ao ?_
     obtain ⟨y_2, hy_2, hg⟩ := Ad hg
     refine E4 (Ki _ _ hy_2) ?_
     refine Ao ?_
     rcases E8 hg with ⟨h8, hg⟩ | ⟨h8, hg⟩
     ·refine Ao ?_
      refine Al fun hU => ?_
      exact ⟨true, hg, A9 [(0, 0)]⟩
     ·refine Ao ?_
      obtain ⟨y_3, hy_3, hg⟩ := Ad hg
      refine E4 (Sa _ _ hy_3) ?_
      refine Ao ?_
      refine Al fun hU => ?_
      exact ⟨!y_3, hg, A9 [(0, 0)]⟩
 ·rintro x28_1 hg
  replace hg : Bp.j1 c x28_1 = some r := hg
  show Cy _ _ _ _ (mk _ _ _)
  unfold Bp.j1 at hg
  refine D1 rfl hg (fun h11 hg => ?_) fun h11 hg => ?_
  ·refine Aj ?_
   refine Af (Cd _ _ []) 1 9 Bg rfl rfl ?_
   refine Ao ?_
   refine Al fun hU => ?_
   refine Bv ?_
   obtain rfl := oi_ hg
   exact Bt [] ⟨rfl, rfl⟩
  ·refine Ay ?_
   repeat first | refine Dg ?_ | refine Df ?_
   refine Aj ?_
   refine B7 (ι := Bool) (fun (x58_2 : Bool) => mk [(1, .ptr 0 0), (58, .val (.bool x58_2))] [(0, .box (Am.dv c) 85)] 1) (fun (x58_2 : Bool) => Bp.j2 c x58_2 = some r) ?_ ?_
   ·refine Af (Cd _ _ []) 1 241 Bg rfl rfl ?_
    refine Ao ?_
    obtain ⟨y_4, hy_4, hg⟩ := Ad hg
    refine E4 (O8 _ _ _ hy_4) ?_
    refine Ao ?_
    rcases E8 hg with ⟨h13, hg⟩ | ⟨h13, hg⟩
    ·refine Ao ?_
     refine Al fun hU => ?_
     exact ⟨true, hg, A9 [(0, 0)]⟩
    ·refine Ao ?_
     obtain ⟨y_5, hy_5, hg⟩ := Ad hg
     refine E4 (Ja _ _ hy_5) ?_
     refine Ao ?_
     rcases E8 hg with ⟨h15, hg⟩ | ⟨h15, hg⟩
     ·refine Ao ?_
      refine Al fun hU => ?_
      exact ⟨true, hg, A9 [(0, 0)]⟩
     ·refine Ao ?_
      obtain ⟨y_6, hy_6, hg⟩ := Ad hg
      refine E4 (O8 _ _ _ hy_6) ?_
      refine Ao ?_
      rcases E8 hg with ⟨h17, hg⟩ | ⟨h17, hg⟩
      ·refine Ao ?_
       refine Al fun hU => ?_
       exact ⟨true, hg, A9 [(0, 0)]⟩
      ·refine Ao ?_
       obtain ⟨y_7, hy_7, hg⟩ := Ad hg
       refine E4 (Ja _ _ hy_7) ?_
       refine Ao ?_
       rcases E8 hg with ⟨h19, hg⟩ | ⟨h19, hg⟩
       ·refine Ao ?_
        refine Al fun hU => ?_
        exact ⟨true, hg, A9 [(0, 0)]⟩
       ·refine Ao ?_
        obtain ⟨y_8, hy_8, hg⟩ := Ad hg
        refine E4 (Tg _ _ hy_8) ?_
        refine Ao ?_
        refine Al fun hU => ?_
        exact ⟨!y_8, hg, A9 [(0, 0)]⟩
   ·rintro x58_2 hg
    replace hg : Bp.j2 c x58_2 = some r := hg
    show Cy _ _ _ _ (mk _ _ _)
    unfold Bp.j2 at hg
    refine D1 rfl hg (fun h22 hg => ?_) fun h22 hg => ?_
    ·refine Aj ?_
     refine Af (Cd _ _ []) 1 9 Bg rfl rfl ?_
     refine Ao ?_
     refine Al fun hU => ?_
     refine Bv ?_
     obtain rfl := oi_ hg
     exact Bt [] ⟨rfl, rfl⟩
    ·refine Ay ?_
     repeat first | refine Dg ?_ | refine Df ?_
     refine Aj ?_
     refine B7 (ι := Bool) (fun (x73_3 : Bool) => mk [(1, .ptr 0 0), (73, .val (.bool x73_3))] [(0, .box (Am.dv c) 85)] 1) (fun (x73_3 : Bool) => Bp.j3 c x73_3 = some r) ?_ ?_
     ·refine Af (Cd _ _ []) 1 121 Bg rfl rfl ?_
      refine Ao ?_
      rcases E8 hg with ⟨h24, hg⟩ | ⟨h24, hg⟩
      ·refine Ao ?_
       refine Al fun hU => ?_
       exact ⟨true, hg, A9 [(0, 0)]⟩
      ·refine Ao ?_
       rcases E8 hg with ⟨h26, hg⟩ | ⟨h26, hg⟩
       ·refine Ao ?_
        refine Al fun hU => ?_
        exact ⟨true, hg, A9 [(0, 0)]⟩
       ·refine Ao ?_
        refine Al fun hU => ?_
        exact ⟨decide (40000 < c.To), hg, A9 [(0, 0)]⟩
     ·rintro x73_3 hg
      replace hg : Bp.j3 c x73_3 = some r := hg
      show Cy _ _ _ _ (mk _ _ _)
      unfold Bp.j3 at hg
      refine D1 rfl hg (fun h29 hg => ?_) fun h29 hg => ?_
      ·refine Aj ?_
       refine Af (Cd _ _ []) 1 9 Bg rfl rfl ?_
       refine Ao ?_
       refine Al fun hU => ?_
       refine Bv ?_
       obtain rfl := oi_ hg
       exact Bt [] ⟨rfl, rfl⟩
      ·refine Ay ?_
       repeat first | refine Dg ?_ | refine Df ?_
       refine Bu 1 145 Bg ?_
       refine Ao ?_
       rcases E8 hg with ⟨h31, hg⟩ | ⟨h31, hg⟩
       ·refine Ao ?_
        rcases E8 hg with ⟨h32, hg⟩ | ⟨h32, hg⟩
        ·refine Ao ?_
         rcases E8 hg with ⟨h33, hg⟩ | ⟨h33, hg⟩
         ·refine Ao ?_
          refine Al fun hU => ?_
          refine Bv ?_
          obtain rfl := oi_ hg
          exact Bt [] ⟨rfl, rfl⟩
         ·refine Ao ?_
          refine Al fun hU => ?_
          refine Bv ?_
          obtain rfl := oi_ hg
          exact Bt [] ⟨rfl, rfl⟩
        ·refine Ao ?_
         refine Al fun hU => ?_
         refine Bv ?_
         obtain rfl := oi_ hg
         exact Bt [] ⟨rfl, rfl⟩
       ·refine Ao ?_
        refine Al fun hU => ?_
        refine Bv ?_
        obtain rfl := oi_ hg
        exact Bt [] ⟨rfl, rfl⟩
theorem R3 (c : Am) (r : Int) (hg : G7 c = some r) : Fn Tryz.prog 122 0 [.agg (Am.dv c)] [] (fun d' b' => d' = .val (.int .i64 r) /\ b' = []) := by
 unfold G7 at hg
 refine Fn.of Tryz.func122 rfl rfl rfl fun w0 I ρ0 => ?_
 show Cy _ ⟨w0, I, ρ0, 0, 0, 6⟩ _ _ _
 refine Bu 0 16 Bg ?_
 refine Ao ?_
 refine Al fun hU => ?_
 refine Aj ?_
 refine Bu 16 40 hU ?_
 refine Ao ?_
 obtain ⟨y, hy, hg⟩ := Ad hg
 refine E4 (R4 _ _ hy) ?_
 refine Ao ?_
 refine Al fun hU => ?_
 refine D1 rfl hg (fun h3 hg => ?_) fun h3 hg => ?_
 ·refine Aj ?_
  refine Af (Cd _ _ []) 40 48 hU rfl rfl ?_
  refine Ao ?_
  refine Al fun hU => ?_
  refine Bv ?_
  obtain rfl := oi_ hg
  exact Bt [] ⟨rfl, rfl⟩
 ·refine Ay ?_
  repeat first | refine Dg ?_ | refine Df ?_
  refine Bu 40 48 hU ?_
  refine Ao ?_
  refine Al fun hU => ?_
  refine Bv ?_
  obtain rfl := oi_ hg
  exact Bt [] ⟨rfl, rfl⟩
theorem Ud (key : Az) (id : Int) (l : (List Am)) (r : Bool) (hg : C3 key id l = some r) : Fn Tryz.prog 88 0 [.agg [.val (.int .i64 key.Alg), .val (.int .i64 key.Bits)], .val (.int .i64 id), .sl 15 (Av Am.enc l)] [] (fun d' b' => d' = .val (.bool r) /\ b' = []) := by
 unfold C3 at hg
 refine Fn.of Tryz.func88 rfl rfl rfl fun w0 I ρ0 => ?_
 show Cy _ ⟨w0, I, ρ0, 0, 0, 57⟩ _ _ _
 refine Bu 0 16 Bg ?_
 refine Ao ?_
 refine Al fun hU => ?_
 refine Aj ?_
 refine B7 (ι := Bool) (fun (x27_1 : Bool) => mk [(1, .val (.int .i64 id)), (2, .sl 15 (Av Am.enc l)), (3, .ptr 0 0), (27, .val (.bool x27_1))] [(0, .box [.val (.int .i64 key.Alg), .val (.int .i64 key.Bits)] 39)] 1) (fun (x27_1 : Bool) => C3.j1 key id l x27_1 = some r) ?_ ?_
 ·refine Af (Cd _ _ []) 16 168 hU rfl rfl ?_
  refine Ao ?_
  obtain ⟨y, hy, hg⟩ := Ad hg
  refine E4 (Mi _ _ hy) ?_
  refine Ao ?_
  rcases E8 hg with ⟨h2, hg⟩ | ⟨h2, hg⟩
  ·refine Ao ?_
   refine Al fun hU => ?_
   exact ⟨true, hg, A9 [(0, 0)]⟩
  ·refine Ao ?_
   obtain ⟨y_2, hy_2, hg⟩ := Ad hg
   refine E4 (Nc _ _ hy_2) ?_
   refine Ao ?_
   rcases E8 hg with ⟨h4, hg⟩ | ⟨h4, hg⟩
   ·refine Ao ?_
    refine Al fun hU => ?_
    exact ⟨true, hg, A9 [(0, 0)]⟩
   ·refine Ao ?_
    obtain ⟨y_3, hy_3, hg⟩ := Ad hg
    refine E4 (Ja _ _ hy_3) ?_
    refine Ao ?_
    rcases E8 hg with ⟨h6, hg⟩ | ⟨h6, hg⟩
    ·refine Ao ?_
     refine Al fun hU => ?_
     exact ⟨true, hg, A9 [(0, 0)]⟩
    ·refine Ao ?_
     refine Al fun hU => ?_
     exact ⟨decide (8 < (l.length : Int)), hg, A9 [(0, 0)]⟩
 ·rintro x27_1 hg
  replace hg : C3.j1 key id l x27_1 = some r := hg
  show Cy _ _ _ _ (mk _ _ _)
  unfold C3.j1 at hg
  refine D1 rfl hg (fun h9 hg => ?_) fun h9 hg => ?_
  ·refine Aj ?_
   refine Af (Cd _ _ []) 1 9 Bg rfl rfl ?_
   refine Ao ?_
   refine Al fun hU => ?_
   refine Bv ?_
   obtain rfl := oi_ hg
   exact Bt [] ⟨rfl, rfl⟩
  ·refine Ay ?_
   repeat first | refine Dg ?_ | refine Df ?_
   refine Aj ?_
   refine Bu 1 25 Bg ?_
   refine Ao ?_
   refine Al fun hU => ?_
   refine A3 ?_
   refine Ix (fun (x30_2 : Int) => mk [(1, .val (.int .i64 id)), (2, .sl 15 (Av Am.enc l)), (3, .ptr 0 0), (28, .sl 15 (Av Am.enc l)), (29, .val (.int .i64 (l.length : Int))), (30, .val (.int .i64 x30_2))] [(0, .box [.val (.int .i64 key.Alg), .val (.int .i64 key.Bits)] 39)] 1) hg (A9 [(0, 0)]) ?_
   rintro x30_2 m2 o2 hg hn2
   replace hg : C3.l2 key id l x30_2 = some o2 := hg
   show Cy _ _ _ _ (mk _ _ _)
   unfold C3.l2 at hg
   refine Bu 1 9 Bg ?_
   refine Ao ?_
   refine Al fun hU => ?_
   refine Aj ?_
   refine D1 rfl hg (fun h13 hg => ?_) fun h13 hg => ?_
   ·refine Ay ?_
    repeat first | refine Dg ?_ | refine Df ?_
    refine Aj ?_
    refine A3 ?_
    refine Bu 9 41 hU ?_
    obtain ⟨e, he, hg⟩ := Ad hg
    refine Ao ?_
    refine Cl rfl rfl (D4 xC (Bh Am.enc_len (Aq he) (o := 0) (m := 15) (cs := [.int .i64 e.Serial, .str e.Issuer, .str e.Subject, .int .i64 e.Key.Alg, .int .i64 e.Key.Bits, .int .i64 e.KeyId, .int .i64 e.Hash.Alg, .int .i64 e.Hash.Bits, .int .i64 e.From, .int .i64 e.To, .bool e.Authority, .int .i64 e.Path, .sl 1 (Av eS e.Names), .int .i64 e.Seal.Key, .int .i64 e.Seal.Sum]) rfl (by decide) rfl) (Ax Am.enc_len (Aq he) (o := 0) (m := 15) (by decide) rfl)) rfl rfl ?_
    refine Ao ?_
    refine Al fun hU => ?_
    refine Bu 41 65 hU ?_
    refine Ao ?_
    obtain ⟨y_4, hy_4, hg⟩ := Ad hg
    refine E4 (R3 _ _ hy_4) ?_
    refine Ao ?_
    refine Al fun hU => ?_
    refine D1 rfl hg (fun h16 hg => ?_) fun h16 hg => ?_
    ·refine Aj ?_
     refine Af (Cd _ _ []) 65 73 hU rfl rfl ?_
     refine Ao ?_
     refine Al fun hU => ?_
     refine Bv ?_
     replace hg := Cr hg hn2
     obtain rfl := oi_ hg
     exact Bt [] ⟨rfl, rfl⟩
    ·refine Ay ?_
     repeat first | refine Dg ?_ | refine Df ?_
     refine Af (Cd _ _ []) 65 81 hU rfl rfl ?_
     refine Ao ?_
     refine Al fun hU => ?_
     obtain rfl := oi_ hg
     exact ⟨(W (x30_2 + 1), m2), Nat.lt_succ_self _, hn2, A9 [(0, 0)]⟩
   ·refine B8 ?_
    repeat first | refine Dg ?_ | refine Df ?_
    replace hg := Cr hg hn2
    refine Aj ?_
    refine Ck (Cd _ _ []) (by kernel_rfl) [0, 1, 3, 7, 15, 31, 63, 127, 15, 511, 1023, 2047, 4095, 8191, 16383, 2047, 65535, 131071, 262143, 524287] 9 169 hU rfl rfl (by kernel_rfl) ?_
    refine Ao ?_
    rcases E8 hg with ⟨h19, hg⟩ | ⟨h19, hg⟩
    ·refine Ao ?_
     refine Al fun hU => ?_
     refine Bv ?_
     obtain rfl := oi_ hg
     exact Bt [] ⟨rfl, rfl⟩
    ·refine Ao ?_
     obtain ⟨e_2, he_2, hg⟩ := Ad hg
     refine Ao ?_
     refine Cl (Cj rfl rfl h19) rfl (Ig iU nB (by decide) (Nu Am.enc_len (Aq he_2) (o := 3) (by decide) rfl)) rfl rfl ?_
     refine Cl (Cj rfl rfl h19) rfl (D4 nB (Bh Am.enc_len (Aq he_2) (o := 3) (m := 2) (cs := [.int .i64 e_2.Key.Alg, .int .i64 e_2.Key.Bits]) rfl (by decide) rfl) (Ax Am.enc_len (Aq he_2) (o := 3) (m := 2) (by decide) rfl)) rfl rfl ?_
     refine Ao ?_
     refine Cl (Cj rfl rfl h19) rfl (dX e_2.Key key) rfl rfl ?_
     refine Ao ?_
     rcases E8 hg with ⟨h21, hg⟩ | ⟨h21, hg⟩
     ·refine Ao ?_
      refine Cl (Cj rfl rfl h21) rfl (Ig iQ Nw (by decide) (Nu Am.enc_len (Aq he_2) (o := 5) (by decide) rfl)) rfl rfl ?_
      refine Cl (Cj rfl rfl h21) rfl (Cz Nw (Do Am.enc_len (Aq he_2) (o := 5) (c := .int .i64 e_2.KeyId) rfl rfl)) rfl rfl ?_
      refine Ao ?_
      refine Al fun hU => ?_
      refine Bv ?_
      obtain rfl := oi_ hg
      exact Bt [] ⟨rfl, rfl⟩
     ·refine Ao ?_
      refine Al fun hU => ?_
      refine Bv ?_
      obtain rfl := oi_ hg
      exact Bt [] ⟨rfl, rfl⟩
theorem Oj  (r : Unit) (hg : F6 = some r) : Fn Tryz.prog 89 0 [.val (.func (.func 92) #[] #[])] [] (fun d' b' => d' = .clo 90 0 [.elt (([.raw (.func (.func 92) #[] #[])] : List C).drop 0)] /\ b' = []) := by
 unfold F6 at hg
 refine Fn.of Tryz.func89 rfl rfl rfl fun w0 I ρ0 => ?_
 show Cy _ ⟨w0, I, ρ0, 0, 0, 4⟩ _ _ _
 refine Bu 0 16 Bg ?_
 refine Ao ?_
 refine Al fun hU => ?_
 refine Aj ?_
 refine H6 (σ' := mk [(1, .elt (([.raw (.func (.func 92) #[] #[])] : List C).drop 0))] [] 0) ((by exact Nx.lists [] rfl rfl ⟨⟨_, rfl, .frzb (ks := [none]) rfl (.cons .func .nil) (Ju rfl)⟩, trivial⟩ trivial)) ?_
 refine Af (Cd _ _ []) 0 16 Bg rfl rfl ?_
 refine Ao ?_
 refine Al fun hU => ?_
 refine Bv ?_
 obtain rfl := oi_ hg
 exact Bt [] ⟨rfl, rfl⟩
theorem Nv (n : Int) (r : Bool) (hg : E0 n = some r) : Fn Tryz.prog 90 0 [.val (.int .i64 n), .elt (([.raw (.func (.func 92) #[] #[])] : List C).drop 0)] [] (fun d' b' => d' = .val (.bool r) /\ b' = []) := by
 unfold E0 at hg
 refine Fn.of Tryz.func90 rfl rfl rfl fun w0 I ρ0 => ?_
 show Cy _ ⟨w0, I, ρ0, 0, 0, 8⟩ _ _ _
 refine Bu 0 8 Bg ?_
 refine Ao ?_
 refine Al fun hU => ?_
 refine Bu 8 48 hU ?_
 refine Cl rfl rfl (Cz qM (c := .raw (.func (.func 92) #[] #[])) rfl) rfl rfl ?_
 refine Ao ?_
 obtain ⟨y, hy, hg⟩ := Ad hg
 refine Ry (rd := []) (ps := []) (gs := []) false rfl rfl (Ja _ _ hy) rfl rfl (.cons .val .nil) rfl rfl (by intro h; cases h) rfl rfl rfl rfl ?_
 refine Ao ?_
 refine Al fun hU => ?_
 refine Bv ?_
 obtain rfl := oi_ hg
 exact Bt [] ⟨rfl, rfl⟩
theorem Io (s : (List Int)) (f : Int -> Option (Bool)) (hf_f : ∀ (x0 : Int) (y : Bool), f x0 = some y -> Fn Tryz.prog 90 0 [.val (.int .i64 x0), .elt (([.raw (.func (.func 92) #[] #[])] : List C).drop 0)] [] (fun d' b' => d' = .val (.bool y) /\ b' = [])) (r : Int) (hg : Cf s f = some r) : Fn Tryz.prog 123 0 [.sl 1 (Av eI s), .clo 90 0 [.elt (([.raw (.func (.func 92) #[] #[])] : List C).drop 0)]] [] (fun d' b' => d' = .val (.int .i64 r) /\ b' = []) := by
 unfold Cf at hg
 refine Fn.of Tryz.func123 rfl rfl rfl fun w0 I ρ0 => ?_
 show Cy _ ⟨w0, I, ρ0, 0, 0, 19⟩ _ _ _
 refine Bu 0 8 Bg ?_
 refine Ao ?_
 refine Al fun hU => ?_
 refine Aj ?_
 refine Bu 8 32 hU ?_
 refine Ao ?_
 refine Al fun hU => ?_
 refine A3 ?_
 refine Ix (fun (x8_1 : Int) => mk [(0, .sl 1 (Av eI s)), (1, .clo 90 0 [.elt (([.raw (.func (.func 92) #[] #[])] : List C).drop 0)]), (7, .val (.int .i64 (s.length : Int))), (8, .val (.int .i64 x8_1))] [] 0) hg (A9 []) ?_
 rintro x8_1 m1 o1 hg hn1
 replace hg : Cf.l1 s f x8_1 = some o1 := hg
 show Cy _ _ _ _ (mk _ _ _)
 unfold Cf.l1 at hg
 refine Bu 0 8 Bg ?_
 refine Ao ?_
 refine Al fun hU => ?_
 refine Aj ?_
 refine D1 rfl hg (fun h4 hg => ?_) fun h4 hg => ?_
 ·refine Ay ?_
  repeat first | refine Dg ?_ | refine Df ?_
  refine Aj ?_
  refine A3 ?_
  refine Bu 8 24 hU ?_
  refine Ao ?_
  refine Al fun hU => ?_
  refine Bu 24 72 hU ?_
  refine Ao ?_
  obtain ⟨e, he, hg⟩ := Ad hg
  refine Ao ?_
  refine Cl rfl rfl (Cz Nw (Do Hu (Aq he) (o := 0) (c := .int .i64 e) rfl rfl)) rfl rfl ?_
  obtain ⟨y, hy, hg⟩ := Ad hg
  refine Fg (rd := []) (ps := []) (gs := []) false rfl rfl (hf_f e _ hy) rfl rfl (.cons .val (.cons .elt .nil)) rfl rfl (by intro h; cases h) rfl rfl rfl rfl ?_
  refine Al fun hU => ?_
  refine D1 rfl hg (fun h7 hg => ?_) fun h7 hg => ?_
  ·refine Aj ?_
   refine Af (Cd _ _ []) 72 88 hU rfl rfl ?_
   refine Ao ?_
   refine Al fun hU => ?_
   refine Bv ?_
   replace hg := Cr hg hn1
   obtain rfl := oi_ hg
   exact Bt [] ⟨rfl, rfl⟩
  ·refine Ay ?_
   repeat first | refine Dg ?_ | refine Df ?_
   refine Af (Cd _ _ []) 72 88 hU rfl rfl ?_
   refine Ao ?_
   refine Al fun hU => ?_
   obtain rfl := oi_ hg
   exact ⟨(W (x8_1 + 1), m1), Nat.lt_succ_self _, hn1, A9 []⟩
 ·refine B8 ?_
  repeat first | refine Dg ?_ | refine Df ?_
  replace hg := Cr hg hn1
  refine Bu 8 16 hU ?_
  refine Ao ?_
  refine Al fun hU => ?_
  refine Bv ?_
  obtain rfl := oi_ hg
  exact Bt [] ⟨rfl, rfl⟩
theorem Ic (s : (List Int)) (f : Int -> Option (Bool)) (hf_f : ∀ (x0 : Int) (y : Bool), f x0 = some y -> Fn Tryz.prog 90 0 [.val (.int .i64 x0), .elt (([.raw (.func (.func 92) #[] #[])] : List C).drop 0)] [] (fun d' b' => d' = .val (.bool y) /\ b' = [])) (r : Bool) (hg : Ec s f = some r) : Fn Tryz.prog 91 0 [.sl 1 (Av eI s), .clo 90 0 [.elt (([.raw (.func (.func 92) #[] #[])] : List C).drop 0)]] [] (fun d' b' => d' = .val (.bool r) /\ b' = []) := by
 unfold Ec at hg
 refine Fn.of Tryz.func91 rfl rfl rfl fun w0 I ρ0 => ?_
 show Cy _ ⟨w0, I, ρ0, 0, 0, 9⟩ _ _ _
 refine Bu 0 8 Bg ?_
 refine Ao ?_
 refine Al fun hU => ?_
 refine Bu 8 48 hU ?_
 refine Ao ?_
 obtain ⟨y, hy, hg⟩ := Ad hg
 refine E4 (Io s f hf_f _ hy) ?_
 refine Ao ?_
 refine Al fun hU => ?_
 refine Bv ?_
 obtain rfl := oi_ hg
 exact Bt [] ⟨rfl, rfl⟩
theorem O3  (r : Unit) (hg : F9 = some r) : Fn Tryz.prog 89 0 [.val (.func (.func 93) #[] #[])] [] (fun d' b' => d' = .clo 90 0 [.elt (([.raw (.func (.func 93) #[] #[])] : List C).drop 0)] /\ b' = []) := by
 unfold F9 at hg
 refine Fn.of Tryz.func89 rfl rfl rfl fun w0 I ρ0 => ?_
 show Cy _ ⟨w0, I, ρ0, 0, 0, 4⟩ _ _ _
 refine Bu 0 16 Bg ?_
 refine Ao ?_
 refine Al fun hU => ?_
 refine Aj ?_
 refine H6 (σ' := mk [(1, .elt (([.raw (.func (.func 93) #[] #[])] : List C).drop 0))] [] 0) ((by exact Nx.lists [] rfl rfl ⟨⟨_, rfl, .frzb (ks := [none]) rfl (.cons .func .nil) (Ju rfl)⟩, trivial⟩ trivial)) ?_
 refine Af (Cd _ _ []) 0 16 Bg rfl rfl ?_
 refine Ao ?_
 refine Al fun hU => ?_
 refine Bv ?_
 obtain rfl := oi_ hg
 exact Bt [] ⟨rfl, rfl⟩
theorem V5 (alg : Int) (r : Bool) (hg : Iv alg = some r) : Fn Tryz.prog 93 0 [.val (.int .i64 alg)] [] (fun d' b' => d' = .val (.bool r) /\ b' = []) := by
 unfold Iv at hg
 refine Fn.of Tryz.func93 rfl rfl rfl fun w0 I ρ0 => ?_
 show Cy _ ⟨w0, I, ρ0, 0, 0, 6⟩ _ _ _
 refine Bu 0 8 Bg ?_
 refine Ao ?_
 refine Al fun hU => ?_
 refine Bu 8 40 hU ?_
 refine Ao ?_
 obtain ⟨y, hy, hg⟩ := Ad hg
 refine E4 (Nc _ _ hy) ?_
 refine Ao ?_
 refine Al fun hU => ?_
 refine Bv ?_
 obtain rfl := oi_ hg
 exact Bt [] ⟨rfl, rfl⟩
theorem Nf (n : Int) (r : Bool) (hg : E7 n = some r) : Fn Tryz.prog 90 0 [.val (.int .i64 n), .elt (([.raw (.func (.func 93) #[] #[])] : List C).drop 0)] [] (fun d' b' => d' = .val (.bool r) /\ b' = []) := by
 unfold E7 at hg
 refine Fn.of Tryz.func90 rfl rfl rfl fun w0 I ρ0 => ?_
 show Cy _ ⟨w0, I, ρ0, 0, 0, 8⟩ _ _ _
 refine Bu 0 8 Bg ?_
 refine Ao ?_
 refine Al fun hU => ?_
 refine Bu 8 48 hU ?_
 refine Cl rfl rfl (Cz qM (c := .raw (.func (.func 93) #[] #[])) rfl) rfl rfl ?_
 refine Ao ?_
 obtain ⟨y, hy, hg⟩ := Ad hg
 refine Ry (rd := []) (ps := []) (gs := []) false rfl rfl (V5 _ _ hy) rfl rfl (.cons .val .nil) rfl rfl (by intro h; cases h) rfl rfl rfl rfl ?_
 refine Ao ?_
 refine Al fun hU => ?_
 refine Bv ?_
 obtain rfl := oi_ hg
 exact Bt [] ⟨rfl, rfl⟩
theorem Ip (s : (List Int)) (f : Int -> Option (Bool)) (hf_f : ∀ (x0 : Int) (y : Bool), f x0 = some y -> Fn Tryz.prog 90 0 [.val (.int .i64 x0), .elt (([.raw (.func (.func 93) #[] #[])] : List C).drop 0)] [] (fun d' b' => d' = .val (.bool y) /\ b' = [])) (r : Int) (hg : Cf s f = some r) : Fn Tryz.prog 123 0 [.sl 1 (Av eI s), .clo 90 0 [.elt (([.raw (.func (.func 93) #[] #[])] : List C).drop 0)]] [] (fun d' b' => d' = .val (.int .i64 r) /\ b' = []) := by
 unfold Cf at hg
 refine Fn.of Tryz.func123 rfl rfl rfl fun w0 I ρ0 => ?_
 show Cy _ ⟨w0, I, ρ0, 0, 0, 19⟩ _ _ _
 refine Bu 0 8 Bg ?_
 refine Ao ?_
 refine Al fun hU => ?_
 refine Aj ?_
 refine Bu 8 32 hU ?_
 refine Ao ?_
 refine Al fun hU => ?_
 refine A3 ?_
 refine Ix (fun (x8_1 : Int) => mk [(0, .sl 1 (Av eI s)), (1, .clo 90 0 [.elt (([.raw (.func (.func 93) #[] #[])] : List C).drop 0)]), (7, .val (.int .i64 (s.length : Int))), (8, .val (.int .i64 x8_1))] [] 0) hg (A9 []) ?_
 rintro x8_1 m1 o1 hg hn1
 replace hg : Cf.l1 s f x8_1 = some o1 := hg
 show Cy _ _ _ _ (mk _ _ _)
 unfold Cf.l1 at hg
 refine Bu 0 8 Bg ?_
 refine Ao ?_
 refine Al fun hU => ?_
 refine Aj ?_
 refine D1 rfl hg (fun h4 hg => ?_) fun h4 hg => ?_
 ·refine Ay ?_
  repeat first | refine Dg ?_ | refine Df ?_
  refine Aj ?_
  refine A3 ?_
  refine Bu 8 24 hU ?_
  refine Ao ?_
  refine Al fun hU => ?_
  refine Bu 24 72 hU ?_
  refine Ao ?_
  obtain ⟨e, he, hg⟩ := Ad hg
  refine Ao ?_
  refine Cl rfl rfl (Cz Nw (Do Hu (Aq he) (o := 0) (c := .int .i64 e) rfl rfl)) rfl rfl ?_
  obtain ⟨y, hy, hg⟩ := Ad hg
  refine Fg (rd := []) (ps := []) (gs := []) false rfl rfl (hf_f e _ hy) rfl rfl (.cons .val (.cons .elt .nil)) rfl rfl (by intro h; cases h) rfl rfl rfl rfl ?_
  refine Al fun hU => ?_
  refine D1 rfl hg (fun h7 hg => ?_) fun h7 hg => ?_
  ·refine Aj ?_
   refine Af (Cd _ _ []) 72 88 hU rfl rfl ?_
   refine Ao ?_
   refine Al fun hU => ?_
   refine Bv ?_
   replace hg := Cr hg hn1
   obtain rfl := oi_ hg
   exact Bt [] ⟨rfl, rfl⟩
  ·refine Ay ?_
   repeat first | refine Dg ?_ | refine Df ?_
   refine Af (Cd _ _ []) 72 88 hU rfl rfl ?_
   refine Ao ?_
   refine Al fun hU => ?_
   obtain rfl := oi_ hg
   exact ⟨(W (x8_1 + 1), m1), Nat.lt_succ_self _, hn1, A9 []⟩
 ·refine B8 ?_
  repeat first | refine Dg ?_ | refine Df ?_
  replace hg := Cr hg hn1
  refine Bu 8 16 hU ?_
  refine Ao ?_
  refine Al fun hU => ?_
  refine Bv ?_
  obtain rfl := oi_ hg
  exact Bt [] ⟨rfl, rfl⟩
theorem Ib (s : (List Int)) (f : Int -> Option (Bool)) (hf_f : ∀ (x0 : Int) (y : Bool), f x0 = some y -> Fn Tryz.prog 90 0 [.val (.int .i64 x0), .elt (([.raw (.func (.func 93) #[] #[])] : List C).drop 0)] [] (fun d' b' => d' = .val (.bool y) /\ b' = [])) (r : Bool) (hg : Ec s f = some r) : Fn Tryz.prog 91 0 [.sl 1 (Av eI s), .clo 90 0 [.elt (([.raw (.func (.func 93) #[] #[])] : List C).drop 0)]] [] (fun d' b' => d' = .val (.bool r) /\ b' = []) := by
 unfold Ec at hg
 refine Fn.of Tryz.func91 rfl rfl rfl fun w0 I ρ0 => ?_
 show Cy _ ⟨w0, I, ρ0, 0, 0, 9⟩ _ _ _
 refine Bu 0 8 Bg ?_
 refine Ao ?_
 refine Al fun hU => ?_
 refine Bu 8 48 hU ?_
 refine Ao ?_
 obtain ⟨y, hy, hg⟩ := Ad hg
 refine E4 (Ip s f hf_f _ hy) ?_
 refine Ao ?_
 refine Al fun hU => ?_
 refine Bv ?_
 obtain rfl := oi_ hg
 exact Bt [] ⟨rfl, rfl⟩
theorem Us (e : Aw) (r : Int) (hg : Bs e = some r) : Fn Tryz.prog 61 0 [.agg (Aw.dv e)] [] (fun d' b' => d' = .val (.int .i64 r) /\ b' = []) := by
 unfold Bs at hg
 refine Fn.of Tryz.func61 rfl rfl rfl fun w0 I ρ0 => ?_
 show Cy _ ⟨w0, I, ρ0, 0, 0, 83⟩ _ _ _
 refine Bu 0 16 Bg ?_
 refine Ao ?_
 refine Al fun hU => ?_
 refine Aj ?_
 refine B7 (ι := Bool) (fun (x32_1 : Bool) => mk [(1, .ptr 0 0), (32, .val (.bool x32_1))] [(0, .box (Aw.dv e) 37)] 1) (fun (x32_1 : Bool) => Bs.j1 e x32_1 = some r) ?_ ?_
 ·refine Af (Cd _ _ []) 16 232 hU rfl rfl ?_
  refine Ao ?_
  obtain ⟨y, hy, hg⟩ := Ad hg
  refine E4 (Vt _ _ hy) ?_
  refine Ao ?_
  rcases E8 hg with ⟨h2, hg⟩ | ⟨h2, hg⟩
  ·refine Ao ?_
   refine Al fun hU => ?_
   exact ⟨true, hg, A9 [(0, 0)]⟩
  ·refine Ao ?_
   rcases E8 hg with ⟨h4, hg⟩ | ⟨h4, hg⟩
   ·refine Ao ?_
    refine Al fun hU => ?_
    exact ⟨true, hg, A9 [(0, 0)]⟩
   ·refine Ao ?_
    rcases E8 hg with ⟨h6, hg⟩ | ⟨h6, hg⟩
    ·refine Ao ?_
     refine Al fun hU => ?_
     exact ⟨true, hg, A9 [(0, 0)]⟩
    ·refine Ao ?_
     rcases E8 hg with ⟨h8, hg⟩ | ⟨h8, hg⟩
     ·refine Ao ?_
      refine Al fun hU => ?_
      exact ⟨true, hg, A9 [(0, 0)]⟩
     ·refine Ao ?_
      obtain ⟨y_2, hy_2, hg⟩ := Ad hg
      refine E4 (S6 _ _ hy_2) ?_
      refine Ao ?_
      refine Al fun hU => ?_
      exact ⟨!y_2, hg, A9 [(0, 0)]⟩
 ·rintro x32_1 hg
  replace hg : Bs.j1 e x32_1 = some r := hg
  show Cy _ _ _ _ (mk _ _ _)
  unfold Bs.j1 at hg
  refine D1 rfl hg (fun h11 hg => ?_) fun h11 hg => ?_
  ·refine Aj ?_
   refine Af (Cd _ _ []) 1 9 Bg rfl rfl ?_
   refine Ao ?_
   refine Al fun hU => ?_
   refine Bv ?_
   obtain rfl := oi_ hg
   exact Bt [] ⟨rfl, rfl⟩
  ·refine Ay ?_
   repeat first | refine Dg ?_ | refine Df ?_
   refine Aj ?_
   refine B7 (ι := Bool) (fun (x54_2 : Bool) => mk [(1, .ptr 0 0), (54, .val (.bool x54_2))] [(0, .box (Aw.dv e) 37)] 1) (fun (x54_2 : Bool) => Bs.j2 e x54_2 = some r) ?_ ?_
   ·refine Af (Cd _ _ []) 1 177 Bg rfl rfl ?_
    refine Ao ?_
    rcases E8 hg with ⟨h13, hg⟩ | ⟨h13, hg⟩
    ·refine Ao ?_
     refine Al fun hU => ?_
     exact ⟨true, hg, A9 [(0, 0)]⟩
    ·refine Ao ?_
     rcases E8 hg with ⟨h15, hg⟩ | ⟨h15, hg⟩
     ·refine Ao ?_
      refine Al fun hU => ?_
      exact ⟨true, hg, A9 [(0, 0)]⟩
     ·refine Ao ?_
      obtain ⟨y_3, hy_3, hg⟩ := Ad hg
      refine E4 (Nm _ _ hy_3) ?_
      refine Ao ?_
      rcases E8 hg with ⟨h17, hg⟩ | ⟨h17, hg⟩
      ·refine Ao ?_
       refine Al fun hU => ?_
       exact ⟨true, hg, A9 [(0, 0)]⟩
      ·refine Ao ?_
       obtain ⟨y_4, hy_4, hg⟩ := Ad hg
       refine E4 (Nm _ _ hy_4) ?_
       refine Ao ?_
       refine Al fun hU => ?_
       exact ⟨!y_4, hg, A9 [(0, 0)]⟩
   ·rintro x54_2 hg
    replace hg : Bs.j2 e x54_2 = some r := hg
    show Cy _ _ _ _ (mk _ _ _)
    unfold Bs.j2 at hg
    refine D1 rfl hg (fun h20 hg => ?_) fun h20 hg => ?_
    ·refine Aj ?_
     refine Af (Cd _ _ []) 1 9 Bg rfl rfl ?_
     refine Ao ?_
     refine Al fun hU => ?_
     refine Bv ?_
     obtain rfl := oi_ hg
     exact Bt [] ⟨rfl, rfl⟩
    ·refine Ay ?_
     repeat first | refine Dg ?_ | refine Df ?_
     refine Aj ?_
     refine Bu 1 33 Bg ?_
     refine Ao ?_
     refine Al fun hU => ?_
     refine A3 ?_
     refine Ix (fun (x58_3 : Int) => mk [(1, .ptr 0 0), (56, .sl 4 (Av Bq.enc e.Identities)), (57, .val (.int .i64 (e.Identities.length : Int))), (58, .val (.int .i64 x58_3))] [(0, .box (Aw.dv e) 37)] 1) hg (A9 [(0, 0)]) ?_
     rintro x58_3 m3 o3 hg hn3
     replace hg : Bs.l3 e x58_3 = some o3 := hg
     show Cy _ _ _ _ (mk _ _ _)
     unfold Bs.l3 at hg
     refine Bu 1 9 Bg ?_
     refine Ao ?_
     refine Al fun hU => ?_
     refine Aj ?_
     refine D1 rfl hg (fun h24 hg => ?_) fun h24 hg => ?_
     ·refine Ay ?_
      repeat first | refine Dg ?_ | refine Df ?_
      refine Aj ?_
      refine A3 ?_
      refine Bu 9 41 hU ?_
      obtain ⟨e_2, he_2, hg⟩ := Ad hg
      refine Ao ?_
      refine Cl rfl rfl (D4 vG (Bh Bq.enc_len (Aq he_2) (o := 0) (m := 4) (cs := [.int .i64 e_2.Key.Alg, .int .i64 e_2.Key.Bits, .int .i64 e_2.KeyId, .sl 15 (Av Am.enc e_2.Chain)]) rfl (by decide) rfl) (Ax Bq.enc_len (Aq he_2) (o := 0) (m := 4) (by decide) rfl)) rfl rfl ?_
      refine Ao ?_
      refine Al fun hU => ?_
      refine Bu 41 105 hU ?_
      refine Ao ?_
      obtain ⟨y_5, hy_5, hg⟩ := Ad hg
      refine E4 (Ud _ _ _ _ hy_5) ?_
      refine Ao ?_
      refine Al fun hU => ?_
      refine D1 rfl hg (fun h27 hg => ?_) fun h27 hg => ?_
      ·refine Aj ?_
       refine Af (Cd _ _ []) 105 113 hU rfl rfl ?_
       refine Ao ?_
       refine Al fun hU => ?_
       refine Bv ?_
       replace hg := Cr hg hn3
       obtain rfl := oi_ hg
       exact Bt [] ⟨rfl, rfl⟩
      ·refine Ay ?_
       repeat first | refine Dg ?_ | refine Df ?_
       refine Af (Cd _ _ []) 105 121 hU rfl rfl ?_
       refine Ao ?_
       refine Al fun hU => ?_
       obtain rfl := oi_ hg
       exact ⟨(W (x58_3 + 1), m3), Nat.lt_succ_self _, hn3, A9 [(0, 0)]⟩
     ·refine B8 ?_
      repeat first | refine Dg ?_ | refine Df ?_
      replace hg := Cr hg hn3
      refine Bu 9 17 hU ?_
      refine Ao ?_
      refine Al fun hU => ?_
      refine Aj ?_
      refine B7 (ι := Bool) (fun (x82_4 : Bool) => mk [(82, .val (.bool x82_4))] [] 0) (fun (x82_4 : Bool) => Bs.j4 x82_4 = some r) ?_ ?_
      ·refine Ck (Cd _ _ []) (by kernel_rfl) [0, 1, 0, 4, 15, 31, 63, 127, 63, 319, 1023, 2047] 17 113 hU rfl rfl (by kernel_rfl) ?_
       refine Ao ?_
       obtain ⟨y_6, hy_6, hg⟩ := Ad hg
       refine Ry (rd := []) (ps := []) (gs := []) false rfl rfl (Oj _ hy_6) rfl rfl (.cons .val .nil) rfl rfl (by intro h; cases h) rfl rfl rfl rfl ?_
       obtain ⟨y_7, hy_7, hg⟩ := Ad hg
       refine E4 (Ic e.Anchors (fun x0 => E0 x0) (fun x0 y h => Nv x0 y h) _ hy_7) ?_
       refine Ao ?_
       rcases E8 hg with ⟨h31, hg⟩ | ⟨h31, hg⟩
       ·refine Ao ?_
        refine Al fun hU => ?_
        exact ⟨true, hg, A9 []⟩
       ·refine Ao ?_
        obtain ⟨y_8, hy_8, hg⟩ := Ad hg
        refine Ry (rd := []) (ps := []) (gs := []) false (Cj rfl rfl h31) rfl (O3 _ hy_8) rfl rfl (.cons .val .nil) rfl rfl (by intro h; cases h) rfl rfl rfl rfl ?_
        obtain ⟨y_9, hy_9, hg⟩ := Ad hg
        refine E4 (Ib e.Hashes (fun x0 => E7 x0) (fun x0 y h => Nf x0 y h) _ hy_9) ?_
        refine Ao ?_
        refine Al fun hU => ?_
        exact ⟨y_9, hg, A9 []⟩
      ·rintro x82_4 hg
       replace hg : Bs.j4 x82_4 = some r := hg
       show Cy _ _ _ _ (mk _ _ _)
       unfold Bs.j4 at hg
       refine D1 rfl hg (fun h34 hg => ?_) fun h34 hg => ?_
       ·refine Aj ?_
        refine Af (Cd _ _ []) 0 8 Bg rfl rfl ?_
        refine Ao ?_
        refine Al fun hU => ?_
        refine Bv ?_
        obtain rfl := oi_ hg
        exact Bt [] ⟨rfl, rfl⟩
       ·refine Ay ?_
        repeat first | refine Dg ?_ | refine Df ?_
        refine Bu 0 8 Bg ?_
        refine Ao ?_
        refine Al fun hU => ?_
        refine Bv ?_
        obtain rfl := oi_ hg
        exact Bt [] ⟨rfl, rfl⟩
end Go.Proofs.YtkpcbnnlefcebaaGreat
