import Derived.Test.YtkpcbnnlefcebaaGreatT1
set_option linter.unusedVariables false
set_option linter.unusedSimpArgs false
set_option maxRecDepth 100000
set_option maxHeartbeats 1600000
namespace Go.Proofs.YtkpcbnnlefcebaaGreat
open Go.RowKit
theorem Lc (s : ByteArray) (c : UInt8) (r : Int) (hg : Er s c = some r) : Fn Tryz.prog 157 0 [.val (.string s), .val (.int .u8 (c.toNat : Int))] [] (fun d' b' => d' = .val (.int .i64 r) /\ b' = []) := by
 unfold Er at hg
 refine Fn.of Tryz.func157 rfl rfl rfl fun w0 I ρ0 => ?_
 show Cy _ ⟨w0, I, ρ0, 0, 0, 8⟩ _ _ _
 refine Bu 0 8 Bg ?_
 refine Ao ?_
 refine Al fun hU => ?_
 refine Bu 8 40 hU ?_
 refine Ao ?_
 refine Yh (rd := []) rfl rfl (.extV rfl oL (yR s c)) rfl rfl (fun _ => ⟨_, rfl⟩) ?_
 rintro _ rfl
 refine Ao ?_
 refine Al fun hU => ?_
 refine Bv ?_
 obtain rfl := oi_ hg
 exact Bt [] ⟨rfl, rfl⟩
theorem Fi (s : ByteArray) (c : UInt8) (r : Int) (hg : D6 s c = some r) : Fn Tryz.prog 144 0 [.val (.string s), .val (.int .u8 (c.toNat : Int))] [] (fun d' b' => d' = .val (.int .i64 r) /\ b' = []) := by
 unfold D6 at hg
 refine Fn.of Tryz.func144 rfl rfl rfl fun w0 I ρ0 => ?_
 show Cy _ ⟨w0, I, ρ0, 0, 0, 8⟩ _ _ _
 refine Bu 0 8 Bg ?_
 refine Ao ?_
 refine Al fun hU => ?_
 refine Bu 8 40 hU ?_
 refine Ao ?_
 obtain ⟨y, hy, hg⟩ := Ad hg
 refine E4 (Lc _ _ _ hy) ?_
 refine Ao ?_
 refine Al fun hU => ?_
 refine Bv ?_
 obtain rfl := oi_ hg
 exact Bt [] ⟨rfl, rfl⟩
theorem Ta (c : UInt8) (others : ByteArray) (r : Bool) (hg : H3 c others = some r) : Fn Tryz.prog 118 0 [.val (.int .u8 (c.toNat : Int)), .val (.string others)] [] (fun d' b' => d' = .val (.bool r) /\ b' = []) := by
 unfold H3 at hg
 refine Fn.of Tryz.func118 rfl rfl rfl fun w0 I ρ0 => ?_
 show Cy _ ⟨w0, I, ρ0, 0, 0, 33⟩ _ _ _
 refine Bu 0 8 Bg ?_
 refine Ao ?_
 refine Al fun hU => ?_
 refine Bu 8 240 hU ?_
 refine Ao ?_
 rcases E8 hg with ⟨h2, hg⟩ | ⟨h2, hg⟩
 ·refine Ao ?_
  rcases E8 hg with ⟨h3, hg⟩ | ⟨h3, hg⟩
  ·refine Ao ?_
   refine Al fun hU => ?_
   refine Bv ?_
   obtain rfl := oi_ hg
   exact Bt [] ⟨rfl, rfl⟩
  ·refine Ao ?_
   rcases E8 hg with ⟨h5, hg⟩ | ⟨h5, hg⟩
   ·refine Ao ?_
    rcases E8 hg with ⟨h6, hg⟩ | ⟨h6, hg⟩
    ·refine Ao ?_
     refine Al fun hU => ?_
     refine Bv ?_
     obtain rfl := oi_ hg
     exact Bt [] ⟨rfl, rfl⟩
    ·refine Ao ?_
     rcases E8 hg with ⟨h8, hg⟩ | ⟨h8, hg⟩
     ·refine Ao ?_
      rcases E8 hg with ⟨h9, hg⟩ | ⟨h9, hg⟩
      ·refine Ao ?_
       refine Al fun hU => ?_
       refine Bv ?_
       obtain rfl := oi_ hg
       exact Bt [] ⟨rfl, rfl⟩
      ·refine Ao ?_
       obtain ⟨y, hy, hg⟩ := Ad hg
       refine E4 (Fi _ _ _ hy) ?_
       refine Ao ?_
       refine Al fun hU => ?_
       refine Bv ?_
       obtain rfl := oi_ hg
       exact Bt [] ⟨rfl, rfl⟩
     ·refine Ao ?_
      obtain ⟨y_2, hy_2, hg⟩ := Ad hg
      refine E4 (Fi _ _ _ hy_2) ?_
      refine Ao ?_
      refine Al fun hU => ?_
      refine Bv ?_
      obtain rfl := oi_ hg
      exact Bt [] ⟨rfl, rfl⟩
   ·refine Ao ?_
    rcases E8 hg with ⟨h13, hg⟩ | ⟨h13, hg⟩
    ·refine Ao ?_
     rcases E8 hg with ⟨h14, hg⟩ | ⟨h14, hg⟩
     ·refine Ao ?_
      refine Al fun hU => ?_
      refine Bv ?_
      obtain rfl := oi_ hg
      exact Bt [] ⟨rfl, rfl⟩
     ·refine Ao ?_
      obtain ⟨y_3, hy_3, hg⟩ := Ad hg
      refine E4 (Fi _ _ _ hy_3) ?_
      refine Ao ?_
      refine Al fun hU => ?_
      refine Bv ?_
      obtain rfl := oi_ hg
      exact Bt [] ⟨rfl, rfl⟩
    ·refine Ao ?_
     obtain ⟨y_4, hy_4, hg⟩ := Ad hg
     refine E4 (Fi _ _ _ hy_4) ?_
     refine Ao ?_
     refine Al fun hU => ?_
     refine Bv ?_
     obtain rfl := oi_ hg
     exact Bt [] ⟨rfl, rfl⟩
 ·refine Ao ?_
  rcases E8 hg with ⟨h18, hg⟩ | ⟨h18, hg⟩
  ·refine Ao ?_
   rcases E8 hg with ⟨h19, hg⟩ | ⟨h19, hg⟩
   ·refine Ao ?_
    refine Al fun hU => ?_
    refine Bv ?_
    obtain rfl := oi_ hg
    exact Bt [] ⟨rfl, rfl⟩
   ·refine Ao ?_
    rcases E8 hg with ⟨h21, hg⟩ | ⟨h21, hg⟩
    ·refine Ao ?_
     rcases E8 hg with ⟨h22, hg⟩ | ⟨h22, hg⟩
     ·refine Ao ?_
      refine Al fun hU => ?_
      refine Bv ?_
      obtain rfl := oi_ hg
      exact Bt [] ⟨rfl, rfl⟩
     ·refine Ao ?_
      obtain ⟨y_5, hy_5, hg⟩ := Ad hg
      refine E4 (Fi _ _ _ hy_5) ?_
      refine Ao ?_
      refine Al fun hU => ?_
      refine Bv ?_
      obtain rfl := oi_ hg
      exact Bt [] ⟨rfl, rfl⟩
    ·refine Ao ?_
     obtain ⟨y_6, hy_6, hg⟩ := Ad hg
     refine E4 (Fi _ _ _ hy_6) ?_
     refine Ao ?_
     refine Al fun hU => ?_
     refine Bv ?_
     obtain rfl := oi_ hg
     exact Bt [] ⟨rfl, rfl⟩
  ·refine Ao ?_
   rcases E8 hg with ⟨h26, hg⟩ | ⟨h26, hg⟩
   ·refine Ao ?_
    rcases E8 hg with ⟨h27, hg⟩ | ⟨h27, hg⟩
    ·refine Ao ?_
     refine Al fun hU => ?_
     refine Bv ?_
     obtain rfl := oi_ hg
     exact Bt [] ⟨rfl, rfl⟩
    ·refine Ao ?_
     obtain ⟨y_7, hy_7, hg⟩ := Ad hg
     refine E4 (Fi _ _ _ hy_7) ?_
     refine Ao ?_
     refine Al fun hU => ?_
     refine Bv ?_
     obtain rfl := oi_ hg
     exact Bt [] ⟨rfl, rfl⟩
   ·refine Ao ?_
    obtain ⟨y_8, hy_8, hg⟩ := Ad hg
    refine E4 (Fi _ _ _ hy_8) ?_
    refine Ao ?_
    refine Al fun hU => ?_
    refine Bv ?_
    obtain rfl := oi_ hg
    exact Bt [] ⟨rfl, rfl⟩
theorem Vt (s : ByteArray) (r : Bool) (hg : Fb s = some r) : Fn Tryz.prog 85 0 [.val (.string s)] [] (fun d' b' => d' = .val (.bool r) /\ b' = []) := by
 unfold Fb at hg
 refine Fn.of Tryz.func85 rfl rfl rfl fun w0 I ρ0 => ?_
 show Cy _ ⟨w0, I, ρ0, 0, 0, 24⟩ _ _ _
 refine Bu 0 8 Bg ?_
 refine Ao ?_
 refine Al fun hU => ?_
 refine Aj ?_
 refine Bu 8 40 hU ?_
 refine Ao ?_
 refine Cl rfl rfl (Z4 U1 dD V7) rfl rfl ?_
 refine Ao ?_
 refine Al fun hU => ?_
 refine A3 ?_
 refine Ix (fun (x8_1 : Int) => mk [(0, .val (.string s)), (6, .sl 1 (Av e8 (Ny s))), (7, .val (.int .i64 ((Ny s).length : Int))), (8, .val (.int .i64 x8_1))] [] 0) hg (A9 []) ?_
 rintro x8_1 m1 o1 hg hn1
 replace hg : Fb.l1 s x8_1 = some o1 := hg
 show Cy _ _ _ _ (mk _ _ _)
 unfold Fb.l1 at hg
 refine Bu 0 8 Bg ?_
 refine Ao ?_
 refine Al fun hU => ?_
 refine Aj ?_
 refine D1 rfl hg (fun h4 hg => ?_) fun h4 hg => ?_
 ·refine Ay ?_
  repeat first | refine Dg ?_ | refine Df ?_
  refine Aj ?_
  refine A3 ?_
  refine Bu 8 32 hU ?_
  obtain ⟨e, he, hg⟩ := Ad hg
  refine Ao ?_
  refine Cl rfl rfl (Cz lX (Do I7 (Aq he) (o := 0) (c := .int .u8 (e.toNat : Int)) rfl rfl)) rfl rfl ?_
  refine Ao ?_
  refine Al fun hU => ?_
  refine Bu 32 56 hU ?_
  refine Ao ?_
  obtain ⟨y, hy, hg⟩ := Ad hg
  refine E4 (Ta _ _ _ hy) ?_
  refine Ao ?_
  refine Al fun hU => ?_
  refine D1 rfl hg (fun h7 hg => ?_) fun h7 hg => ?_
  ·refine Aj ?_
   refine Af (Cd _ _ []) 56 64 hU rfl rfl ?_
   refine Ao ?_
   refine Al fun hU => ?_
   refine Bv ?_
   replace hg := Cr hg hn1
   obtain rfl := oi_ hg
   exact Bt [] ⟨rfl, rfl⟩
  ·refine Ay ?_
   repeat first | refine Dg ?_ | refine Df ?_
   refine Af (Cd _ _ []) 56 72 hU rfl rfl ?_
   refine Ao ?_
   refine Al fun hU => ?_
   obtain rfl := oi_ hg
   exact ⟨(W (x8_1 + 1), m1), Nat.lt_succ_self _, hn1, A9 []⟩
 ·refine B8 ?_
  repeat first | refine Dg ?_ | refine Df ?_
  replace hg := Cr hg hn1
  refine Bu 8 80 hU ?_
  refine Ao ?_
  refine Cl rfl rfl (Sx U1) rfl rfl ?_
  refine Ao ?_
  rcases E8 hg with ⟨h10, hg⟩ | ⟨h10, hg⟩
  ·refine Ao ?_
   refine Cl (Cj rfl rfl h10) rfl (Sx U1) rfl rfl ?_
   refine Ao ?_
   refine Al fun hU => ?_
   refine Bv ?_
   obtain rfl := oi_ hg
   exact Bt [] ⟨rfl, rfl⟩
  ·refine Ao ?_
   refine Al fun hU => ?_
   refine Bv ?_
   obtain rfl := oi_ hg
   exact Bt [] ⟨rfl, rfl⟩
theorem Dy (alg : Int) (bits : Int) (r : Az) (hg : Db alg bits = some r) : Fn Tryz.prog 158 0 [.val (.int .i64 alg), .val (.int .i64 bits)] [] (fun d' b' => d' = .agg [.val (.int .i64 r.Alg), .val (.int .i64 r.Bits)] /\ b' = []) := by
 unfold Db at hg
 refine Fn.of Tryz.func158 rfl rfl rfl fun w0 I ρ0 => ?_
 show Cy _ ⟨w0, I, ρ0, 0, 0, 8⟩ _ _ _
 refine Bu 0 8 Bg ?_
 refine Ao ?_
 refine Al fun hU => ?_
 refine Bu 8 40 hU ?_
 refine Ao ?_
 refine Cl rfl rfl (.build (r := [.val (.int .i64 alg), .val (.int .i64 bits)]) O7 Xn gY (by kernel_rfl) rfl) rfl rfl ?_
 refine Ao ?_
 refine Al fun hU => ?_
 refine Bv ?_
 obtain rfl := oi_ hg
 exact Bt [] ⟨rfl, rfl⟩
theorem U5  (r : (List A4)) (hg : E6 = some r) : Fn Tryz.prog 145 0 [] [] (fun d' b' => d' = .sl 12 (Av A4.enc r) /\ b' = []) := by
 unfold E6 at hg
 refine Fn.of Tryz.func145 rfl rfl rfl fun w0 I ρ0 => ?_
 show Cy _ ⟨w0, I, ρ0, 0, 0, 125⟩ _ _ _
 refine Bu 0 8 Bg ?_
 refine Ao ?_
 refine Al fun hU => ?_
 refine Bu 8 128 hU ?_
 obtain ⟨y, hy, hg⟩ := Ad hg
 refine E4 (Dy _ _ _ hy) ?_
 obtain ⟨y_2, hy_2, hg⟩ := Ad hg
 refine E4 (Dy _ _ _ hy_2) ?_
 obtain ⟨y_3, hy_3, hg⟩ := Ad hg
 refine E4 (Dy _ _ _ hy_3) ?_
 obtain ⟨y_4, hy_4, hg⟩ := Ad hg
 refine E4 (Dy _ _ _ hy_4) ?_
 refine Cl rfl rfl (.build (r := [.val (.int .i64 0), .val (.int .i64 0)]) O7 Xn gY (by kernel_rfl) rfl) rfl rfl ?_
 refine Ao ?_
 refine Al fun hU => ?_
 refine Bu 128 248 hU ?_
 obtain ⟨y_5, hy_5, hg⟩ := Ad hg
 refine E4 (Dy _ _ _ hy_5) ?_
 obtain ⟨y_6, hy_6, hg⟩ := Ad hg
 refine E4 (Dy _ _ _ hy_6) ?_
 obtain ⟨y_7, hy_7, hg⟩ := Ad hg
 refine E4 (Dy _ _ _ hy_7) ?_
 obtain ⟨y_8, hy_8, hg⟩ := Ad hg
 refine E4 (Dy _ _ _ hy_8) ?_
 obtain ⟨y_9, hy_9, hg⟩ := Ad hg
 refine E4 (Dy _ _ _ hy_9) ?_
 refine Ao ?_
 refine Al fun hU => ?_
 refine Bu 248 344 hU ?_
 obtain ⟨y_10, hy_10, hg⟩ := Ad hg
 refine E4 (Dy _ _ _ hy_10) ?_
 obtain ⟨y_11, hy_11, hg⟩ := Ad hg
 refine E4 (Dy _ _ _ hy_11) ?_
 obtain ⟨y_12, hy_12, hg⟩ := Ad hg
 refine E4 (Dy _ _ _ hy_12) ?_
 obtain ⟨y_13, hy_13, hg⟩ := Ad hg
 refine E4 (Dy _ _ _ hy_13) ?_
 refine Ao ?_
 refine Al fun hU => ?_
 refine Aj ?_
 refine Ck (Cd _ _ []) (by kernel_rfl) [0, 0, 0, 0, 15, 0, 0, 4, 0, 484, 0, 0, 0, 0, 15360, 132, 0, 0, 0, 491652, 32900, 0, 0, 0, 15761540, 0, 0, 0, 0, 503316480, 1081476, 0, 0, 0, 16107208836, 0, 0, 0, 0, 515396075520, 0, 0, 1074823300, 4399121334404, 16493749239940, 0, 0, 0, 0, 527765581332480, 13195214356612, 0, 0, 0, 16901693816995972, 0, 0, 0, 0, 540431955284459520, 0, 0, 0, 0, 17293822569102704640, 0, 0, 0, 0, 553402322211286548480, 0, 0, 0, 0, 17708874310761169551360, 1139095121199236, 0, 0, 0, 566683979083452546842756, 1208925819614629174706175, 2417851639229258349412351] 344 1000 hU rfl rfl (by kernel_rfl) ?_
 refine Ao ?_
 obtain ⟨y_14, hy_14, hg⟩ := Ad hg
 refine E4 (Dy _ _ _ hy_14) ?_
 refine Ao ?_
 refine Cl rfl rfl (.build (r := [.val (.int .i64 0), .val (.string (⟨#[114, 115, 97, 45, 114, 99, 52, 45, 109, 100, 53]⟩ : ByteArray)), .val (.int .i64 y.Alg), .val (.int .i64 y.Bits), .val (.int .i64 y_2.Alg), .val (.int .i64 y_2.Bits), .val (.int .i64 y_14.Alg), .val (.int .i64 y_14.Bits), .val (.int .i64 y_10.Alg), .val (.int .i64 y_10.Bits), .val (.int .i64 1), .val (.int .i64 2)]) I5 Ma Pt (by kernel_rfl) rfl) rfl rfl ?_
 refine Ao ?_
 obtain ⟨y_15, hy_15, hg⟩ := Ad hg
 refine E4 (Dy _ _ _ hy_15) ?_
 refine Ao ?_
 refine Cl rfl rfl (.build (r := [.val (.int .i64 0), .val (.string (⟨#[114, 115, 97, 45, 114, 99, 52, 45, 115, 104, 97]⟩ : ByteArray)), .val (.int .i64 y.Alg), .val (.int .i64 y.Bits), .val (.int .i64 y_2.Alg), .val (.int .i64 y_2.Bits), .val (.int .i64 y_15.Alg), .val (.int .i64 y_15.Bits), .val (.int .i64 y_11.Alg), .val (.int .i64 y_11.Bits), .val (.int .i64 1), .val (.int .i64 3)]) I5 Ma Pt (by kernel_rfl) rfl) rfl rfl ?_
 refine Ao ?_
 refine Cl rfl rfl (.build (r := [.val (.int .i64 0), .val (.string (⟨#[114, 115, 97, 45, 100, 101, 115, 51, 45, 115, 104, 97]⟩ : ByteArray)), .val (.int .i64 y.Alg), .val (.int .i64 y.Bits), .val (.int .i64 y_2.Alg), .val (.int .i64 y_2.Bits), .val (.int .i64 y_5.Alg), .val (.int .i64 y_5.Bits), .val (.int .i64 y_11.Alg), .val (.int .i64 y_11.Bits), .val (.int .i64 1), .val (.int .i64 3)]) I5 Ma Pt (by kernel_rfl) rfl) rfl rfl ?_
 obtain ⟨y_16, hy_16, hg⟩ := Ad hg
 refine E4 (Dy _ _ _ hy_16) ?_
 refine Ao ?_
 refine Cl rfl rfl (.build (r := [.val (.int .i64 0), .val (.string (⟨#[100, 104, 101, 45, 100, 115, 97, 45, 100, 101, 115, 51, 45, 115, 104, 97]⟩ : ByteArray)), .val (.int .i64 y_16.Alg), .val (.int .i64 y_16.Bits), .val (.int .i64 y_3.Alg), .val (.int .i64 y_3.Bits), .val (.int .i64 y_5.Alg), .val (.int .i64 y_5.Bits), .val (.int .i64 y_11.Alg), .val (.int .i64 y_11.Bits), .val (.int .i64 1), .val (.int .i64 3)]) I5 Ma Pt (by kernel_rfl) rfl) rfl rfl ?_
 obtain ⟨y_17, hy_17, hg⟩ := Ad hg
 refine E4 (Dy _ _ _ hy_17) ?_
 refine Ao ?_
 refine Cl rfl rfl (.build (r := [.val (.int .i64 0), .val (.string (⟨#[100, 104, 101, 45, 114, 115, 97, 45, 100, 101, 115, 51, 45, 115, 104, 97]⟩ : ByteArray)), .val (.int .i64 y_17.Alg), .val (.int .i64 y_17.Bits), .val (.int .i64 y_2.Alg), .val (.int .i64 y_2.Bits), .val (.int .i64 y_5.Alg), .val (.int .i64 y_5.Bits), .val (.int .i64 y_11.Alg), .val (.int .i64 y_11.Bits), .val (.int .i64 1), .val (.int .i64 3)]) I5 Ma Pt (by kernel_rfl) rfl) rfl rfl ?_
 refine Ao ?_
 refine Cl rfl rfl (.build (r := [.val (.int .i64 0), .val (.string (⟨#[114, 115, 97, 45, 97, 101, 115, 49, 50, 56, 45, 115, 104, 97]⟩ : ByteArray)), .val (.int .i64 y.Alg), .val (.int .i64 y.Bits), .val (.int .i64 y_2.Alg), .val (.int .i64 y_2.Bits), .val (.int .i64 y_6.Alg), .val (.int .i64 y_6.Bits), .val (.int .i64 y_11.Alg), .val (.int .i64 y_11.Bits), .val (.int .i64 1), .val (.int .i64 3)]) I5 Ma Pt (by kernel_rfl) rfl) rfl rfl ?_
 obtain ⟨y_18, hy_18, hg⟩ := Ad hg
 refine E4 (Dy _ _ _ hy_18) ?_
 refine Ao ?_
 refine Cl rfl rfl (.build (r := [.val (.int .i64 0), .val (.string (⟨#[100, 104, 101, 45, 114, 115, 97, 45, 97, 101, 115, 49, 50, 56, 45, 115, 104, 97]⟩ : ByteArray)), .val (.int .i64 y_18.Alg), .val (.int .i64 y_18.Bits), .val (.int .i64 y_2.Alg), .val (.int .i64 y_2.Bits), .val (.int .i64 y_6.Alg), .val (.int .i64 y_6.Bits), .val (.int .i64 y_11.Alg), .val (.int .i64 y_11.Bits), .val (.int .i64 1), .val (.int .i64 3)]) I5 Ma Pt (by kernel_rfl) rfl) rfl rfl ?_
 refine Ao ?_
 refine Cl rfl rfl (.build (r := [.val (.int .i64 0), .val (.string (⟨#[101, 99, 100, 104, 101, 45, 114, 115, 97, 45, 97, 101, 115, 49, 50, 56, 45, 115, 104, 97]⟩ : ByteArray)), .val (.int .i64 y_13.Alg), .val (.int .i64 y_13.Bits), .val (.int .i64 y_2.Alg), .val (.int .i64 y_2.Bits), .val (.int .i64 y_6.Alg), .val (.int .i64 y_6.Bits), .val (.int .i64 y_11.Alg), .val (.int .i64 y_11.Bits), .val (.int .i64 1), .val (.int .i64 3)]) I5 Ma Pt (by kernel_rfl) rfl) rfl rfl ?_
 refine Ao ?_
 obtain ⟨y_19, hy_19, hg⟩ := Ad hg
 refine E4 (Dy _ _ _ hy_19) ?_
 obtain ⟨y_20, hy_20, hg⟩ := Ad hg
 refine E4 (Dy _ _ _ hy_20) ?_
 refine Cl rfl rfl (.build (r := [.val (.int .i64 0), .val (.string (⟨#[101, 99, 100, 104, 101, 45, 101, 99, 100, 115, 97, 45, 97, 101, 115, 50, 53, 54, 45, 115, 104, 97, 50, 53, 54]⟩ : ByteArray)), .val (.int .i64 y_13.Alg), .val (.int .i64 y_13.Bits), .val (.int .i64 y_4.Alg), .val (.int .i64 y_4.Bits), .val (.int .i64 y_19.Alg), .val (.int .i64 y_19.Bits), .val (.int .i64 y_20.Alg), .val (.int .i64 y_20.Bits), .val (.int .i64 3), .val (.int .i64 3)]) I5 Ma Pt (by kernel_rfl) rfl) rfl rfl ?_
 refine Ao ?_
 refine Cl rfl rfl (.build (r := [.val (.int .i64 0), .val (.string (⟨#[101, 99, 100, 104, 101, 45, 114, 115, 97, 45, 97, 101, 115, 49, 50, 56, 45, 103, 99, 109]⟩ : ByteArray)), .val (.int .i64 y_13.Alg), .val (.int .i64 y_13.Bits), .val (.int .i64 y_2.Alg), .val (.int .i64 y_2.Bits), .val (.int .i64 y_7.Alg), .val (.int .i64 y_7.Bits), .val (.int .i64 y_12.Alg), .val (.int .i64 y_12.Bits), .val (.int .i64 3), .val (.int .i64 3)]) I5 Ma Pt (by kernel_rfl) rfl) rfl rfl ?_
 obtain ⟨y_21, hy_21, hg⟩ := Ad hg
 refine E4 (Dy _ _ _ hy_21) ?_
 refine Ao ?_
 refine Cl rfl rfl (.build (r := [.val (.int .i64 0), .val (.string (⟨#[101, 99, 100, 104, 101, 45, 101, 99, 100, 115, 97, 45, 97, 101, 115, 50, 53, 54, 45, 103, 99, 109]⟩ : ByteArray)), .val (.int .i64 y_21.Alg), .val (.int .i64 y_21.Bits), .val (.int .i64 y_4.Alg), .val (.int .i64 y_4.Bits), .val (.int .i64 y_8.Alg), .val (.int .i64 y_8.Bits), .val (.int .i64 y_12.Alg), .val (.int .i64 y_12.Bits), .val (.int .i64 3), .val (.int .i64 3)]) I5 Ma Pt (by kernel_rfl) rfl) rfl rfl ?_
 refine Ao ?_
 refine Cl rfl rfl (.build (r := [.val (.int .i64 0), .val (.string (⟨#[101, 99, 100, 104, 101, 45, 114, 115, 97, 45, 99, 104, 97, 99, 104, 97]⟩ : ByteArray)), .val (.int .i64 y_13.Alg), .val (.int .i64 y_13.Bits), .val (.int .i64 y_2.Alg), .val (.int .i64 y_2.Bits), .val (.int .i64 y_9.Alg), .val (.int .i64 y_9.Bits), .val (.int .i64 y_12.Alg), .val (.int .i64 y_12.Bits), .val (.int .i64 3), .val (.int .i64 3)]) I5 Ma Pt (by kernel_rfl) rfl) rfl rfl ?_
 refine Ao ?_
 refine Cl rfl rfl (.build (r := [.val (.int .i64 0), .val (.string (⟨#[114, 115, 97, 45, 97, 101, 115, 50, 53, 54, 45, 103, 99, 109]⟩ : ByteArray)), .val (.int .i64 y.Alg), .val (.int .i64 y.Bits), .val (.int .i64 y_2.Alg), .val (.int .i64 y_2.Bits), .val (.int .i64 y_8.Alg), .val (.int .i64 y_8.Bits), .val (.int .i64 y_12.Alg), .val (.int .i64 y_12.Bits), .val (.int .i64 3), .val (.int .i64 3)]) I5 Ma Pt (by kernel_rfl) rfl) rfl rfl ?_
 refine Ao ?_
 refine Cl rfl rfl (.build (r := [.val (.int .i64 0), .val (.string (⟨#[97, 101, 115, 49, 50, 56, 45, 103, 99, 109]⟩ : ByteArray)), .val (.int .i64 y_13.Alg), .val (.int .i64 y_13.Bits), .val (.int .i64 0), .val (.int .i64 0), .val (.int .i64 y_7.Alg), .val (.int .i64 y_7.Bits), .val (.int .i64 y_12.Alg), .val (.int .i64 y_12.Bits), .val (.int .i64 4), .val (.int .i64 4)]) I5 Ma Pt (by kernel_rfl) rfl) rfl rfl ?_
 refine Ao ?_
 refine Cl rfl rfl (.build (r := [.val (.int .i64 0), .val (.string (⟨#[99, 104, 97, 99, 104, 97]⟩ : ByteArray)), .val (.int .i64 y_13.Alg), .val (.int .i64 y_13.Bits), .val (.int .i64 0), .val (.int .i64 0), .val (.int .i64 y_9.Alg), .val (.int .i64 y_9.Bits), .val (.int .i64 y_12.Alg), .val (.int .i64 y_12.Bits), .val (.int .i64 4), .val (.int .i64 4)]) I5 Ma Pt (by kernel_rfl) rfl) rfl rfl ?_
 obtain ⟨y_22, hy_22, hg⟩ := Ad hg
 refine E4 (Dy _ _ _ hy_22) ?_
 refine Ao ?_
 refine Cl rfl rfl (.build (r := [.val (.int .i64 0), .val (.string (⟨#[109, 108, 107, 101, 109, 45, 97, 101, 115, 50, 53, 54, 45, 103, 99, 109]⟩ : ByteArray)), .val (.int .i64 y_22.Alg), .val (.int .i64 y_22.Bits), .val (.int .i64 0), .val (.int .i64 0), .val (.int .i64 y_8.Alg), .val (.int .i64 y_8.Bits), .val (.int .i64 y_12.Alg), .val (.int .i64 y_12.Bits), .val (.int .i64 4), .val (.int .i64 4)]) I5 Ma Pt (by kernel_rfl) rfl) rfl rfl ?_
 refine Cl rfl rfl (Bc oR Pt (by decide) rfl rfl rfl rfl vQ (cs := [.int .i64 0, .str (⟨#[114, 115, 97, 45, 114, 99, 52, 45, 109, 100, 53]⟩ : ByteArray), .int .i64 y.Alg, .int .i64 y.Bits, .int .i64 y_2.Alg, .int .i64 y_2.Bits, .int .i64 y_14.Alg, .int .i64 y_14.Bits, .int .i64 y_10.Alg, .int .i64 y_10.Bits, .int .i64 1, .int .i64 2, .int .i64 0, .str (⟨#[114, 115, 97, 45, 114, 99, 52, 45, 115, 104, 97]⟩ : ByteArray), .int .i64 y.Alg, .int .i64 y.Bits, .int .i64 y_2.Alg, .int .i64 y_2.Bits, .int .i64 y_15.Alg, .int .i64 y_15.Bits, .int .i64 y_11.Alg, .int .i64 y_11.Bits, .int .i64 1, .int .i64 3, .int .i64 0, .str (⟨#[114, 115, 97, 45, 100, 101, 115, 51, 45, 115, 104, 97]⟩ : ByteArray), .int .i64 y.Alg, .int .i64 y.Bits, .int .i64 y_2.Alg, .int .i64 y_2.Bits, .int .i64 y_5.Alg, .int .i64 y_5.Bits, .int .i64 y_11.Alg, .int .i64 y_11.Bits, .int .i64 1, .int .i64 3, .int .i64 0, .str (⟨#[100, 104, 101, 45, 100, 115, 97, 45, 100, 101, 115, 51, 45, 115, 104, 97]⟩ : ByteArray), .int .i64 y_16.Alg, .int .i64 y_16.Bits, .int .i64 y_3.Alg, .int .i64 y_3.Bits, .int .i64 y_5.Alg, .int .i64 y_5.Bits, .int .i64 y_11.Alg, .int .i64 y_11.Bits, .int .i64 1, .int .i64 3, .int .i64 0, .str (⟨#[100, 104, 101, 45, 114, 115, 97, 45, 100, 101, 115, 51, 45, 115, 104, 97]⟩ : ByteArray), .int .i64 y_17.Alg, .int .i64 y_17.Bits, .int .i64 y_2.Alg, .int .i64 y_2.Bits, .int .i64 y_5.Alg, .int .i64 y_5.Bits, .int .i64 y_11.Alg, .int .i64 y_11.Bits, .int .i64 1, .int .i64 3, .int .i64 0, .str (⟨#[114, 115, 97, 45, 97, 101, 115, 49, 50, 56, 45, 115, 104, 97]⟩ : ByteArray), .int .i64 y.Alg, .int .i64 y.Bits, .int .i64 y_2.Alg, .int .i64 y_2.Bits, .int .i64 y_6.Alg, .int .i64 y_6.Bits, .int .i64 y_11.Alg, .int .i64 y_11.Bits, .int .i64 1, .int .i64 3, .int .i64 0, .str (⟨#[100, 104, 101, 45, 114, 115, 97, 45, 97, 101, 115, 49, 50, 56, 45, 115, 104, 97]⟩ : ByteArray), .int .i64 y_18.Alg, .int .i64 y_18.Bits, .int .i64 y_2.Alg, .int .i64 y_2.Bits, .int .i64 y_6.Alg, .int .i64 y_6.Bits, .int .i64 y_11.Alg, .int .i64 y_11.Bits, .int .i64 1, .int .i64 3, .int .i64 0, .str (⟨#[101, 99, 100, 104, 101, 45, 114, 115, 97, 45, 97, 101, 115, 49, 50, 56, 45, 115, 104, 97]⟩ : ByteArray), .int .i64 y_13.Alg, .int .i64 y_13.Bits, .int .i64 y_2.Alg, .int .i64 y_2.Bits, .int .i64 y_6.Alg, .int .i64 y_6.Bits, .int .i64 y_11.Alg, .int .i64 y_11.Bits, .int .i64 1, .int .i64 3, .int .i64 0, .str (⟨#[101, 99, 100, 104, 101, 45, 101, 99, 100, 115, 97, 45, 97, 101, 115, 50, 53, 54, 45, 115, 104, 97, 50, 53, 54]⟩ : ByteArray), .int .i64 y_13.Alg, .int .i64 y_13.Bits, .int .i64 y_4.Alg, .int .i64 y_4.Bits, .int .i64 y_19.Alg, .int .i64 y_19.Bits, .int .i64 y_20.Alg, .int .i64 y_20.Bits, .int .i64 3, .int .i64 3, .int .i64 0, .str (⟨#[101, 99, 100, 104, 101, 45, 114, 115, 97, 45, 97, 101, 115, 49, 50, 56, 45, 103, 99, 109]⟩ : ByteArray), .int .i64 y_13.Alg, .int .i64 y_13.Bits, .int .i64 y_2.Alg, .int .i64 y_2.Bits, .int .i64 y_7.Alg, .int .i64 y_7.Bits, .int .i64 y_12.Alg, .int .i64 y_12.Bits, .int .i64 3, .int .i64 3, .int .i64 0, .str (⟨#[101, 99, 100, 104, 101, 45, 101, 99, 100, 115, 97, 45, 97, 101, 115, 50, 53, 54, 45, 103, 99, 109]⟩ : ByteArray), .int .i64 y_21.Alg, .int .i64 y_21.Bits, .int .i64 y_4.Alg, .int .i64 y_4.Bits, .int .i64 y_8.Alg, .int .i64 y_8.Bits, .int .i64 y_12.Alg, .int .i64 y_12.Bits, .int .i64 3, .int .i64 3, .int .i64 0, .str (⟨#[101, 99, 100, 104, 101, 45, 114, 115, 97, 45, 99, 104, 97, 99, 104, 97]⟩ : ByteArray), .int .i64 y_13.Alg, .int .i64 y_13.Bits, .int .i64 y_2.Alg, .int .i64 y_2.Bits, .int .i64 y_9.Alg, .int .i64 y_9.Bits, .int .i64 y_12.Alg, .int .i64 y_12.Bits, .int .i64 3, .int .i64 3, .int .i64 0, .str (⟨#[114, 115, 97, 45, 97, 101, 115, 50, 53, 54, 45, 103, 99, 109]⟩ : ByteArray), .int .i64 y.Alg, .int .i64 y.Bits, .int .i64 y_2.Alg, .int .i64 y_2.Bits, .int .i64 y_8.Alg, .int .i64 y_8.Bits, .int .i64 y_12.Alg, .int .i64 y_12.Bits, .int .i64 3, .int .i64 3, .int .i64 0, .str (⟨#[97, 101, 115, 49, 50, 56, 45, 103, 99, 109]⟩ : ByteArray), .int .i64 y_13.Alg, .int .i64 y_13.Bits, .int .i64 0, .int .i64 0, .int .i64 y_7.Alg, .int .i64 y_7.Bits, .int .i64 y_12.Alg, .int .i64 y_12.Bits, .int .i64 4, .int .i64 4, .int .i64 0, .str (⟨#[99, 104, 97, 99, 104, 97]⟩ : ByteArray), .int .i64 y_13.Alg, .int .i64 y_13.Bits, .int .i64 0, .int .i64 0, .int .i64 y_9.Alg, .int .i64 y_9.Bits, .int .i64 y_12.Alg, .int .i64 y_12.Bits, .int .i64 4, .int .i64 4, .int .i64 0, .str (⟨#[109, 108, 107, 101, 109, 45, 97, 101, 115, 50, 53, 54, 45, 103, 99, 109]⟩ : ByteArray), .int .i64 y_22.Alg, .int .i64 y_22.Bits, .int .i64 0, .int .i64 0, .int .i64 y_8.Alg, .int .i64 y_8.Bits, .int .i64 y_12.Alg, .int .i64 y_12.Bits, .int .i64 4, .int .i64 4]) (.cons .int (.cons .str (.cons .int (.cons .int (.cons .int (.cons .int (.cons .int (.cons .int (.cons .int (.cons .int (.cons .int (.cons .int (.cons .int (.cons .str (.cons .int (.cons .int (.cons .int (.cons .int (.cons .int (.cons .int (.cons .int (.cons .int (.cons .int (.cons .int (.cons .int (.cons .str (.cons .int (.cons .int (.cons .int (.cons .int (.cons .int (.cons .int (.cons .int (.cons .int (.cons .int (.cons .int (.cons .int (.cons .str (.cons .int (.cons .int (.cons .int (.cons .int (.cons .int (.cons .int (.cons .int (.cons .int (.cons .int (.cons .int (.cons .int (.cons .str (.cons .int (.cons .int (.cons .int (.cons .int (.cons .int (.cons .int (.cons .int (.cons .int (.cons .int (.cons .int (.cons .int (.cons .str (.cons .int (.cons .int (.cons .int (.cons .int (.cons .int (.cons .int (.cons .int (.cons .int (.cons .int (.cons .int (.cons .int (.cons .str (.cons .int (.cons .int (.cons .int (.cons .int (.cons .int (.cons .int (.cons .int (.cons .int (.cons .int (.cons .int (.cons .int (.cons .str (.cons .int (.cons .int (.cons .int (.cons .int (.cons .int (.cons .int (.cons .int (.cons .int (.cons .int (.cons .int (.cons .int (.cons .str (.cons .int (.cons .int (.cons .int (.cons .int (.cons .int (.cons .int (.cons .int (.cons .int (.cons .int (.cons .int (.cons .int (.cons .str (.cons .int (.cons .int (.cons .int (.cons .int (.cons .int (.cons .int (.cons .int (.cons .int (.cons .int (.cons .int (.cons .int (.cons .str (.cons .int (.cons .int (.cons .int (.cons .int (.cons .int (.cons .int (.cons .int (.cons .int (.cons .int (.cons .int (.cons .int (.cons .str (.cons .int (.cons .int (.cons .int (.cons .int (.cons .int (.cons .int (.cons .int (.cons .int (.cons .int (.cons .int (.cons .int (.cons .str (.cons .int (.cons .int (.cons .int (.cons .int (.cons .int (.cons .int (.cons .int (.cons .int (.cons .int (.cons .int (.cons .int (.cons .str (.cons .int (.cons .int (.cons .int (.cons .int (.cons .int (.cons .int (.cons .int (.cons .int (.cons .int (.cons .int (.cons .int (.cons .str (.cons .int (.cons .int (.cons .int (.cons .int (.cons .int (.cons .int (.cons .int (.cons .int (.cons .int (.cons .int (.cons .int (.cons .str (.cons .int (.cons .int (.cons .int (.cons .int (.cons .int (.cons .int (.cons .int (.cons .int (.cons .int (.cons .int .nil)))))))))))))))))))))))))))))))))))))))))))))))))))))))))))))))))))))))))))))))))))))))))))))))))))))))))))))))))))))))))))))))))))))))))))))))))))))))))))))))))))))))))))))))))))))))))))))))) rfl (l := ([(A4.mk 0 (⟨#[114, 115, 97, 45, 114, 99, 52, 45, 109, 100, 53]⟩ : ByteArray) y y_2 y_14 y_10 1 2), (A4.mk 0 (⟨#[114, 115, 97, 45, 114, 99, 52, 45, 115, 104, 97]⟩ : ByteArray) y y_2 y_15 y_11 1 3), (A4.mk 0 (⟨#[114, 115, 97, 45, 100, 101, 115, 51, 45, 115, 104, 97]⟩ : ByteArray) y y_2 y_5 y_11 1 3), (A4.mk 0 (⟨#[100, 104, 101, 45, 100, 115, 97, 45, 100, 101, 115, 51, 45, 115, 104, 97]⟩ : ByteArray) y_16 y_3 y_5 y_11 1 3), (A4.mk 0 (⟨#[100, 104, 101, 45, 114, 115, 97, 45, 100, 101, 115, 51, 45, 115, 104, 97]⟩ : ByteArray) y_17 y_2 y_5 y_11 1 3), (A4.mk 0 (⟨#[114, 115, 97, 45, 97, 101, 115, 49, 50, 56, 45, 115, 104, 97]⟩ : ByteArray) y y_2 y_6 y_11 1 3), (A4.mk 0 (⟨#[100, 104, 101, 45, 114, 115, 97, 45, 97, 101, 115, 49, 50, 56, 45, 115, 104, 97]⟩ : ByteArray) y_18 y_2 y_6 y_11 1 3), (A4.mk 0 (⟨#[101, 99, 100, 104, 101, 45, 114, 115, 97, 45, 97, 101, 115, 49, 50, 56, 45, 115, 104, 97]⟩ : ByteArray) y_13 y_2 y_6 y_11 1 3), (A4.mk 0 (⟨#[101, 99, 100, 104, 101, 45, 101, 99, 100, 115, 97, 45, 97, 101, 115, 50, 53, 54, 45, 115, 104, 97, 50, 53, 54]⟩ : ByteArray) y_13 y_4 y_19 y_20 3 3), (A4.mk 0 (⟨#[101, 99, 100, 104, 101, 45, 114, 115, 97, 45, 97, 101, 115, 49, 50, 56, 45, 103, 99, 109]⟩ : ByteArray) y_13 y_2 y_7 y_12 3 3), (A4.mk 0 (⟨#[101, 99, 100, 104, 101, 45, 101, 99, 100, 115, 97, 45, 97, 101, 115, 50, 53, 54, 45, 103, 99, 109]⟩ : ByteArray) y_21 y_4 y_8 y_12 3 3), (A4.mk 0 (⟨#[101, 99, 100, 104, 101, 45, 114, 115, 97, 45, 99, 104, 97, 99, 104, 97]⟩ : ByteArray) y_13 y_2 y_9 y_12 3 3), (A4.mk 0 (⟨#[114, 115, 97, 45, 97, 101, 115, 50, 53, 54, 45, 103, 99, 109]⟩ : ByteArray) y y_2 y_8 y_12 3 3), (A4.mk 0 (⟨#[97, 101, 115, 49, 50, 56, 45, 103, 99, 109]⟩ : ByteArray) y_13 (Az.mk 0 0) y_7 y_12 4 4), (A4.mk 0 (⟨#[99, 104, 97, 99, 104, 97]⟩ : ByteArray) y_13 (Az.mk 0 0) y_9 y_12 4 4), (A4.mk 0 (⟨#[109, 108, 107, 101, 109, 45, 97, 101, 115, 50, 53, 54, 45, 103, 99, 109]⟩ : ByteArray) y_22 (Az.mk 0 0) y_8 y_12 4 4)] : List A4)) (f := A4.enc) rfl) rfl rfl ?_
 refine Ao ?_
 refine Al fun hU => ?_
 refine Aj ?_
 refine Bu 1000 1024 hU ?_
 refine Ao ?_
 refine Al fun hU => ?_
 refine A3 ?_
 refine Ix (fun ((x114_1, l_1) : Int × List A4) => mk [(15, .row 0), (113, .val (.int .i64 (([(A4.mk 0 (⟨#[114, 115, 97, 45, 114, 99, 52, 45, 109, 100, 53]⟩ : ByteArray) y y_2 y_14 y_10 1 2), (A4.mk 0 (⟨#[114, 115, 97, 45, 114, 99, 52, 45, 115, 104, 97]⟩ : ByteArray) y y_2 y_15 y_11 1 3), (A4.mk 0 (⟨#[114, 115, 97, 45, 100, 101, 115, 51, 45, 115, 104, 97]⟩ : ByteArray) y y_2 y_5 y_11 1 3), (A4.mk 0 (⟨#[100, 104, 101, 45, 100, 115, 97, 45, 100, 101, 115, 51, 45, 115, 104, 97]⟩ : ByteArray) y_16 y_3 y_5 y_11 1 3), (A4.mk 0 (⟨#[100, 104, 101, 45, 114, 115, 97, 45, 100, 101, 115, 51, 45, 115, 104, 97]⟩ : ByteArray) y_17 y_2 y_5 y_11 1 3), (A4.mk 0 (⟨#[114, 115, 97, 45, 97, 101, 115, 49, 50, 56, 45, 115, 104, 97]⟩ : ByteArray) y y_2 y_6 y_11 1 3), (A4.mk 0 (⟨#[100, 104, 101, 45, 114, 115, 97, 45, 97, 101, 115, 49, 50, 56, 45, 115, 104, 97]⟩ : ByteArray) y_18 y_2 y_6 y_11 1 3), (A4.mk 0 (⟨#[101, 99, 100, 104, 101, 45, 114, 115, 97, 45, 97, 101, 115, 49, 50, 56, 45, 115, 104, 97]⟩ : ByteArray) y_13 y_2 y_6 y_11 1 3), (A4.mk 0 (⟨#[101, 99, 100, 104, 101, 45, 101, 99, 100, 115, 97, 45, 97, 101, 115, 50, 53, 54, 45, 115, 104, 97, 50, 53, 54]⟩ : ByteArray) y_13 y_4 y_19 y_20 3 3), (A4.mk 0 (⟨#[101, 99, 100, 104, 101, 45, 114, 115, 97, 45, 97, 101, 115, 49, 50, 56, 45, 103, 99, 109]⟩ : ByteArray) y_13 y_2 y_7 y_12 3 3), (A4.mk 0 (⟨#[101, 99, 100, 104, 101, 45, 101, 99, 100, 115, 97, 45, 97, 101, 115, 50, 53, 54, 45, 103, 99, 109]⟩ : ByteArray) y_21 y_4 y_8 y_12 3 3), (A4.mk 0 (⟨#[101, 99, 100, 104, 101, 45, 114, 115, 97, 45, 99, 104, 97, 99, 104, 97]⟩ : ByteArray) y_13 y_2 y_9 y_12 3 3), (A4.mk 0 (⟨#[114, 115, 97, 45, 97, 101, 115, 50, 53, 54, 45, 103, 99, 109]⟩ : ByteArray) y y_2 y_8 y_12 3 3), (A4.mk 0 (⟨#[97, 101, 115, 49, 50, 56, 45, 103, 99, 109]⟩ : ByteArray) y_13 (Az.mk 0 0) y_7 y_12 4 4), (A4.mk 0 (⟨#[99, 104, 97, 99, 104, 97]⟩ : ByteArray) y_13 (Az.mk 0 0) y_9 y_12 4 4), (A4.mk 0 (⟨#[109, 108, 107, 101, 109, 45, 97, 101, 115, 50, 53, 54, 45, 103, 99, 109]⟩ : ByteArray) y_22 (Az.mk 0 0) y_8 y_12 4 4)] : List A4).length : Int))), (114, .val (.int .i64 x114_1))] [(0, .row 152 12 (Av A4.enc l_1))] 1) hg (A9 [(0, 984)]) ?_
 rintro ⟨x114_1, l_1⟩ m1 o1 hg hn1
 replace hg : E6.l1 y y_2 y_3 y_4 y_5 y_6 y_7 y_8 y_9 y_10 y_11 y_12 y_13 y_14 y_15 y_16 y_17 y_18 y_19 y_20 y_21 y_22 x114_1 l_1 = some o1 := hg
 show Cy _ _ _ _ (mk _ _ _)
 unfold E6.l1 at hg
 refine Bu 1 9 Bg ?_
 refine Ao ?_
 refine Al fun hU => ?_
 refine Aj ?_
 refine D1 rfl hg (fun h8 hg => ?_) fun h8 hg => ?_
 ·refine Ay ?_
  repeat first | refine Dg ?_ | refine Df ?_
  refine Aj ?_
  refine A3 ?_
  refine Bu 9 25 hU ?_
  refine Ao ?_
  refine Al fun hU => ?_
  refine Af (Cd _ _ []) 25 81 hU rfl rfl ?_
  refine Ao ?_
  obtain ⟨e, he, hg⟩ := Ad hg
  refine Ao ?_
  refine Da (rd := [0]) rfl rfl (D9 Nw rfl (Ax A4.enc_len (Aq he) (o := 0) (m := 1) (by decide) rfl) Mn (cs' := [.int .i64 (W (x114_1 + 1))]) (.cons .int .nil) (Dm A4.enc_len (Aq he) (o := 0) (x' := (A4.mk (W (x114_1 + 1)) e.Name e.Exchange e.Sign e.Cipher e.Mac e.Least e.Most)) (Nat.le_of_ble_eq_true rfl) rfl rfl)) rfl rfl ?_
  refine Al fun hU => ?_
  refine Af (Cd _ _ []) 81 97 hU rfl rfl ?_
  refine Ao ?_
  refine Al fun hU => ?_
  obtain rfl := oi_ hg
  exact ⟨((W (x114_1 + 1), De l_1 ((x114_1).toNat) (A4.mk (W (x114_1 + 1)) e.Name e.Exchange e.Sign e.Cipher e.Mac e.Least e.Most)), m1), Nat.lt_succ_self _, hn1, A9 [(0, 0)]⟩
 ·refine B8 ?_
  repeat first | refine Dg ?_ | refine Df ?_
  replace hg := Cr hg hn1
  refine Bu 9 25 hU ?_
  refine Ao ?_
  refine Al fun hU => ?_
  refine Bv ?_
  obtain rfl := oi_ hg
  exact Bt [] ⟨rfl, rfl⟩
theorem V3 (code : Int) (r : A4 × Int) (hg : Ej code = some r) : Fn Tryz.prog 119 0 [.val (.int .i64 code)] [] (fun d' b' => d' = .tup [.agg (A4.dv r.1), .val (.int .i64 r.2)] /\ b' = []) := by
 unfold Ej at hg
 refine Fn.of Tryz.func119 rfl rfl rfl fun w0 I ρ0 => ?_
 show Cy _ ⟨w0, I, ρ0, 0, 0, 20⟩ _ _ _
 refine Bu 0 16 Bg ?_
 refine Ao ?_
 refine Al fun hU => ?_
 refine Bu 16 32 hU ?_
 obtain ⟨y, hy, hg⟩ := Ad hg
 refine E4 (U5 _ hy) ?_
 refine Ao ?_
 refine Al fun hU => ?_
 refine Aj ?_
 refine B7 (ι := Bool) (fun (x13_1 : Bool) => mk [(0, .val (.int .i64 code)), (2, .ptr 0 0), (4, .sl 12 (Av A4.enc y)), (13, .val (.bool x13_1))] [(0, .box [.val (.int .i64 0), .val (.string (⟨#[]⟩ : ByteArray)), .val (.int .i64 0), .val (.int .i64 0), .val (.int .i64 0), .val (.int .i64 0), .val (.int .i64 0), .val (.int .i64 0), .val (.int .i64 0), .val (.int .i64 0), .val (.int .i64 0), .val (.int .i64 0)] 152)] 1) (fun (x13_1 : Bool) => Ej.j1 code y x13_1 = some r) ?_ ?_
 ·refine Af (Cd _ _ []) 32 96 hU rfl rfl ?_
  refine Ao ?_
  rcases E8 hg with ⟨h3, hg⟩ | ⟨h3, hg⟩
  ·refine Ao ?_
   refine Al fun hU => ?_
   exact ⟨true, hg, A9 [(0, 0)]⟩
  ·refine Ao ?_
   refine Al fun hU => ?_
   exact ⟨decide ((y.length : Int) < code), hg, A9 [(0, 0)]⟩
 ·rintro x13_1 hg
  replace hg : Ej.j1 code y x13_1 = some r := hg
  show Cy _ _ _ _ (mk _ _ _)
  unfold Ej.j1 at hg
  refine D1 rfl hg (fun h6 hg => ?_) fun h6 hg => ?_
  ·refine Aj ?_
   refine Af (Cd _ _ []) 1 25 Bg rfl rfl ?_
   refine Cl rfl rfl (.build (r := [.val (.int .i64 0), .val (.string (⟨#[]⟩ : ByteArray)), .val (.int .i64 0), .val (.int .i64 0), .val (.int .i64 0), .val (.int .i64 0), .val (.int .i64 0), .val (.int .i64 0), .val (.int .i64 0), .val (.int .i64 0), .val (.int .i64 0), .val (.int .i64 0)]) I5 Ma Pt (by kernel_rfl) rfl) rfl rfl ?_
   refine Ao ?_
   refine Al fun hU => ?_
   refine Bv ?_
   obtain rfl := oi_ hg
   exact Bt [] ⟨rfl, rfl⟩
  ·refine Ay ?_
   repeat first | refine Dg ?_ | refine Df ?_
   refine Bu 1 57 Bg ?_
   refine Ao ?_
   obtain ⟨e, he, hg⟩ := Ad hg
   refine Ao ?_
   refine Cl rfl rfl (D4 pF (Bh A4.enc_len (Aq he) (o := 0) (m := 12) (cs := [.int .i64 e.Code, .str e.Name, .int .i64 e.Exchange.Alg, .int .i64 e.Exchange.Bits, .int .i64 e.Sign.Alg, .int .i64 e.Sign.Bits, .int .i64 e.Cipher.Alg, .int .i64 e.Cipher.Bits, .int .i64 e.Mac.Alg, .int .i64 e.Mac.Bits, .int .i64 e.Least, .int .i64 e.Most]) rfl (by decide) rfl) (Ax A4.enc_len (Aq he) (o := 0) (m := 12) (by decide) rfl)) rfl rfl ?_
   refine Ao ?_
   refine Al fun hU => ?_
   refine Bv ?_
   obtain rfl := oi_ hg
   exact Bt [] ⟨rfl, rfl⟩
theorem Nj (s : (List Int)) (v : Int) (r : Int) (hg : Cg s v = some r) : Fn Tryz.prog 146 0 [.sl 1 (Av eI s), .val (.int .i64 v)] [] (fun d' b' => d' = .val (.int .i64 r) /\ b' = []) := by
 unfold Cg at hg
 refine Fn.of Tryz.func146 rfl rfl rfl fun w0 I ρ0 => ?_
 show Cy _ ⟨w0, I, ρ0, 0, 0, 19⟩ _ _ _
 refine Bu 0 8 Bg ?_
 refine Ao ?_
 refine Al fun hU => ?_
 refine Aj ?_
 refine Bu 8 32 hU ?_
 refine Ao ?_
 refine Al fun hU => ?_
 refine A3 ?_
 refine Ix (fun (x8_1 : Int) => mk [(0, .sl 1 (Av eI s)), (1, .val (.int .i64 v)), (7, .val (.int .i64 (s.length : Int))), (8, .val (.int .i64 x8_1))] [] 0) hg (A9 []) ?_
 rintro x8_1 m1 o1 hg hn1
 replace hg : Cg.l1 s v x8_1 = some o1 := hg
 show Cy _ _ _ _ (mk _ _ _)
 unfold Cg.l1 at hg
 refine Bu 0 8 Bg ?_
 refine Ao ?_
 refine Al fun hU => ?_
 refine Aj ?_
 refine D1 rfl hg (fun h4 hg => ?_) fun h4 hg => ?_
 ·refine Ay ?_
  repeat first | refine Dg ?_ | refine Df ?_
  refine Aj ?_
  refine A3 ?_
  refine Bu 8 24 hU ?_
  refine Ao ?_
  refine Al fun hU => ?_
  refine Bu 24 72 hU ?_
  refine Ao ?_
  obtain ⟨e, he, hg⟩ := Ad hg
  refine Ao ?_
  refine Cl rfl rfl (Cz Nw (Do Hu (Aq he) (o := 0) (c := .int .i64 e) rfl rfl)) rfl rfl ?_
  refine Ao ?_
  refine Al fun hU => ?_
  refine D1 rfl hg (fun h7 hg => ?_) fun h7 hg => ?_
  ·refine Aj ?_
   refine Af (Cd _ _ []) 72 88 hU rfl rfl ?_
   refine Ao ?_
   refine Al fun hU => ?_
   refine Bv ?_
   replace hg := Cr hg hn1
   obtain rfl := oi_ hg
   exact Bt [] ⟨rfl, rfl⟩
  ·refine Ay ?_
   repeat first | refine Dg ?_ | refine Df ?_
   refine Af (Cd _ _ []) 72 88 hU rfl rfl ?_
   refine Ao ?_
   refine Al fun hU => ?_
   obtain rfl := oi_ hg
   exact ⟨(W (x8_1 + 1), m1), Nat.lt_succ_self _, hn1, A9 []⟩
 ·refine B8 ?_
  repeat first | refine Dg ?_ | refine Df ?_
  replace hg := Cr hg hn1
  refine Bu 8 16 hU ?_
  refine Ao ?_
  refine Al fun hU => ?_
  refine Bv ?_
  obtain rfl := oi_ hg
  exact Bt [] ⟨rfl, rfl⟩
theorem Ln (s : (List Int)) (v : Int) (r : Bool) (hg : Ea s v = some r) : Fn Tryz.prog 120 0 [.sl 1 (Av eI s), .val (.int .i64 v)] [] (fun d' b' => d' = .val (.bool r) /\ b' = []) := by
 unfold Ea at hg
 refine Fn.of Tryz.func120 rfl rfl rfl fun w0 I ρ0 => ?_
 show Cy _ ⟨w0, I, ρ0, 0, 0, 9⟩ _ _ _
 refine Bu 0 8 Bg ?_
 refine Ao ?_
 refine Al fun hU => ?_
 refine Bu 8 48 hU ?_
 refine Ao ?_
 obtain ⟨y, hy, hg⟩ := Ad hg
 refine E4 (Nj _ _ _ hy) ?_
 refine Ao ?_
 refine Al fun hU => ?_
 refine Bv ?_
 obtain rfl := oi_ hg
 exact Bt [] ⟨rfl, rfl⟩
theorem S6 (l : (List Int)) (r : Bool) (hg : C8 l = some r) : Fn Tryz.prog 86 0 [.sl 1 (Av eI l)] [] (fun d' b' => d' = .val (.bool r) /\ b' = []) := by
 unfold C8 at hg
 refine Fn.of Tryz.func86 rfl rfl rfl fun w0 I ρ0 => ?_
 show Cy _ ⟨w0, I, ρ0, 0, 0, 29⟩ _ _ _
 refine Bu 0 8 Bg ?_
 refine Ao ?_
 refine Al fun hU => ?_
 refine Aj ?_
 refine Bu 8 32 hU ?_
 refine Ao ?_
 refine Al fun hU => ?_
 refine A3 ?_
 refine Ix (fun (x9_1 : Int) => mk [(0, .sl 1 (Av eI l)), (7, .sl 1 (Av eI l)), (8, .val (.int .i64 (l.length : Int))), (9, .val (.int .i64 x9_1))] [] 0) hg (A9 []) ?_
 rintro x9_1 m1 o1 hg hn1
 replace hg : C8.l1 l x9_1 = some o1 := hg
 show Cy _ _ _ _ (mk _ _ _)
 unfold C8.l1 at hg
 refine Bu 0 8 Bg ?_
 refine Ao ?_
 refine Al fun hU => ?_
 refine Aj ?_
 refine D1 rfl hg (fun h4 hg => ?_) fun h4 hg => ?_
 ·refine Ay ?_
  repeat first | refine Dg ?_ | refine Df ?_
  refine Aj ?_
  refine A3 ?_
  refine Bu 8 48 hU ?_
  refine Ao ?_
  obtain ⟨e, he, hg⟩ := Ad hg
  refine Ao ?_
  refine Cl rfl rfl (Cz Nw (Do Hu (Aq he) (o := 0) (c := .int .i64 e) rfl rfl)) rfl rfl ?_
  refine Ao ?_
  refine Al fun hU => ?_
  refine Bu 48 112 hU ?_
  refine Ao ?_
  obtain ⟨y, hy, hg⟩ := Ad hg
  refine E4 (V3 _ _ hy) ?_
  refine Ao ?_
  refine Al fun hU => ?_
  refine B7 (ι := Bool) (fun (x27_2 : Bool) => mk [(0, .sl 1 (Av eI l)), (7, .sl 1 (Av eI l)), (8, .val (.int .i64 (l.length : Int))), (9, .val (.int .i64 x9_1)), (27, .val (.bool x27_2))] [] 0) (fun (x27_2 : Bool) => C8.j2 x9_1 x27_2 = some o1) ?_ ?_
  ·refine Af (Cd _ _ []) 112 184 hU rfl rfl ?_
   refine Ao ?_
   rcases E8 hg with ⟨h7, hg⟩ | ⟨h7, hg⟩
   ·refine Ao ?_
    refine Al fun hU => ?_
    exact ⟨true, hg, A9 []⟩
   ·refine Ao ?_
    obtain ⟨l_2, hl_2, hg⟩ := Ad hg
    refine Cl (Cj rfl rfl h7) rfl (gU G1 Hu hl_2) rfl rfl ?_
    refine Ao ?_
    obtain ⟨y_2, hy_2, hg⟩ := Ad hg
    refine E4 (Ln _ _ _ hy_2) ?_
    refine Ao ?_
    refine Al fun hU => ?_
    exact ⟨y_2, hg, A9 []⟩
  ·rintro x27_2 hg
   replace hg : C8.j2 x9_1 x27_2 = some o1 := hg
   show Cy _ _ _ _ (mk _ _ _)
   unfold C8.j2 at hg
   refine D1 rfl hg (fun h10 hg => ?_) fun h10 hg => ?_
   ·refine Aj ?_
    refine Af (Cd _ _ []) 0 8 Bg rfl rfl ?_
    refine Ao ?_
    refine Al fun hU => ?_
    refine Bv ?_
    replace hg := Cr hg hn1
    obtain rfl := oi_ hg
    exact Bt [] ⟨rfl, rfl⟩
   ·refine Ay ?_
    repeat first | refine Dg ?_ | refine Df ?_
    refine Af (Cd _ _ []) 0 16 Bg rfl rfl ?_
    refine Ao ?_
    refine Al fun hU => ?_
    obtain rfl := oi_ hg
    exact ⟨(W (x9_1 + 1), m1), Nat.lt_succ_self _, hn1, A9 []⟩
 ·refine B8 ?_
  repeat first | refine Dg ?_ | refine Df ?_
  replace hg := Cr hg hn1
  refine Bu 8 16 hU ?_
  refine Ao ?_
  refine Al fun hU => ?_
  refine Bv ?_
  obtain rfl := oi_ hg
  exact Bt [] ⟨rfl, rfl⟩
theorem Nm (l : (List Int)) (r : Bool) (hg : Cw l = some r) : Fn Tryz.prog 87 0 [.sl 1 (Av eI l)] [] (fun d' b' => d' = .val (.bool r) /\ b' = []) := by
 unfold Cw at hg
 refine Fn.of Tryz.func87 rfl rfl rfl fun w0 I ρ0 => ?_
 show Cy _ ⟨w0, I, ρ0, 0, 0, 24⟩ _ _ _
 refine Bu 0 8 Bg ?_
 refine Ao ?_
 refine Al fun hU => ?_
 refine Aj ?_
 refine Bu 8 32 hU ?_
 refine Ao ?_
 refine Al fun hU => ?_
 refine A3 ?_
 refine Ix (fun (x6_1 : Int) => mk [(0, .sl 1 (Av eI l)), (5, .val (.int .i64 (l.length : Int))), (6, .val (.int .i64 x6_1))] [] 0) hg (A9 []) ?_
 rintro x6_1 m1 o1 hg hn1
 replace hg : Cw.l1 l x6_1 = some o1 := hg
 show Cy _ _ _ _ (mk _ _ _)
 unfold Cw.l1 at hg
 refine Bu 0 8 Bg ?_
 refine Ao ?_
 refine Al fun hU => ?_
 refine Aj ?_
 refine D1 rfl hg (fun h4 hg => ?_) fun h4 hg => ?_
 ·refine Ay ?_
  repeat first | refine Dg ?_ | refine Df ?_
  refine Aj ?_
  refine A3 ?_
  refine Bu 8 24 hU ?_
  refine Ao ?_
  refine Al fun hU => ?_
  refine B7 (ι := Bool) (fun (x22_2 : Bool) => mk [(0, .sl 1 (Av eI l)), (5, .val (.int .i64 (l.length : Int))), (6, .val (.int .i64 x6_1)), (22, .val (.bool x22_2))] [] 0) (fun (x22_2 : Bool) => Cw.j2 x6_1 x22_2 = some o1) ?_ ?_
  ·refine Ck (Cd _ _ []) (by kernel_rfl) [0, 1, 3, 7, 7, 23, 63, 127, 7, 7, 775, 1799, 4095, 8191] 24 136 hU rfl rfl (by kernel_rfl) ?_
   refine Ao ?_
   rcases E8 hg with ⟨h6, hg⟩ | ⟨h6, hg⟩
   ·refine Ao ?_
    obtain ⟨e, he, hg⟩ := Ad hg
    refine Ao ?_
    refine Cl (Cj rfl rfl h6) rfl (Cz Nw (Do Hu (Aq he) (o := 0) (c := .int .i64 e) rfl rfl)) rfl rfl ?_
    refine Ao ?_
    obtain ⟨e_2, he_2, hg⟩ := Ad hg
    refine Ao ?_
    refine Cl (Cj rfl rfl h6) rfl (Cz Nw (Do Hu (Aq he_2) (o := 0) (c := .int .i64 e_2) rfl rfl)) rfl rfl ?_
    refine Ao ?_
    refine Al fun hU => ?_
    exact ⟨decide (e_2 <= e), hg, A9 []⟩
   ·refine Ao ?_
    refine Al fun hU => ?_
    exact ⟨false, hg, A9 []⟩
  ·rintro x22_2 hg
   replace hg : Cw.j2 x6_1 x22_2 = some o1 := hg
   show Cy _ _ _ _ (mk _ _ _)
   unfold Cw.j2 at hg
   refine D1 rfl hg (fun h9 hg => ?_) fun h9 hg => ?_
   ·refine Aj ?_
    refine Af (Cd _ _ []) 0 8 Bg rfl rfl ?_
    refine Ao ?_
    refine Al fun hU => ?_
    refine Bv ?_
    replace hg := Cr hg hn1
    obtain rfl := oi_ hg
    exact Bt [] ⟨rfl, rfl⟩
   ·refine Ay ?_
    repeat first | refine Dg ?_ | refine Df ?_
    refine Af (Cd _ _ []) 0 16 Bg rfl rfl ?_
    refine Ao ?_
    refine Al fun hU => ?_
    obtain rfl := oi_ hg
    exact ⟨(W (x6_1 + 1), m1), Nat.lt_succ_self _, hn1, A9 []⟩
 ·refine B8 ?_
  repeat first | refine Dg ?_ | refine Df ?_
  replace hg := Cr hg hn1
  refine Bu 8 16 hU ?_
  refine Ao ?_
  refine Al fun hU => ?_
  refine Bv ?_
  obtain rfl := oi_ hg
  exact Bt [] ⟨rfl, rfl⟩
theorem Xt  (r : (List Bo)) (hg : Jg = some r) : Fn Tryz.prog 159 0 [] [] (fun d' b' => d' = .agg [.val (.string ((r[0]!).name)), .val (.int .i64 ((r[0]!).kind)), .val (.int .i64 ((r[0]!).way)), .sl 1 (Av eI ((r[0]!).sizes)), .sl 1 (Av eI ((r[0]!).strengths)), .val (.string ((r[1]!).name)), .val (.int .i64 ((r[1]!).kind)), .val (.int .i64 ((r[1]!).way)), .sl 1 (Av eI ((r[1]!).sizes)), .sl 1 (Av eI ((r[1]!).strengths)), .val (.string ((r[2]!).name)), .val (.int .i64 ((r[2]!).kind)), .val (.int .i64 ((r[2]!).way)), .sl 1 (Av eI ((r[2]!).sizes)), .sl 1 (Av eI ((r[2]!).strengths)), .val (.string ((r[3]!).name)), .val (.int .i64 ((r[3]!).kind)), .val (.int .i64 ((r[3]!).way)), .sl 1 (Av eI ((r[3]!).sizes)), .sl 1 (Av eI ((r[3]!).strengths)), .val (.string ((r[4]!).name)), .val (.int .i64 ((r[4]!).kind)), .val (.int .i64 ((r[4]!).way)), .sl 1 (Av eI ((r[4]!).sizes)), .sl 1 (Av eI ((r[4]!).strengths)), .val (.string ((r[5]!).name)), .val (.int .i64 ((r[5]!).kind)), .val (.int .i64 ((r[5]!).way)), .sl 1 (Av eI ((r[5]!).sizes)), .sl 1 (Av eI ((r[5]!).strengths)), .val (.string ((r[6]!).name)), .val (.int .i64 ((r[6]!).kind)), .val (.int .i64 ((r[6]!).way)), .sl 1 (Av eI ((r[6]!).sizes)), .sl 1 (Av eI ((r[6]!).strengths)), .val (.string ((r[7]!).name)), .val (.int .i64 ((r[7]!).kind)), .val (.int .i64 ((r[7]!).way)), .sl 1 (Av eI ((r[7]!).sizes)), .sl 1 (Av eI ((r[7]!).strengths)), .val (.string ((r[8]!).name)), .val (.int .i64 ((r[8]!).kind)), .val (.int .i64 ((r[8]!).way)), .sl 1 (Av eI ((r[8]!).sizes)), .sl 1 (Av eI ((r[8]!).strengths)), .val (.string ((r[9]!).name)), .val (.int .i64 ((r[9]!).kind)), .val (.int .i64 ((r[9]!).way)), .sl 1 (Av eI ((r[9]!).sizes)), .sl 1 (Av eI ((r[9]!).strengths)), .val (.string ((r[10]!).name)), .val (.int .i64 ((r[10]!).kind)), .val (.int .i64 ((r[10]!).way)), .sl 1 (Av eI ((r[10]!).sizes)), .sl 1 (Av eI ((r[10]!).strengths)), .val (.string ((r[11]!).name)), .val (.int .i64 ((r[11]!).kind)), .val (.int .i64 ((r[11]!).way)), .sl 1 (Av eI ((r[11]!).sizes)), .sl 1 (Av eI ((r[11]!).strengths)), .val (.string ((r[12]!).name)), .val (.int .i64 ((r[12]!).kind)), .val (.int .i64 ((r[12]!).way)), .sl 1 (Av eI ((r[12]!).sizes)), .sl 1 (Av eI ((r[12]!).strengths)), .val (.string ((r[13]!).name)), .val (.int .i64 ((r[13]!).kind)), .val (.int .i64 ((r[13]!).way)), .sl 1 (Av eI ((r[13]!).sizes)), .sl 1 (Av eI ((r[13]!).strengths)), .val (.string ((r[14]!).name)), .val (.int .i64 ((r[14]!).kind)), .val (.int .i64 ((r[14]!).way)), .sl 1 (Av eI ((r[14]!).sizes)), .sl 1 (Av eI ((r[14]!).strengths)), .val (.string ((r[15]!).name)), .val (.int .i64 ((r[15]!).kind)), .val (.int .i64 ((r[15]!).way)), .sl 1 (Av eI ((r[15]!).sizes)), .sl 1 (Av eI ((r[15]!).strengths)), .val (.string ((r[16]!).name)), .val (.int .i64 ((r[16]!).kind)), .val (.int .i64 ((r[16]!).way)), .sl 1 (Av eI ((r[16]!).sizes)), .sl 1 (Av eI ((r[16]!).strengths)), .val (.string ((r[17]!).name)), .val (.int .i64 ((r[17]!).kind)), .val (.int .i64 ((r[17]!).way)), .sl 1 (Av eI ((r[17]!).sizes)), .sl 1 (Av eI ((r[17]!).strengths)), .val (.string ((r[18]!).name)), .val (.int .i64 ((r[18]!).kind)), .val (.int .i64 ((r[18]!).way)), .sl 1 (Av eI ((r[18]!).sizes)), .sl 1 (Av eI ((r[18]!).strengths)), .val (.string ((r[19]!).name)), .val (.int .i64 ((r[19]!).kind)), .val (.int .i64 ((r[19]!).way)), .sl 1 (Av eI ((r[19]!).sizes)), .sl 1 (Av eI ((r[19]!).strengths)), .val (.string ((r[20]!).name)), .val (.int .i64 ((r[20]!).kind)), .val (.int .i64 ((r[20]!).way)), .sl 1 (Av eI ((r[20]!).sizes)), .sl 1 (Av eI ((r[20]!).strengths)), .val (.string ((r[21]!).name)), .val (.int .i64 ((r[21]!).kind)), .val (.int .i64 ((r[21]!).way)), .sl 1 (Av eI ((r[21]!).sizes)), .sl 1 (Av eI ((r[21]!).strengths)), .val (.string ((r[22]!).name)), .val (.int .i64 ((r[22]!).kind)), .val (.int .i64 ((r[22]!).way)), .sl 1 (Av eI ((r[22]!).sizes)), .sl 1 (Av eI ((r[22]!).strengths))] /\ b' = []) := by
 unfold Jg at hg
 refine Fn.of Tryz.func159 rfl rfl rfl fun w0 I ρ0 => ?_
 show Cy _ ⟨w0, I, ρ0, 0, 0, 46⟩ _ _ _
 refine Bu 0 8 Bg ?_
 refine Ao ?_
 refine Al fun hU => ?_
 refine Bu 8 376 hU ?_
 refine Cl rfl rfl (Bc G1 z3 (by decide) rfl rfl rfl rfl Mn (cs := [.int .i64 18]) (.cons .int .nil) rfl (l := ([18] : List Int)) (f := eI) rfl) rfl rfl ?_
 refine Cl rfl rfl (.build (r := [.val (.string (⟨#[109, 100, 53]⟩ : ByteArray)), .val (.int .i64 1), .val (.int .i64 0), .val (.slice none 0 0), .row 8]) Gt Jp Mo (by kernel_rfl) rfl) rfl rfl ?_
 refine Cl rfl rfl (Bc G1 z3 (by decide) rfl rfl rfl rfl Mn (cs := [.int .i64 60]) (.cons .int .nil) rfl (l := ([60] : List Int)) (f := eI) rfl) rfl rfl ?_
 refine Cl rfl rfl (.build (r := [.val (.string (⟨#[115, 104, 97, 49]⟩ : ByteArray)), .val (.int .i64 1), .val (.int .i64 0), .val (.slice none 0 0), .row 24]) Gt Jp Mo (by kernel_rfl) rfl) rfl rfl ?_
 refine Cl rfl rfl (Bc G1 z3 (by decide) rfl rfl rfl rfl Mn (cs := [.int .i64 128]) (.cons .int .nil) rfl (l := ([128] : List Int)) (f := eI) rfl) rfl rfl ?_
 refine Cl rfl rfl (.build (r := [.val (.string (⟨#[115, 104, 97, 50, 53, 54]⟩ : ByteArray)), .val (.int .i64 1), .val (.int .i64 0), .val (.slice none 0 0), .row 40]) Gt Jp Mo (by kernel_rfl) rfl) rfl rfl ?_
 refine Cl rfl rfl (Bc G1 z3 (by decide) rfl rfl rfl rfl Mn (cs := [.int .i64 192]) (.cons .int .nil) rfl (l := ([192] : List Int)) (f := eI) rfl) rfl rfl ?_
 refine Cl rfl rfl (.build (r := [.val (.string (⟨#[115, 104, 97, 51, 56, 52]⟩ : ByteArray)), .val (.int .i64 1), .val (.int .i64 0), .val (.slice none 0 0), .row 56]) Gt Jp Mo (by kernel_rfl) rfl) rfl rfl ?_
 refine Cl rfl rfl (.build (r := [.val (.string (⟨#[114, 115, 97]⟩ : ByteArray)), .val (.int .i64 2), .val (.int .i64 1), .val (.slice none 0 0), .val (.slice none 0 0)]) Gt Jp Mo (by kernel_rfl) rfl) rfl rfl ?_
 refine Cl rfl rfl (.build (r := [.val (.string (⟨#[100, 115, 97]⟩ : ByteArray)), .val (.int .i64 2), .val (.int .i64 1), .val (.slice none 0 0), .val (.slice none 0 0)]) Gt Jp Mo (by kernel_rfl) rfl) rfl rfl ?_
 refine Cl rfl rfl (.build (r := [.val (.string (⟨#[101, 99, 100, 115, 97]⟩ : ByteArray)), .val (.int .i64 2), .val (.int .i64 2), .val (.slice none 0 0), .val (.slice none 0 0)]) Gt Jp Mo (by kernel_rfl) rfl) rfl rfl ?_
 refine Cl rfl rfl (Bc G1 z3 (by decide) rfl rfl rfl rfl Mn (cs := [.int .i64 128]) (.cons .int .nil) rfl (l := ([128] : List Int)) (f := eI) rfl) rfl rfl ?_
 refine Cl rfl rfl (.build (r := [.val (.string (⟨#[101, 100, 50, 53, 53, 49, 57]⟩ : ByteArray)), .val (.int .i64 2), .val (.int .i64 0), .val (.slice none 0 0), .row 96]) Gt Jp Mo (by kernel_rfl) rfl) rfl rfl ?_
 refine Cl rfl rfl (Bc G1 z3 (by decide) rfl rfl rfl rfl Mn (cs := [.int .i64 44, .int .i64 65, .int .i64 87]) (.cons .int (.cons .int (.cons .int .nil))) rfl (l := ([44, 65, 87] : List Int)) (f := eI) rfl) rfl rfl ?_
 refine Cl rfl rfl (Bc G1 z3 (by decide) rfl rfl rfl rfl Mn (cs := [.int .i64 128, .int .i64 192, .int .i64 256]) (.cons .int (.cons .int (.cons .int .nil))) rfl (l := ([128, 192, 256] : List Int)) (f := eI) rfl) rfl rfl ?_
 refine Cl rfl rfl (.build (r := [.val (.string (⟨#[109, 108, 100, 115, 97]⟩ : ByteArray)), .val (.int .i64 2), .val (.int .i64 3), .row 112, .row 120]) Gt Jp Mo (by kernel_rfl) rfl) rfl rfl ?_
 refine Cl rfl rfl (.build (r := [.val (.string (⟨#[114, 115, 97, 107, 120]⟩ : ByteArray)), .val (.int .i64 3), .val (.int .i64 1), .val (.slice none 0 0), .val (.slice none 0 0)]) Gt Jp Mo (by kernel_rfl) rfl) rfl rfl ?_
 refine Cl rfl rfl (.build (r := [.val (.string (⟨#[100, 104, 101]⟩ : ByteArray)), .val (.int .i64 3), .val (.int .i64 1), .val (.slice none 0 0), .val (.slice none 0 0)]) Gt Jp Mo (by kernel_rfl) rfl) rfl rfl ?_
 refine Cl rfl rfl (.build (r := [.val (.string (⟨#[101, 99, 100, 104, 101]⟩ : ByteArray)), .val (.int .i64 3), .val (.int .i64 2), .val (.slice none 0 0), .val (.slice none 0 0)]) Gt Jp Mo (by kernel_rfl) rfl) rfl rfl ?_
 refine Cl rfl rfl (Bc G1 z3 (by decide) rfl rfl rfl rfl Mn (cs := [.int .i64 512, .int .i64 768, .int .i64 1024]) (.cons .int (.cons .int (.cons .int .nil))) rfl (l := ([512, 768, 1024] : List Int)) (f := eI) rfl) rfl rfl ?_
 refine Cl rfl rfl (Bc G1 z3 (by decide) rfl rfl rfl rfl Mn (cs := [.int .i64 128, .int .i64 192, .int .i64 256]) (.cons .int (.cons .int (.cons .int .nil))) rfl (l := ([128, 192, 256] : List Int)) (f := eI) rfl) rfl rfl ?_
 refine Cl rfl rfl (.build (r := [.val (.string (⟨#[109, 108, 107, 101, 109]⟩ : ByteArray)), .val (.int .i64 3), .val (.int .i64 3), .row 160, .row 168]) Gt Jp Mo (by kernel_rfl) rfl) rfl rfl ?_
 refine Cl rfl rfl (Bc G1 z3 (by decide) rfl rfl rfl rfl Mn (cs := [.int .i64 40, .int .i64 128]) (.cons .int (.cons .int .nil)) rfl (l := ([40, 128] : List Int)) (f := eI) rfl) rfl rfl ?_
 refine Cl rfl rfl (Bc G1 z3 (by decide) rfl rfl rfl rfl Mn (cs := [.int .i64 40, .int .i64 60]) (.cons .int (.cons .int .nil)) rfl (l := ([40, 60] : List Int)) (f := eI) rfl) rfl rfl ?_
 refine Cl rfl rfl (.build (r := [.val (.string (⟨#[114, 99, 52]⟩ : ByteArray)), .val (.int .i64 4), .val (.int .i64 3), .row 184, .row 192]) Gt Jp Mo (by kernel_rfl) rfl) rfl rfl ?_
 refine Cl rfl rfl (Bc G1 z3 (by decide) rfl rfl rfl rfl Mn (cs := [.int .i64 112, .int .i64 168]) (.cons .int (.cons .int .nil)) rfl (l := ([112, 168] : List Int)) (f := eI) rfl) rfl rfl ?_
 refine Cl rfl rfl (Bc G1 z3 (by decide) rfl rfl rfl rfl Mn (cs := [.int .i64 80, .int .i64 112]) (.cons .int (.cons .int .nil)) rfl (l := ([80, 112] : List Int)) (f := eI) rfl) rfl rfl ?_
 refine Cl rfl rfl (.build (r := [.val (.string (⟨#[100, 101, 115, 51]⟩ : ByteArray)), .val (.int .i64 4), .val (.int .i64 3), .row 208, .row 216]) Gt Jp Mo (by kernel_rfl) rfl) rfl rfl ?_
 refine Cl rfl rfl (Bc G1 z3 (by decide) rfl rfl rfl rfl Mn (cs := [.int .i64 128, .int .i64 256]) (.cons .int (.cons .int .nil)) rfl (l := ([128, 256] : List Int)) (f := eI) rfl) rfl rfl ?_
 refine Cl rfl rfl (Bc G1 z3 (by decide) rfl rfl rfl rfl Mn (cs := [.int .i64 128, .int .i64 256]) (.cons .int (.cons .int .nil)) rfl (l := ([128, 256] : List Int)) (f := eI) rfl) rfl rfl ?_
 refine Cl rfl rfl (.build (r := [.val (.string (⟨#[97, 101, 115, 99, 98, 99]⟩ : ByteArray)), .val (.int .i64 4), .val (.int .i64 3), .row 232, .row 240]) Gt Jp Mo (by kernel_rfl) rfl) rfl rfl ?_
 refine Cl rfl rfl (Bc G1 z3 (by decide) rfl rfl rfl rfl Mn (cs := [.int .i64 128, .int .i64 256]) (.cons .int (.cons .int .nil)) rfl (l := ([128, 256] : List Int)) (f := eI) rfl) rfl rfl ?_
 refine Cl rfl rfl (Bc G1 z3 (by decide) rfl rfl rfl rfl Mn (cs := [.int .i64 128, .int .i64 256]) (.cons .int (.cons .int .nil)) rfl (l := ([128, 256] : List Int)) (f := eI) rfl) rfl rfl ?_
 refine Cl rfl rfl (.build (r := [.val (.string (⟨#[97, 101, 115, 103, 99, 109]⟩ : ByteArray)), .val (.int .i64 4), .val (.int .i64 3), .row 256, .row 264]) Gt Jp Mo (by kernel_rfl) rfl) rfl rfl ?_
 refine Cl rfl rfl (Bc G1 z3 (by decide) rfl rfl rfl rfl Mn (cs := [.int .i64 256]) (.cons .int .nil) rfl (l := ([256] : List Int)) (f := eI) rfl) rfl rfl ?_
 refine Cl rfl rfl (.build (r := [.val (.string (⟨#[99, 104, 97, 99, 104, 97]⟩ : ByteArray)), .val (.int .i64 4), .val (.int .i64 0), .val (.slice none 0 0), .row 280]) Gt Jp Mo (by kernel_rfl) rfl) rfl rfl ?_
 refine Cl rfl rfl (Bc G1 z3 (by decide) rfl rfl rfl rfl Mn (cs := [.int .i64 64]) (.cons .int .nil) rfl (l := ([64] : List Int)) (f := eI) rfl) rfl rfl ?_
 refine Cl rfl rfl (.build (r := [.val (.string (⟨#[104, 109, 97, 99, 109, 100, 53]⟩ : ByteArray)), .val (.int .i64 5), .val (.int .i64 0), .val (.slice none 0 0), .row 296]) Gt Jp Mo (by kernel_rfl) rfl) rfl rfl ?_
 refine Cl rfl rfl (Bc G1 z3 (by decide) rfl rfl rfl rfl Mn (cs := [.int .i64 80]) (.cons .int .nil) rfl (l := ([80] : List Int)) (f := eI) rfl) rfl rfl ?_
 refine Cl rfl rfl (.build (r := [.val (.string (⟨#[104, 109, 97, 99, 115, 104, 97, 49]⟩ : ByteArray)), .val (.int .i64 5), .val (.int .i64 0), .val (.slice none 0 0), .row 312]) Gt Jp Mo (by kernel_rfl) rfl) rfl rfl ?_
 refine Cl rfl rfl (Bc G1 z3 (by decide) rfl rfl rfl rfl Mn (cs := [.int .i64 128]) (.cons .int .nil) rfl (l := ([128] : List Int)) (f := eI) rfl) rfl rfl ?_
 refine Cl rfl rfl (.build (r := [.val (.string (⟨#[104, 109, 97, 99, 115, 104, 97, 50, 53, 54]⟩ : ByteArray)), .val (.int .i64 5), .val (.int .i64 0), .val (.slice none 0 0), .row 328]) Gt Jp Mo (by kernel_rfl) rfl) rfl rfl ?_
 refine Cl rfl rfl (Bc G1 z3 (by decide) rfl rfl rfl rfl Mn (cs := [.int .i64 256]) (.cons .int .nil) rfl (l := ([256] : List Int)) (f := eI) rfl) rfl rfl ?_
 refine Cl rfl rfl (.build (r := [.val (.string (⟨#[97, 101, 97, 100]⟩ : ByteArray)), .val (.int .i64 5), .val (.int .i64 0), .val (.slice none 0 0), .row 344]) Gt Jp Mo (by kernel_rfl) rfl) rfl rfl ?_
 refine Cl rfl rfl (.buildArr (sz := 5) (r := [.val (.string (⟨#[]⟩ : ByteArray)), .val (.int .i64 0), .val (.int .i64 0), .val (.slice none 0 0), .val (.slice none 0 0), .val (.string (⟨#[109, 100, 53]⟩ : ByteArray)), .val (.int .i64 1), .val (.int .i64 0), .val (.slice none 0 0), .row 8, .val (.string (⟨#[115, 104, 97, 49]⟩ : ByteArray)), .val (.int .i64 1), .val (.int .i64 0), .val (.slice none 0 0), .row 24, .val (.string (⟨#[115, 104, 97, 50, 53, 54]⟩ : ByteArray)), .val (.int .i64 1), .val (.int .i64 0), .val (.slice none 0 0), .row 40, .val (.string (⟨#[115, 104, 97, 51, 56, 52]⟩ : ByteArray)), .val (.int .i64 1), .val (.int .i64 0), .val (.slice none 0 0), .row 56, .val (.string (⟨#[114, 115, 97]⟩ : ByteArray)), .val (.int .i64 2), .val (.int .i64 1), .val (.slice none 0 0), .val (.slice none 0 0), .val (.string (⟨#[100, 115, 97]⟩ : ByteArray)), .val (.int .i64 2), .val (.int .i64 1), .val (.slice none 0 0), .val (.slice none 0 0), .val (.string (⟨#[101, 99, 100, 115, 97]⟩ : ByteArray)), .val (.int .i64 2), .val (.int .i64 2), .val (.slice none 0 0), .val (.slice none 0 0), .val (.string (⟨#[101, 100, 50, 53, 53, 49, 57]⟩ : ByteArray)), .val (.int .i64 2), .val (.int .i64 0), .val (.slice none 0 0), .row 96, .val (.string (⟨#[109, 108, 100, 115, 97]⟩ : ByteArray)), .val (.int .i64 2), .val (.int .i64 3), .row 112, .row 120, .val (.string (⟨#[114, 115, 97, 107, 120]⟩ : ByteArray)), .val (.int .i64 3), .val (.int .i64 1), .val (.slice none 0 0), .val (.slice none 0 0), .val (.string (⟨#[100, 104, 101]⟩ : ByteArray)), .val (.int .i64 3), .val (.int .i64 1), .val (.slice none 0 0), .val (.slice none 0 0), .val (.string (⟨#[101, 99, 100, 104, 101]⟩ : ByteArray)), .val (.int .i64 3), .val (.int .i64 2), .val (.slice none 0 0), .val (.slice none 0 0), .val (.string (⟨#[109, 108, 107, 101, 109]⟩ : ByteArray)), .val (.int .i64 3), .val (.int .i64 3), .row 160, .row 168, .val (.string (⟨#[114, 99, 52]⟩ : ByteArray)), .val (.int .i64 4), .val (.int .i64 3), .row 184, .row 192, .val (.string (⟨#[100, 101, 115, 51]⟩ : ByteArray)), .val (.int .i64 4), .val (.int .i64 3), .row 208, .row 216, .val (.string (⟨#[97, 101, 115, 99, 98, 99]⟩ : ByteArray)), .val (.int .i64 4), .val (.int .i64 3), .row 232, .row 240, .val (.string (⟨#[97, 101, 115, 103, 99, 109]⟩ : ByteArray)), .val (.int .i64 4), .val (.int .i64 3), .row 256, .row 264, .val (.string (⟨#[99, 104, 97, 99, 104, 97]⟩ : ByteArray)), .val (.int .i64 4), .val (.int .i64 0), .val (.slice none 0 0), .row 280, .val (.string (⟨#[104, 109, 97, 99, 109, 100, 53]⟩ : ByteArray)), .val (.int .i64 5), .val (.int .i64 0), .val (.slice none 0 0), .row 296, .val (.string (⟨#[104, 109, 97, 99, 115, 104, 97, 49]⟩ : ByteArray)), .val (.int .i64 5), .val (.int .i64 0), .val (.slice none 0 0), .row 312, .val (.string (⟨#[104, 109, 97, 99, 115, 104, 97, 50, 53, 54]⟩ : ByteArray)), .val (.int .i64 5), .val (.int .i64 0), .val (.slice none 0 0), .row 328, .val (.string (⟨#[97, 101, 97, 100]⟩ : ByteArray)), .val (.int .i64 5), .val (.int .i64 0), .val (.slice none 0 0), .row 344]) lF (by kernel_rfl) wY (by kernel_rfl) rfl) rfl rfl ?_
 refine Ao ?_
 refine Al fun hU => ?_
 refine Bv ?_
 obtain rfl := oi_ hg
 exact Bt [] ⟨rfl, rfl⟩
theorem Ti (alg : Int) (r : Bo × Bool) (hg : En alg = some r) : Fn Tryz.prog 147 0 [.val (.int .i64 alg)] [] (fun d' b' => d' = .tup [.agg (Bo.dv r.1), .val (.bool r.2)] /\ b' = []) := by
 unfold En at hg
 refine Fn.of Tryz.func147 rfl rfl rfl fun w0 I ρ0 => ?_
 show Cy _ ⟨w0, I, ρ0, 0, 0, 14⟩ _ _ _
 refine Bu 0 16 Bg ?_
 refine Ao ?_
 refine Al fun hU => ?_
 refine Aj ?_
 refine B7 (ι := Bool) (fun (x9_1 : Bool) => mk [(0, .val (.int .i64 alg)), (2, .ptr 0 0), (9, .val (.bool x9_1))] [(0, .box [.val (.string (⟨#[]⟩ : ByteArray)), .val (.int .i64 0), .val (.int .i64 0), .val (.slice none 0 0), .val (.slice none 0 0)] 189)] 1) (fun (x9_1 : Bool) => En.j1 alg x9_1 = some r) ?_ ?_
 ·refine Af (Cd _ _ []) 16 64 hU rfl rfl ?_
  refine Ao ?_
  rcases E8 hg with ⟨h2, hg⟩ | ⟨h2, hg⟩
  ·refine Ao ?_
   refine Al fun hU => ?_
   exact ⟨true, hg, A9 [(0, 0)]⟩
  ·refine Ao ?_
   refine Al fun hU => ?_
   exact ⟨decide (22 < alg), hg, A9 [(0, 0)]⟩
 ·rintro x9_1 hg
  replace hg : En.j1 alg x9_1 = some r := hg
  show Cy _ _ _ _ (mk _ _ _)
  unfold En.j1 at hg
  refine D1 rfl hg (fun h5 hg => ?_) fun h5 hg => ?_
  ·refine Aj ?_
   refine Af (Cd _ _ []) 1 25 Bg rfl rfl ?_
   refine Cl rfl rfl (.build (r := [.val (.string (⟨#[]⟩ : ByteArray)), .val (.int .i64 0), .val (.int .i64 0), .val (.slice none 0 0), .val (.slice none 0 0)]) Gt Jp Mo (by kernel_rfl) rfl) rfl rfl ?_
   refine Ao ?_
   refine Al fun hU => ?_
   refine Bv ?_
   obtain rfl := oi_ hg
   exact Bt [] ⟨rfl, rfl⟩
  ·refine Ay ?_
   repeat first | refine Dg ?_ | refine Df ?_
   refine Bu 1 41 Bg ?_
   obtain ⟨y, hy, hg⟩ := Ad hg
   refine E4 (Xt _ hy) ?_
   refine Ao ?_
   obtain ⟨e, he, hg⟩ := Ad hg
   refine Cl rfl rfl (Yk (f := Bo.enc) (L := (tI 23 y)) lF oY Bo.enc_len rfl rfl he (d2 := [.val (.string e.name), .val (.int .i64 e.kind), .val (.int .i64 e.way), .sl 1 (Av eI e.sizes), .sl 1 (Av eI e.strengths)]) rfl) rfl rfl ?_
   refine Ao ?_
   refine Al fun hU => ?_
   refine Bv ?_
   obtain rfl := oi_ hg
   exact Bt [] ⟨rfl, rfl⟩
end Go.Proofs.YtkpcbnnlefcebaaGreat
