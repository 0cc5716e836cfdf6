import Derived.Test.YtkpcbnnlefcebaaGreatT1
import Derived.Test.YtkpcbnnlefcebaaGreatA3
import Derived.Test.YtkpcbnnlefcebaaGreatA4
set_option linter.unusedVariables false
set_option linter.unusedSimpArgs false
set_option maxRecDepth 100000
set_option maxHeartbeats 1600000
namespace Go.Proofs.YtkpcbnnlefcebaaGreat
open Go.RowKit
theorem Wx (n : Int) (r : (List UInt8)) (hg : Fp n = some r) : Fn Tryz.prog 142 0 [.val (.int .i64 n)] [] (fun d' b' => d' = .sl 1 (Av e8 r) /\ b' = []) := by
 unfold Fp at hg
 refine Fn.of Tryz.func142 rfl rfl rfl fun w0 I ρ0 => ?_
 show Cy _ ⟨w0, I, ρ0, 0, 0, 26⟩ _ _ _
 refine Bu 0 8 Bg ?_
 refine Ao ?_
 refine Al fun hU => ?_
 refine Aj ?_
 refine Bu 8 24 hU ?_
 refine Ao ?_
 refine Al fun hU => ?_
 refine D1 rfl hg (fun h3 hg => ?_) fun h3 hg => ?_
 ·refine Aj ?_
  refine Af (Cd _ _ []) 24 56 hU rfl rfl ?_
  refine Ao ?_
  refine Cl rfl rfl (Lw V4 V7) rfl rfl ?_
  refine Cl rfl rfl (Bc K6 z5 (by decide) rfl rfl rfl rfl lW (cs := [.int .u8 ((u8 n).toNat : Int)]) (.cons .int .nil) rfl (l := ([(u8 n)] : List UInt8)) (f := e8) rfl) rfl rfl ?_
  refine Ao ?_
  refine Al fun hU => ?_
  refine Bv ?_
  obtain rfl := oi_ hg
  exact Bt [] ⟨rfl, rfl⟩
 ·refine Ay ?_
  repeat first | refine Dg ?_ | refine Df ?_
  refine Bu 24 32 hU ?_
  refine Ao ?_
  refine Al fun hU => ?_
  refine Aj ?_
  refine A3 ?_
  refine Ix (fun ((n_1, b_1) : Int × List UInt8) => mk [(0, .val (.int .i64 n_1)), (3, .row 0)] [(0, .row 5 1 (Av e8 b_1))] 1) hg (A9 []) ?_
  rintro ⟨n_1, b_1⟩ m1 o1 hg hn1
  replace hg : Fp.l1 n_1 b_1 = some o1 := hg
  show Cy _ _ _ _ (mk _ _ _)
  unfold Fp.l1 at hg
  refine Aj ?_
  refine Bu 1 17 Bg ?_
  refine Ao ?_
  refine Al fun hU => ?_
  refine D1 rfl hg (fun h7 hg => ?_) fun h7 hg => ?_
  ·refine Ay ?_
   repeat first | refine Dg ?_ | refine Df ?_
   refine A3 ?_
   refine Bu 17 73 hU ?_
   refine Ao ?_
   obtain ⟨q, hq, hg⟩ := Ad hg
   refine Cl rfl rfl (aW hq) rfl rfl ?_
   refine Cl rfl rfl (Lw V4 V7) rfl rfl ?_
   refine Cl rfl rfl (Bc K6 z5 (by decide) rfl rfl rfl rfl lW (cs := [.int .u8 ((u8 q).toNat : Int)]) (.cons .int .nil) rfl (l := ([(u8 q)] : List UInt8)) (f := e8) rfl) rfl rfl ?_
   refine Ao ?_
   obtain ⟨l, hl, hg⟩ := Ad hg
   refine Da (rd := [41, 0]) rfl rfl (E3 K6 I7 .row rfl .row rfl hl rfl) rfl rfl ?_
   refine Ao ?_
   refine Al fun hU => ?_
   refine Af (Cd _ _ []) 73 97 hU rfl rfl ?_
   refine Ao ?_
   obtain ⟨q_2, hq_2, hg⟩ := Ad hg
   refine Cl rfl rfl (Rc hq_2) rfl rfl ?_
   refine Ao ?_
   refine Al fun hU => ?_
   obtain rfl := oi_ hg
   exact ⟨((q_2, l), m1), Nat.lt_succ_self _, hn1, A9 [(0, 57)]⟩
  ·refine B8 ?_
   repeat first | refine Dg ?_ | refine Df ?_
   replace hg := Cr hg hn1
   refine Bu 17 81 hU ?_
   refine Ao ?_
   refine Cl rfl rfl (Lw V4 V7) rfl rfl ?_
   refine Cl rfl rfl (Bc K6 z5 (by decide) rfl rfl rfl rfl lW (cs := [.int .u8 ((u8 (W (128 + (b_1.length : Int)))).toNat : Int)]) (.cons .int .nil) rfl (l := ([(u8 (W (128 + (b_1.length : Int))))] : List UInt8)) (f := e8) rfl) rfl rfl ?_
   refine Ao ?_
   obtain ⟨l_2, hl_2, hg⟩ := Ad hg
   refine Da (rd := [49, 0]) rfl rfl (E3 K6 I7 .row rfl .row rfl hl_2 rfl) rfl rfl ?_
   refine Ao ?_
   refine Al fun hU => ?_
   refine Bv ?_
   obtain rfl := oi_ hg
   exact Bt [] ⟨rfl, rfl⟩
theorem Q4.F (rec : Ah -> Option ((List UInt8))) (hrec : ∀ (v : Ah) (r : (List UInt8)), rec v = some r -> Fn Tryz.prog 112 0 [.agg (Ah.dv v)] [] (fun d' b' => d' = .sl 1 (Av e8 r) /\ b' = [])) (v : Ah) (r : (List UInt8)) (hg : D7.F rec v = some r) : Fn Tryz.prog 112 0 [.agg (Ah.dv v)] [] (fun d' b' => d' = .sl 1 (Av e8 r) /\ b' = []) := by
 unfold D7.F at hg
 refine Fn.of Tryz.func112 rfl rfl rfl fun w0 I ρ0 => ?_
 show Cy _ ⟨w0, I, ρ0, 0, 0, 34⟩ _ _ _
 refine Bu 0 16 Bg ?_
 refine Ao ?_
 refine Al fun hU => ?_
 refine Bu 16 56 hU ?_
 refine Cl rfl rfl (Bc K6 z5 (by decide) rfl rfl rfl rfl lW (cs := []) .nil rfl (l := ([] : List UInt8)) (f := e8) rfl) rfl rfl ?_
 refine Ao ?_
 obtain ⟨l, hl, hg⟩ := Ad hg
 refine Da (rd := [16]) rfl rfl (E3 K6 I7 .row rfl .sl rfl hl rfl) rfl rfl ?_
 refine Ao ?_
 refine Al fun hU => ?_
 refine Aj ?_
 refine Bu 56 64 hU ?_
 refine Ao ?_
 refine Al fun hU => ?_
 refine A3 ?_
 refine Ix (fun ((i_1, b_1) : Int × List UInt8) => mk [(1, .ptr 0 0), (3, .row 1), (4, .val (.int .i64 i_1))] [(0, .box (Ah.dv v) 138), (1, .row 5 1 (Av e8 b_1))] 2) hg (A9 [(0, 0), (1, 40)]) ?_
 rintro ⟨i_1, b_1⟩ m1 o1 hg hn1
 replace hg : D7.l1 rec v i_1 b_1 = some o1 := hg
 show Cy _ _ _ _ (mk _ _ _)
 unfold D7.l1 at hg
 refine Aj ?_
 refine Bu 2 42 Bg ?_
 refine Ao ?_
 refine Al fun hU => ?_
 refine D1 rfl hg (fun h5 hg => ?_) fun h5 hg => ?_
 ·refine Ay ?_
  repeat first | refine Dg ?_ | refine Df ?_
  refine Aj ?_
  refine A3 ?_
  refine Af (Cd _ _ []) 42 114 hU rfl rfl ?_
  refine Ao ?_
  obtain ⟨e, he, hg⟩ := Ad hg
  refine Ao ?_
  refine Cl rfl rfl (D4 aG (Bh Ah.enc_len (Aq he) (o := 0) (m := 4) (cs := [.int .i64 e.Tag, .sl 1 (Av e8 e.Bytes), .bool e.Nested, .sl 4 (Av Ah.enc e.Elements)]) (by simp only [Ah.enc_eq]; rfl) (by decide) rfl) (Ax Ah.enc_len (Aq he) (o := 0) (m := 4) (by decide) rfl)) rfl rfl ?_
  obtain ⟨y, hy, hg⟩ := Ad hg
  refine E4 (hrec _ _ hy) ?_
  obtain ⟨l_2, hl_2, hg⟩ := Ad hg
  refine Da (rd := [1]) rfl rfl (E3 K6 I7 .row rfl .sl rfl hl_2 rfl) rfl rfl ?_
  refine Ao ?_
  refine Al fun hU => ?_
  refine Af (Cd _ _ []) 114 138 hU rfl rfl ?_
  refine Ao ?_
  refine Al fun hU => ?_
  obtain rfl := oi_ hg
  exact ⟨((W (i_1 + 1), l_2), m1), Nat.lt_succ_self _, hn1, A9 [(0, 0), (1, 98)]⟩
 ·refine B8 ?_
  repeat first | refine Dg ?_ | refine Df ?_
  replace hg := Cr hg hn1
  refine Aj ?_
  refine Ck (Cd _ _ []) (by kernel_rfl) [0, 1, 3, 7, 0, 16, 48, 127, 0, 511, 1023] 42 130 hU rfl rfl (by kernel_rfl) ?_
  refine Ao ?_
  refine Cl rfl rfl (Lw V4 V7) rfl rfl ?_
  refine Cl rfl rfl (Bc K6 z5 (by decide) rfl rfl rfl rfl lW (cs := [.int .u8 ((u8 v.Tag).toNat : Int)]) (.cons .int .nil) rfl (l := ([(u8 v.Tag)] : List UInt8)) (f := e8) rfl) rfl rfl ?_
  refine Ao ?_
  obtain ⟨y_2, hy_2, hg⟩ := Ad hg
  refine E4 (Wx _ _ hy_2) ?_
  obtain ⟨l_3, hl_3, hg⟩ := Ad hg
  refine Da (rd := [66]) rfl rfl (E3 K6 I7 .row rfl .sl rfl hl_3 rfl) rfl rfl ?_
  refine Ao ?_
  obtain ⟨l_4, hl_4, hg⟩ := Ad hg
  refine Da (rd := [98, 1]) rfl rfl (E3 K6 I7 .row rfl .row rfl hl_4 rfl) rfl rfl ?_
  refine Ao ?_
  refine Al fun hU => ?_
  refine Bv ?_
  obtain rfl := oi_ hg
  exact Bt [] ⟨rfl, rfl⟩
theorem Q4 (v : Ah) (r : (List UInt8)) (hg : D7 v = some r) : Fn Tryz.prog 112 0 [.agg (Ah.dv v)] [] (fun d' b' => d' = .sl 1 (Av e8 r) /\ b' = []) :=
 Q0 (motive := fun (x : Ah) (r : (List UInt8)) => Fn Tryz.prog 112 0 [.agg (Ah.dv x)] [] (fun d' b' => d' = .sl 1 (Av e8 r) /\ b' = [])) (fun rec hrec x r h => Q4.F _ (fun v r h => hrec v r h) x r h) v r hg
theorem Xs (v : Ah) (r : (List UInt8) × Int) (hg : Jr v = some r) : Fn Tryz.prog 83 0 [.agg (Ah.dv v)] [] (fun d' b' => d' = .tup [.sl 1 (Av e8 r.1), .val (.int .i64 r.2)] /\ b' = []) := by
 unfold Jr at hg
 refine Fn.of Tryz.func83 rfl rfl rfl fun w0 I ρ0 => ?_
 show Cy _ ⟨w0, I, ρ0, 0, 0, 17⟩ _ _ _
 refine Bu 0 24 Bg ?_
 refine Ao ?_
 refine Al fun hU => ?_
 refine Aj ?_
 refine Bu 24 48 hU ?_
 refine Ao ?_
 obtain ⟨y, hy, hg⟩ := Ad hg
 refine E4 (M8 _ _ hy) ?_
 refine Ao ?_
 refine Al fun hU => ?_
 refine D1 rfl hg (fun h3 hg => ?_) fun h3 hg => ?_
 ·refine Aj ?_
  refine Af (Cd _ _ []) 48 64 hU rfl rfl ?_
  refine Ao ?_
  refine Al fun hU => ?_
  refine Bv ?_
  obtain rfl := oi_ hg
  exact Bt [] ⟨rfl, rfl⟩
 ·refine Ay ?_
  repeat first | refine Dg ?_ | refine Df ?_
  refine Aj ?_
  refine Bu 48 72 hU ?_
  refine Ao ?_
  obtain ⟨y_2, hy_2, hg⟩ := Ad hg
  refine E4 (Oc _ _ hy_2) ?_
  refine Ao ?_
  refine Al fun hU => ?_
  refine D1 rfl hg (fun h6 hg => ?_) fun h6 hg => ?_
  ·refine Aj ?_
   refine Af (Cd _ _ []) 72 88 hU rfl rfl ?_
   refine Ao ?_
   refine Al fun hU => ?_
   refine Bv ?_
   obtain rfl := oi_ hg
   exact Bt [] ⟨rfl, rfl⟩
  ·refine Ay ?_
   repeat first | refine Dg ?_ | refine Df ?_
   refine Bu 72 96 hU ?_
   refine Ao ?_
   obtain ⟨y_3, hy_3, hg⟩ := Ad hg
   refine E4 (Q4 _ _ hy_3) ?_
   refine Ao ?_
   refine Al fun hU => ?_
   refine Aj ?_
   refine Bu 96 120 hU ?_
   refine Ao ?_
   refine Al fun hU => ?_
   refine D1 rfl hg (fun h10 hg => ?_) fun h10 hg => ?_
   ·refine Aj ?_
    refine Af (Cd _ _ []) 120 136 hU rfl rfl ?_
    refine Ao ?_
    refine Al fun hU => ?_
    refine Bv ?_
    obtain rfl := oi_ hg
    exact Bt [] ⟨rfl, rfl⟩
   ·refine Ay ?_
    repeat first | refine Dg ?_ | refine Df ?_
    refine Bu 120 144 hU ?_
    refine Ao ?_
    refine Al fun hU => ?_
    refine Bv ?_
    obtain rfl := oi_ hg
    exact Bt [] ⟨rfl, rfl⟩
theorem X2 (c : Am) (r : (List UInt8) × Int) (hg : J1 c = some r) : Fn Tryz.prog 59 0 [.agg (Am.dv c)] [] (fun d' b' => d' = .tup [.sl 1 (Av e8 r.1), .val (.int .i64 r.2)] /\ b' = []) := by
 unfold J1 at hg
 refine Fn.of Tryz.func59 rfl rfl rfl fun w0 I ρ0 => ?_
 show Cy _ ⟨w0, I, ρ0, 0, 0, 12⟩ _ _ _
 refine Bu 0 24 Bg ?_
 refine Ao ?_
 refine Al fun hU => ?_
 refine Aj ?_
 refine Bu 24 48 hU ?_
 refine Ao ?_
 obtain ⟨y, hy, hg⟩ := Ad hg
 refine E4 (Sg _ _ hy) ?_
 refine Ao ?_
 refine Al fun hU => ?_
 refine D1 rfl hg (fun h3 hg => ?_) fun h3 hg => ?_
 ·refine Aj ?_
  refine Af (Cd _ _ []) 48 64 hU rfl rfl ?_
  refine Ao ?_
  refine Al fun hU => ?_
  refine Bv ?_
  obtain rfl := oi_ hg
  exact Bt [] ⟨rfl, rfl⟩
 ·refine Ay ?_
  repeat first | refine Dg ?_ | refine Df ?_
  refine Bu 48 104 hU ?_
  refine Ao ?_
  obtain ⟨y_2, hy_2, hg⟩ := Ad hg
  refine E4 (Z3 _ _ hy_2) ?_
  obtain ⟨y_3, hy_3, hg⟩ := Ad hg
  refine E4 (Xs _ _ hy_3) ?_
  refine Ao ?_
  refine Al fun hU => ?_
  refine Bv ?_
  obtain rfl := oi_ hg
  exact Bt [] ⟨rfl, rfl⟩
theorem bS (b : (List UInt8)) (r : Int) (hg : G0 b = some r) : Fn Tryz.prog 60 0 [.sl 1 (Av e8 b)] [] (fun d' b' => d' = .val (.int .i64 r) /\ b' = []) := by
 unfold G0 at hg
 refine Fn.of Tryz.func60 rfl rfl rfl fun w0 I ρ0 => ?_
 show Cy _ ⟨w0, I, ρ0, 0, 0, 21⟩ _ _ _
 refine Bu 0 8 Bg ?_
 refine Ao ?_
 refine Al fun hU => ?_
 refine Bu 8 16 hU ?_
 refine Ao ?_
 refine Al fun hU => ?_
 refine Aj ?_
 refine Bu 16 24 hU ?_
 refine Ao ?_
 refine Al fun hU => ?_
 refine A3 ?_
 refine Ix (fun ((h_1, i_1) : Int × Int) => mk [(0, .sl 1 (Av e8 b)), (3, .val (.int .u32 h_1)), (4, .val (.int .i64 i_1))] [] 0) hg (A9 []) ?_
 rintro ⟨h_1, i_1⟩ m1 o1 hg hn1
 replace hg : G0.l1 b h_1 i_1 = some o1 := hg
 show Cy _ _ _ _ (mk _ _ _)
 unfold G0.l1 at hg
 refine Aj ?_
 refine Bu 0 32 Bg ?_
 refine Ao ?_
 refine Al fun hU => ?_
 refine D1 rfl hg (fun h5 hg => ?_) fun h5 hg => ?_
 ·refine Ay ?_
  repeat first | refine Dg ?_ | refine Df ?_
  refine Aj ?_
  refine A3 ?_
  refine Af (Cd _ _ []) 32 104 hU rfl rfl ?_
  refine Ao ?_
  obtain ⟨e, he, hg⟩ := Ad hg
  refine Ao ?_
  refine Cl rfl rfl (Cz lX (Do I7 (Aq he) (o := 0) (c := .int .u8 (e.toNat : Int)) rfl rfl)) rfl rfl ?_
  refine Cl rfl rfl (Wi V7 kB) rfl rfl ?_
  refine Cl rfl rfl Zp rfl rfl ?_
  refine Cl rfl rfl tJ rfl rfl ?_
  refine Ao ?_
  refine Al fun hU => ?_
  refine Af (Cd _ _ []) 104 128 hU rfl rfl ?_
  refine Ao ?_
  refine Al fun hU => ?_
  obtain rfl := oi_ hg
  exact ⟨((IntKind.wrap .u32 ((Qv .u32 h_1 (IntKind.wrap .u32 (e.toNat : Int))) * 16777619), W (i_1 + 1)), m1), Nat.lt_succ_self _, hn1, A9 []⟩
 ·refine B8 ?_
  repeat first | refine Dg ?_ | refine Df ?_
  replace hg := Cr hg hn1
  refine Bu 32 56 hU ?_
  refine Ao ?_
  refine Cl rfl rfl (Xe kB V4) rfl rfl ?_
  refine Ao ?_
  refine Al fun hU => ?_
  refine Bv ?_
  obtain rfl := oi_ hg
  exact Bt [] ⟨rfl, rfl⟩
theorem Zq (c : Am) (key : Int) (r : Am × Int) (hg : Fo c key = some r) : Fn Tryz.prog 37 0 [.agg (Am.dv c), .val (.int .i64 key)] [] (fun d' b' => d' = .tup [.agg (Am.dv r.1), .val (.int .i64 r.2)] /\ b' = []) := by
 unfold Fo at hg
 refine Fn.of Tryz.func37 rfl rfl rfl fun w0 I ρ0 => ?_
 show Cy _ ⟨w0, I, ρ0, 0, 0, 35⟩ _ _ _
 refine Bu 0 24 Bg ?_
 refine Ao ?_
 refine Al fun hU => ?_
 refine Bu 24 48 hU ?_
 refine Ao ?_
 obtain ⟨y, hy, hg⟩ := Ad hg
 refine E4 (Zu _ _ hy) ?_
 refine Ao ?_
 refine Al fun hU => ?_
 refine Bu 48 72 hU ?_
 refine Cl rfl rfl (.build (r := [.val (.int .i64 0), .val (.int .i64 0)]) fC wF yP (by kernel_rfl) rfl) rfl rfl ?_
 refine Ao ?_
 refine Al fun hU => ?_
 refine Aj ?_
 refine B7 (ι := Bool) (fun (x22_1 : Bool) => mk [(1, .val (.int .i64 key)), (2, .ptr 0 0), (4, .ptr 1 0), (22, .val (.bool x22_1))] [(0, .box [.val (.int .i64 y.Serial), .val (.string y.Issuer), .val (.string y.Subject), .val (.int .i64 y.Key.Alg), .val (.int .i64 y.Key.Bits), .val (.int .i64 y.KeyId), .val (.int .i64 y.Hash.Alg), .val (.int .i64 y.Hash.Bits), .val (.int .i64 y.From), .val (.int .i64 y.To), .val (.bool y.Authority), .val (.int .i64 y.Path), .sl 1 (Av eS y.Names), .val (.int .i64 0), .val (.int .i64 0)] 85), (1, .box [.val (.int .i64 0), .val (.string (⟨#[]⟩ : ByteArray)), .val (.string (⟨#[]⟩ : ByteArray)), .val (.int .i64 0), .val (.int .i64 0), .val (.int .i64 0), .val (.int .i64 0), .val (.int .i64 0), .val (.int .i64 0), .val (.int .i64 0), .val (.bool false), .val (.int .i64 0), .val (.slice none 0 0), .val (.int .i64 0), .val (.int .i64 0)] 85)] 2) (fun (x22_1 : Bool) => Fo.j1 key y x22_1 = some r) ?_ ?_
 ·refine Af (Cd _ _ []) 72 160 hU rfl rfl ?_
  refine Ao ?_
  obtain ⟨y_2, hy_2, hg⟩ := Ad hg
  refine E4 (Sg _ _ hy_2) ?_
  refine Ao ?_
  rcases E8 hg with ⟨h4, hg⟩ | ⟨h4, hg⟩
  ·refine Ao ?_
   refine Al fun hU => ?_
   exact ⟨true, hg, A9 [(0, 0), (1, 8)]⟩
  ·refine Ao ?_
   rcases E8 hg with ⟨h6, hg⟩ | ⟨h6, hg⟩
   ·refine Ao ?_
    refine Al fun hU => ?_
    exact ⟨true, hg, A9 [(0, 0), (1, 8)]⟩
   ·refine Ao ?_
    refine Al fun hU => ?_
    exact ⟨decide (2147483648 < key), hg, A9 [(0, 0), (1, 8)]⟩
 ·rintro x22_1 hg
  replace hg : Fo.j1 key y x22_1 = some r := hg
  show Cy _ _ _ _ (mk _ _ _)
  unfold Fo.j1 at hg
  refine D1 rfl hg (fun h9 hg => ?_) fun h9 hg => ?_
  ·refine Aj ?_
   refine Af (Cd _ _ []) 2 26 Bg rfl rfl ?_
   refine Cl rfl rfl (.build (r := [.val (.int .i64 0), .val (.string (⟨#[]⟩ : ByteArray)), .val (.string (⟨#[]⟩ : ByteArray)), .val (.int .i64 0), .val (.int .i64 0), .val (.int .i64 0), .val (.int .i64 0), .val (.int .i64 0), .val (.int .i64 0), .val (.int .i64 0), .val (.bool false), .val (.int .i64 0), .val (.slice none 0 0), .val (.int .i64 0), .val (.int .i64 0)]) N2 wU xE (by kernel_rfl) rfl) rfl rfl ?_
   refine Ao ?_
   refine Al fun hU => ?_
   refine Bv ?_
   obtain rfl := oi_ hg
   exact Bt [] ⟨rfl, rfl⟩
  ·refine Ay ?_
   repeat first | refine Dg ?_ | refine Df ?_
   refine Bu 2 58 Bg ?_
   refine Ao ?_
   obtain ⟨y_3, hy_3, hg⟩ := Ad hg
   refine E4 (X2 _ _ hy_3) ?_
   refine Ao ?_
   refine Al fun hU => ?_
   refine Bu 58 106 hU ?_
   refine Ao ?_
   obtain ⟨y_4, hy_4, hg⟩ := Ad hg
   refine E4 (bS _ _ hy_4) ?_
   refine Cl rfl rfl (.build (r := [.val (.int .i64 key), .val (.int .i64 y_4)]) fC wF yP (by kernel_rfl) rfl) rfl rfl ?_
   refine Ao ?_
   refine Al fun hU => ?_
   refine Bu 106 130 hU ?_
   refine Ao ?_
   refine Al fun hU => ?_
   refine Bv ?_
   obtain rfl := oi_ hg
   exact Bt [] ⟨rfl, rfl⟩
theorem Vm (name : ByteArray) (key : Az) (id : Int) (anchor : Int) (to : Int) (r : Bq) (hg : Gz name key id anchor to = some r) : Fn Tryz.prog 10 0 [.val (.string name), .agg [.val (.int .i64 key.Alg), .val (.int .i64 key.Bits)], .val (.int .i64 id), .val (.int .i64 anchor), .val (.int .i64 to)] [] (fun d' b' => d' = .agg (Bq.dv r) /\ b' = []) := by
 unfold Gz at hg
 refine Fn.of Tryz.func10 rfl rfl rfl fun w0 I ρ0 => ?_
 show Cy _ ⟨w0, I, ρ0, 0, 0, 32⟩ _ _ _
 refine Bu 0 16 Bg ?_
 refine Ao ?_
 refine Al fun hU => ?_
 refine Bu 16 104 hU ?_
 refine Ao ?_
 refine Cl rfl rfl (.build (r := [.val (.int .i64 3), .val (.int .i64 0)]) O7 Xn gY (by kernel_rfl) rfl) rfl rfl ?_
 refine Ao ?_
 refine Cl rfl rfl (Bc Xd z9 (by decide) rfl rfl rfl rfl xK (cs := [.str name]) (.cons .str .nil) rfl (l := ([name] : List ByteArray)) (f := eS) rfl) rfl rfl ?_
 refine Cl rfl rfl (.build (r := [.val (.int .i64 id), .val (.string (⟨#[114, 111, 111, 116]⟩ : ByteArray)), .val (.string name), .val (.int .i64 key.Alg), .val (.int .i64 key.Bits), .val (.int .i64 id), .val (.int .i64 3), .val (.int .i64 0), .val (.int .i64 0), .val (.int .i64 to), .val (.bool false), .val (.int .i64 0), .row 72, .val (.int .i64 0), .val (.int .i64 0)]) N2 wU xE (by kernel_rfl) rfl) rfl rfl ?_
 refine Ao ?_
 refine Al fun hU => ?_
 refine Aj ?_
 refine H6 (σ' := mk [(2, .val (.int .i64 id)), (3, .val (.int .i64 anchor)), (6, .ptr 0 0), (10, .ptr 1 0), (11, .ptr 2 0)] [(0, .box [.val (.int .i64 key.Alg), .val (.int .i64 key.Bits)] 39), (1, .box [.val (.int .i64 0), .val (.int .i64 0), .val (.int .i64 0), .val (.slice none 0 0)] 42), (2, .box [.val (.int .i64 id), .val (.string (⟨#[114, 111, 111, 116]⟩ : ByteArray)), .val (.string name), .val (.int .i64 key.Alg), .val (.int .i64 key.Bits), .val (.int .i64 id), .val (.int .i64 3), .val (.int .i64 0), .val (.int .i64 0), .val (.int .i64 to), .val (.bool false), .val (.int .i64 0), .sl 1 (Av eS ([name] : List ByteArray)), .val (.int .i64 0), .val (.int .i64 0)] 85)] 3) (A9 [(0, 0), (1, 8), (2, 88)]) ?_
 refine Af (Cd _ _ []) 3 59 Bg rfl rfl ?_
 refine Ao ?_
 obtain ⟨y, hy, hg⟩ := Ad hg
 refine E4 (Zq _ _ _ hy) ?_
 refine Ao ?_
 refine Al fun hU => ?_
 refine Bu 59 107 hU ?_
 refine Ao ?_
 refine Cl rfl rfl (Bc wI xE (by decide) rfl rfl rfl rfl yI (cs := [.int .i64 y.1.Serial, .str y.1.Issuer, .str y.1.Subject, .int .i64 y.1.Key.Alg, .int .i64 y.1.Key.Bits, .int .i64 y.1.KeyId, .int .i64 y.1.Hash.Alg, .int .i64 y.1.Hash.Bits, .int .i64 y.1.From, .int .i64 y.1.To, .bool y.1.Authority, .int .i64 y.1.Path, .sl 1 (Av eS y.1.Names), .int .i64 y.1.Seal.Key, .int .i64 y.1.Seal.Sum]) (.cons .int (.cons .str (.cons .str (.cons .int (.cons .int (.cons .int (.cons .int (.cons .int (.cons .int (.cons .int (.cons .bool (.cons .int (.cons .sl (.cons .int (.cons .int .nil))))))))))))))) rfl (l := ([y.1] : List Am)) (f := Am.enc) rfl) rfl rfl ?_
 refine Cl rfl rfl (.build (r := [.val (.int .i64 key.Alg), .val (.int .i64 key.Bits), .val (.int .i64 id), .row 83]) eX yU xP (by kernel_rfl) rfl) rfl rfl ?_
 refine Ao ?_
 refine Al fun hU => ?_
 refine Bv ?_
 obtain rfl := oi_ hg
 exact Bt [] ⟨rfl, rfl⟩
theorem Vb (d : Ac) (l : (List ByteArray)) (r : ByteArray × Ac) (hg : Ie d l = some r) : Fn Tryz.prog 36 1 [.ptr 0 0, .sl 1 (Av eS l)] [.box [.sl 1 (Av eI d.L), .val (.int .i64 d.At)] 81] (fun d' b' => d' = .val (.string r.1) /\ b' = [.box [.sl 1 (Av eI r.2.L), .val (.int .i64 r.2.At)] 81]) := by
 unfold Ie at hg
 refine Fn.of Tryz.func36 rfl rfl rfl fun w0 I ρ0 => ?_
 show Cy _ ⟨w0, I, ρ0, 1, 1, 12⟩ _ _ _
 refine Bu 1 9 Bg ?_
 refine Ao ?_
 refine Al fun hU => ?_
 refine Bu 9 73 hU ?_
 refine Ao ?_
 obtain ⟨y, hy, hg⟩ := Ad hg
 refine K0 [0] [0] [] false (Dl _ _ _ hy) ?_
 obtain ⟨e, he, hg⟩ := Ad hg
 refine Ao ?_
 refine Cl rfl rfl (Cz kI (Do Nt (Aq he) (o := 0) (c := .str e) rfl rfl)) rfl rfl ?_
 refine Ao ?_
 refine Al fun hU => ?_
 refine Bv ?_
 obtain rfl := oi_ hg
 exact Bt [(0, 0)] ⟨rfl, rfl⟩
theorem aH (d : Ac) (name : ByteArray) (r : By × Ac) (hg : Gx d name = some r) : Fn Tryz.prog 35 1 [.ptr 0 0, .val (.string name)] [.box [.sl 1 (Av eI d.L), .val (.int .i64 d.At)] 81] (fun d' b' => d' = .agg (By.dv r.1) /\ b' = [.box [.sl 1 (Av eI r.2.L), .val (.int .i64 r.2.At)] 81]) := by
 unfold Gx at hg
 refine Fn.of Tryz.func35 rfl rfl rfl fun w0 I ρ0 => ?_
 show Cy _ ⟨w0, I, ρ0, 1, 1, 62⟩ _ _ _
 refine Bu 1 9 Bg ?_
 refine Ao ?_
 refine Al fun hU => ?_
 refine Bu 9 89 hU ?_
 refine Ao ?_
 obtain ⟨y, hy, hg⟩ := Ad hg
 refine K0 [0] [0] [] false (Dl _ _ _ hy) ?_
 refine Ao ?_
 obtain ⟨y_2, hy_2, hg⟩ := Ad hg
 refine K0 [0] [0] [] false (Dl _ _ _ hy_2) ?_
 refine Ao ?_
 refine Cl rfl rfl (.build (r := [.val (.string name), .val (.int .i64 (W (1 + y.1))), .val (.int .i64 (W (1 + y_2.1))), .val (.slice none 0 0), .val (.int .i64 0)]) Yn xX zA (by kernel_rfl) rfl) rfl rfl ?_
 refine Ao ?_
 refine Al fun hU => ?_
 refine Bu 89 113 hU ?_
 refine Ao ?_
 obtain ⟨y_3, hy_3, hg⟩ := Ad hg
 refine K0 [0] [0] [] false (Dl _ _ _ hy_3) ?_
 refine Ao ?_
 refine Al fun hU => ?_
 refine Aj ?_
 refine Bu 113 145 hU ?_
 refine Ao ?_
 obtain ⟨y_4, hy_4, hg⟩ := Ad hg
 refine K0 [0] [0] [] false (Dl _ _ _ hy_4) ?_
 refine Ao ?_
 refine Al fun hU => ?_
 refine A3 ?_
 refine Ix (fun ((day_1, i_1, d_1, l_1) : Int × Int × Ac × List Ds) => mk [(0, .ptr 0 0), (4, .ptr 1 0), (5, .ptr 2 0), (6, .val (.int .i64 day_1)), (7, .val (.int .i64 i_1))] [(0, .box [.sl 1 (Av eI d_1.L), .val (.int .i64 d_1.At)] 81), (1, .box [.val (.string (⟨#[]⟩ : ByteArray)), .val (.int .i64 0), .val (.int .i64 0), .val (.slice none 0 0), .val (.int .i64 0)] 77), (2, .box [.val (.string name), .val (.int .i64 (W (1 + y.1))), .val (.int .i64 (W (1 + y_2.1))), .row 3, .val (.int .i64 0)] 77), (3, .row 107 3 (Av Ds.enc l_1))] 4) hg (A9 [(0, 0), (1, 1), (2, 73)]) ?_
 rintro ⟨day_1, i_1, d_1, l_1⟩ m1 o1 hg hn1
 replace hg : Gx.l1 name y y_2 day_1 i_1 d_1 l_1 = some o1 := hg
 show Cy _ _ _ _ (mk _ _ _)
 unfold Gx.l1 at hg
 refine Aj ?_
 refine Bu 4 20 Bg ?_
 refine Ao ?_
 refine Al fun hU => ?_
 refine D1 rfl hg (fun h6 hg => ?_) fun h6 hg => ?_
 ·refine Ay ?_
  repeat first | refine Dg ?_ | refine Df ?_
  refine Aj ?_
  refine A3 ?_
  refine Bu 20 124 hU ?_
  refine Cl rfl rfl (.build (r := [.val (.int .i64 2), .val (.int .i64 0)]) O7 Xn gY (by kernel_rfl) rfl) rfl rfl ?_
  refine Cl rfl rfl (.build (r := [.val (.int .i64 1), .val (.int .i64 0)]) O7 Xn gY (by kernel_rfl) rfl) rfl rfl ?_
  refine Cl rfl rfl (.build (r := [.val (.int .i64 5), .val (.int .i64 2048)]) O7 Xn gY (by kernel_rfl) rfl) rfl rfl ?_
  refine Cl rfl rfl (.build (r := [.val (.int .i64 16), .val (.int .i64 128)]) O7 Xn gY (by kernel_rfl) rfl) rfl rfl ?_
  refine Cl rfl rfl (.build (r := [.val (.int .i64 3), .val (.int .i64 0)]) O7 Xn gY (by kernel_rfl) rfl) rfl rfl ?_
  refine Cl rfl rfl (.build (r := [.val (.int .i64 15), .val (.int .i64 168)]) O7 Xn gY (by kernel_rfl) rfl) rfl rfl ?_
  refine Cl rfl rfl (Bc uR gY (by decide) rfl rfl rfl rfl xR (cs := [.int .i64 2, .int .i64 0, .int .i64 1, .int .i64 0, .int .i64 5, .int .i64 2048, .int .i64 16, .int .i64 128, .int .i64 3, .int .i64 0, .int .i64 15, .int .i64 168]) (.cons .int (.cons .int (.cons .int (.cons .int (.cons .int (.cons .int (.cons .int (.cons .int (.cons .int (.cons .int (.cons .int (.cons .int .nil)))))))))))) rfl (l := ([(Az.mk 2 0), (Az.mk 1 0), (Az.mk 5 2048), (Az.mk 16 128), (Az.mk 3 0), (Az.mk 15 168)] : List Az)) (f := Az.enc) rfl) rfl rfl ?_
  refine Ao ?_
  obtain ⟨y_5, hy_5, hg⟩ := Ad hg
  refine K0 [0] [0] [] false (Dl _ _ _ hy_5) ?_
  obtain ⟨e, he, hg⟩ := Ad hg
  refine Ao ?_
  refine Da (rd := [68]) rfl rfl (Ci nB (Bh Az.enc_len (Aq he) (o := 0) (m := 2) (cs := [.int .i64 e.Alg, .int .i64 e.Bits]) rfl (by decide) rfl) (Ax Az.enc_len (Aq he) (o := 0) (m := 2) (by decide) rfl)) rfl rfl ?_
  refine Ao ?_
  refine Al fun hU => ?_
  refine Bu 124 196 hU ?_
  refine Ao ?_
  refine Cl rfl rfl (.build (r := [.val (.int .i64 e.Alg), .val (.int .i64 e.Bits), .val (.int .i64 day_1)]) cZ uO pU (by kernel_rfl) rfl) rfl rfl ?_
  refine Cl rfl rfl (Bc qI pU (by decide) rfl rfl rfl rfl wQ (cs := [.int .i64 e.Alg, .int .i64 e.Bits, .int .i64 day_1]) (.cons .int (.cons .int (.cons .int .nil))) rfl (l := ([(Ds.mk e day_1)] : List Ds)) (f := Ds.enc) rfl) rfl rfl ?_
  obtain ⟨l, hl, hg⟩ := Ad hg
  refine Da (rd := [3, 164]) rfl rfl (E3 qI Ds.enc_len .row rfl .row rfl hl rfl) rfl rfl ?_
  refine Ao ?_
  refine Al fun hU => ?_
  refine Af (Cd _ _ [220]) 196 252 hU rfl rfl ?_
  refine Ao ?_
  refine Wn (rd := []) rfl rfl (Bc G1 z3 (by decide) rfl rfl rfl rfl Mn (cs := [.int .i64 5, .int .i64 30, .int .i64 0, .int .i64 100]) (.cons .int (.cons .int (.cons .int (.cons .int .nil)))) rfl (l := ([5, 30, 0, 100] : List Int)) (f := eI) rfl) rfl rfl rfl ?_
  obtain ⟨y_6, hy_6, hg⟩ := Ad hg
  refine K0 [0] [0] [] false (K2 _ _ _ hy_6) ?_
  refine Ao ?_
  refine Al fun hU => ?_
  refine Af (Cd _ _ []) 252 276 hU rfl rfl ?_
  refine Ao ?_
  refine Al fun hU => ?_
  obtain rfl := oi_ hg
  exact ⟨((W ((W (day_1 + 1)) + y_6.1), W (i_1 - 1), y_6.2, l), m1), Nat.lt_succ_self _, hn1, A9 [(0, 0), (1, 1), (2, 2), (3, 172)]⟩
 ·refine B8 ?_
  repeat first | refine Dg ?_ | refine Df ?_
  replace hg := Cr hg hn1
  refine Aj ?_
  refine Ck (Cd _ _ [68]) (by kernel_rfl) [0, 1, 3, 7, 15, 0, 0, 96, 255, 511, 1023] 20 108 hU rfl rfl (by kernel_rfl) ?_
  refine Ao ?_
  obtain ⟨e_2, he_2, hg⟩ := Ad hg
  refine Ao ?_
  refine Da (rd := [3]) rfl rfl (.loadR1 Nw (Do Ds.enc_len (Aq he_2) (o := 2) (c := .int .i64 e_2.Day) rfl rfl)) rfl rfl ?_
  refine Ao ?_
  refine Wn (rd := []) rfl rfl (Bc G1 z3 (by decide) rfl rfl rfl rfl Mn (cs := [.int .i64 50, .int .i64 300, .int .i64 0, .int .i64 3000]) (.cons .int (.cons .int (.cons .int (.cons .int .nil)))) rfl (l := ([50, 300, 0, 3000] : List Int)) (f := eI) rfl) rfl rfl rfl ?_
  obtain ⟨y_7, hy_7, hg⟩ := Ad hg
  refine K0 [0] [0] [] false (K2 _ _ _ hy_7) ?_
  refine Ao ?_
  refine Al fun hU => ?_
  refine Bu 108 124 hU ?_
  refine Ao ?_
  refine Al fun hU => ?_
  refine Bv ?_
  obtain rfl := oi_ hg
  exact Bt [(0, 0)] ⟨rfl, rfl⟩
theorem Y9 (d : Ac) (r : Bj × Ac) (hg : Bm d = some r) : Fn Tryz.prog 8 1 [.ptr 0 0] [.box [.sl 1 (Av eI d.L), .val (.int .i64 d.At)] 81] (fun d' b' => d' = .agg (Bj.dv r.1) /\ b' = [.box [.sl 1 (Av eI r.2.L), .val (.int .i64 r.2.At)] 81]) := by
 unfold Bm at hg
 refine Fn.of Tryz.func8 rfl rfl rfl fun w0 I ρ0 => ?_
 show Cy _ ⟨w0, I, ρ0, 1, 1, 122⟩ _ _ _
 refine Bu 1 9 Bg ?_
 refine Ao ?_
 refine Al fun hU => ?_
 refine Bu 9 17 hU ?_
 refine Ao ?_
 refine Al fun hU => ?_
 refine Bu 17 65 hU ?_
 refine Cl rfl rfl (Bc Xd z9 (by decide) rfl rfl rfl rfl xK (cs := [.str (⟨#[97, 112, 112]⟩ : ByteArray), .str (⟨#[100, 98]⟩ : ByteArray), .str (⟨#[119, 101, 98]⟩ : ByteArray)]) (.cons .str (.cons .str (.cons .str .nil))) rfl (l := ([(⟨#[97, 112, 112]⟩ : ByteArray), (⟨#[100, 98]⟩ : ByteArray), (⟨#[119, 101, 98]⟩ : ByteArray)] : List ByteArray)) (f := eS) rfl) rfl rfl ?_
 refine Ao ?_
 obtain ⟨y, hy, hg⟩ := Ad hg
 refine K0 [0] [0] [] false (Dl _ _ _ hy) ?_
 refine Ao ?_
 obtain ⟨l, hl, hg⟩ := Ad hg
 refine Da (rd := [17]) rfl rfl (Up Xd Nt hl) rfl rfl ?_
 refine Ao ?_
 refine Al fun hU => ?_
 refine Aj ?_
 refine Bu 65 89 hU ?_
 refine Ao ?_
 refine Cl rfl rfl (.len Xd.elem .part) rfl rfl ?_
 refine Ao ?_
 refine Al fun hU => ?_
 refine A3 ?_
 refine Ix (fun ((x18_1, d_1, l_1) : Int × Ac × List Aw) => mk [(0, .ptr 0 0), (2, .ptr 1 0), (3, .ptr 2 0), (4, .part 3 (((0 : Int).toNat) * 1) ((W (2 + y.1) : Int).toNat - (0 : Int).toNat)), (16, .part 3 (((0 : Int).toNat) * 1) ((W (2 + y.1) : Int).toNat - (0 : Int).toNat)), (17, .val (.int .i64 ((((W (2 + y.1) : Int).toNat - (0 : Int).toNat) : Nat) : Int))), (18, .val (.int .i64 x18_1))] [(0, .box [.sl 1 (Av eI d_1.L), .val (.int .i64 d_1.At)] 81), (1, .box [.val (.slice none 0 0), .val (.slice none 0 0), .val (.slice none 0 0)] 29), (2, .box [.row 4, .val (.slice none 0 0), .val (.slice none 0 0)] 29), (3, .row 9 1 (Av eS ([(⟨#[97, 112, 112]⟩ : ByteArray), (⟨#[100, 98]⟩ : ByteArray), (⟨#[119, 101, 98]⟩ : ByteArray)] : List ByteArray))), (4, .row 37 9 (Av Aw.enc l_1))] 5) hg (A9 [(0, 0), (1, 1), (2, 9), (3, 17)]) ?_
 rintro ⟨x18_1, d_1, l_1⟩ m1 o1 hg hn1
 replace hg : Bm.l1 y x18_1 d_1 l_1 = some o1 := hg
 show Cy _ _ _ _ (mk _ _ _)
 unfold Bm.l1 at hg
 refine Bu 5 13 Bg ?_
 refine Ao ?_
 refine Al fun hU => ?_
 refine Aj ?_
 refine D1 rfl hg (fun h6 hg => ?_) fun h6 hg => ?_
 ·refine Ay ?_
  repeat first | refine Dg ?_ | refine Df ?_
  refine Aj ?_
  refine A3 ?_
  refine Bu 13 53 hU ?_
  refine Ao ?_
  obtain ⟨e, he, hg⟩ := Ad hg
  refine Da (rd := [3]) rfl rfl (Zx Xd (P0 he) (Aq he)) rfl rfl ?_
  refine Da (rd := [3]) rfl rfl (.loadR1 kI (Do Nt (Pv (a := (0 : Int).toNat) (Aq he)) (o := 0) (c := .str e) rfl rfl)) rfl rfl ?_
  refine Ao ?_
  refine Al fun hU => ?_
  refine Aj ?_
  refine Ck (Cd _ _ [69, 85, 93, 101]) (by kernel_rfl) [0, 0, 0, 6, 0, 0, 0, 112, 0, 270, 1022, 2046, 0, 4878, 0, 0, 0, 78606, 262143, 0, 1048575] 53 221 hU rfl rfl (by kernel_rfl) ?_
  refine Ao ?_
  refine Wn (rd := []) rfl rfl (Bc G1 z3 (by decide) rfl rfl rfl rfl Mn (cs := [.int .i64 3, .int .i64 3, .int .i64 4]) (.cons .int (.cons .int (.cons .int .nil))) rfl (l := ([3, 3, 4] : List Int)) (f := eI) rfl) rfl rfl rfl ?_
  obtain ⟨y_2, hy_2, hg⟩ := Ad hg
  refine K0 [0] [0] [] false (K2 _ _ _ hy_2) ?_
  refine Wn (rd := []) rfl rfl (Bc G1 z3 (by decide) rfl rfl rfl rfl Mn (cs := [.int .i64 10, .int .i64 8, .int .i64 2]) (.cons .int (.cons .int (.cons .int .nil))) rfl (l := ([10, 8, 2] : List Int)) (f := eI) rfl) rfl rfl rfl ?_
  refine Wn (rd := []) rfl rfl (Bc G1 z3 (by decide) rfl rfl rfl rfl Mn (cs := [.int .i64 8, .int .i64 2]) (.cons .int (.cons .int .nil)) rfl (l := ([8, 2] : List Int)) (f := eI) rfl) rfl rfl rfl ?_
  refine Wn (rd := []) rfl rfl (Bc G1 z3 (by decide) rfl rfl rfl rfl Mn (cs := [.int .i64 2, .int .i64 10, .int .i64 8, .int .i64 3]) (.cons .int (.cons .int (.cons .int (.cons .int .nil)))) rfl (l := ([2, 10, 8, 3] : List Int)) (f := eI) rfl) rfl rfl rfl ?_
  refine Cl rfl rfl (Bc wK zP (by decide) rfl rfl rfl rfl yE (cs := [.sl 1 (Av eI ([10, 8, 2] : List Int)), .sl 1 (Av eI ([8, 2] : List Int)), .sl 1 (Av eI ([2, 10, 8, 3] : List Int))]) (.cons .sl (.cons .sl (.cons .sl .nil))) rfl (l := ([([10, 8, 2] : List Int), ([8, 2] : List Int), ([2, 10, 8, 3] : List Int)] : List (List Int))) (f := (eL 1 eI)) rfl) rfl rfl ?_
  refine Ao ?_
  obtain ⟨y_3, hy_3, hg⟩ := Ad hg
  refine K0 [0] [0] [] false (Dl _ _ _ hy_3) ?_
  obtain ⟨e_2, he_2, hg⟩ := Ad hg
  refine Ao ?_
  refine Da (rd := [109]) rfl rfl (.loadR1 wD (Do (jU _ _) (Aq he_2) (o := 0) (c := .sl 1 (Av eI e_2)) rfl rfl)) rfl rfl ?_
  refine Ao ?_
  obtain ⟨y_4, hy_4, hg⟩ := Ad hg
  refine K0 [0] [0] [] false (Qa _ _ _ hy_4) ?_
  refine Cl rfl rfl (Bc G1 z3 (by decide) rfl rfl rfl rfl Mn (cs := [.int .i64 1]) (.cons .int .nil) rfl (l := ([1] : List Int)) (f := eI) rfl) rfl rfl ?_
  refine Cl rfl rfl (Bc G1 z3 (by decide) rfl rfl rfl rfl Mn (cs := [.int .i64 2, .int .i64 3]) (.cons .int (.cons .int .nil)) rfl (l := ([2, 3] : List Int)) (f := eI) rfl) rfl rfl ?_
  refine Ao ?_
  obtain ⟨y_5, hy_5, hg⟩ := Ad hg
  refine K0 [0] [0] [] false (Qa _ _ _ hy_5) ?_
  refine Cl rfl rfl (.build (r := [.val (.string e), .val (.int .i64 1), .val (.int .i64 y_2.1), .sl 1 (Av eI e_2), .val (.bool y_4.1), .val (.slice none 0 0), .row 165, .row 173, .val (.bool y_5.1)]) Se rT uM (by kernel_rfl) rfl) rfl rfl ?_
  refine Ao ?_
  refine Al fun hU => ?_
  refine B7 (ι := List Int) (fun (x_2 : List Int) => mk [(0, .ptr 0 0), (2, .ptr 1 0), (3, .ptr 2 0), (4, .part 3 (((0 : Int).toNat) * 1) ((W (2 + y.1) : Int).toNat - (0 : Int).toNat)), (5, .val (.int .i64 x18_1)), (6, .val (.string e)), (7, .ptr 4 0), (16, .part 3 (((0 : Int).toNat) * 1) ((W (2 + y.1) : Int).toNat - (0 : Int).toNat)), (17, .val (.int .i64 ((((W (2 + y.1) : Int).toNat - (0 : Int).toNat) : Nat) : Int))), (18, .val (.int .i64 x18_1))] [(0, .box [.sl 1 (Av eI y_5.2.L), .val (.int .i64 y_5.2.At)] 81), (1, .box [.val (.slice none 0 0), .val (.slice none 0 0), .val (.slice none 0 0)] 29), (2, .box [.row 5, .val (.slice none 0 0), .val (.slice none 0 0)] 29), (3, .row 9 1 (Av eS ([(⟨#[97, 112, 112]⟩ : ByteArray), (⟨#[100, 98]⟩ : ByteArray), (⟨#[119, 101, 98]⟩ : ByteArray)] : List ByteArray))), (4, .box [.val (.string e), .val (.int .i64 1), .val (.int .i64 y_2.1), .sl 1 (Av eI x_2), .val (.bool y_4.1), .val (.slice none 0 0), .row 6, .row 7, .val (.bool y_5.1)] 37), (5, .row 37 9 (Av Aw.enc l_1)), (6, .row 3 1 (Av eI ([1] : List Int))), (7, .row 3 1 (Av eI ([2, 3] : List Int)))] 8) (fun (x_2 : List Int) => Bm.j2 x18_1 l_1 e y_2 y_4 y_5 x_2 = some o1) ?_ ?_
  ·refine Aj ?_
   refine Af (Cd _ _ []) 221 245 hU rfl rfl ?_
   refine Ao ?_
   refine Al fun hU => ?_
   refine D1 rfl hg (fun h10 hg => ?_) fun h10 hg => ?_
   ·refine Af (Cd _ _ []) 245 293 hU rfl rfl ?_
    refine Cl rfl rfl (Bc G1 z3 (by decide) rfl rfl rfl rfl Mn (cs := [.int .i64 14]) (.cons .int .nil) rfl (l := ([14] : List Int)) (f := eI) rfl) rfl rfl ?_
    refine Ao ?_
    obtain ⟨l_2, hl_2, hg⟩ := Ad hg
    refine Da (rd := [245]) rfl rfl (E3 G1 Hu .row rfl .sl rfl hl_2 rfl) rfl rfl ?_
    refine Ao ?_
    refine Al fun hU => ?_
    exact ⟨l_2, hg, A9 [(0, 0), (1, 1), (2, 2), (3, 3), (4, 205), (5, 4), (6, 165), (7, 173)]⟩
   ·refine Ay ?_
    repeat first | refine Dg ?_ | refine Df ?_
    exact ⟨e_2, hg, A9 [(0, 0), (1, 1), (2, 2), (3, 3), (4, 205), (5, 4), (6, 165), (7, 173)]⟩
  ·rintro x_2 hg
   replace hg : Bm.j2 x18_1 l_1 e y_2 y_4 y_5 x_2 = some o1 := hg
   show Cy _ _ _ _ (mk _ _ _)
   unfold Bm.j2 at hg
   refine Bu 8 72 Bg ?_
   refine Ao ?_
   obtain ⟨y_6, hy_6, hg⟩ := Ad hg
   refine E4 (dB _ hy_6) ?_
   refine Ao ?_
   obtain ⟨y_7, hy_7, hg⟩ := Ad hg
   refine E4 (Vm _ _ _ _ _ _ hy_7) ?_
   refine Cl rfl rfl (Bc wL xP (by decide) rfl rfl rfl rfl xW (cs := [.int .i64 y_7.Key.Alg, .int .i64 y_7.Key.Bits, .int .i64 y_7.KeyId, .sl 15 (Av Am.enc y_7.Chain)]) (.cons .int (.cons .int (.cons .int (.cons .sl .nil)))) rfl (l := ([y_7] : List Bq)) (f := Bq.enc) rfl) rfl rfl ?_
   refine Ao ?_
   refine Al fun hU => ?_
   refine H6 (σ' := mk [(0, .ptr 0 0), (2, .ptr 1 0), (3, .ptr 2 0), (4, .part 3 (((0 : Int).toNat) * 1) ((W (2 + y.1) : Int).toNat - (0 : Int).toNat)), (7, .ptr 4 0), (16, .part 3 (((0 : Int).toNat) * 1) ((W (2 + y.1) : Int).toNat - (0 : Int).toNat)), (17, .val (.int .i64 ((((W (2 + y.1) : Int).toNat - (0 : Int).toNat) : Nat) : Int))), (18, .val (.int .i64 x18_1))] [(0, .box [.sl 1 (Av eI y_5.2.L), .val (.int .i64 y_5.2.At)] 81), (1, .box [.val (.slice none 0 0), .val (.slice none 0 0), .val (.slice none 0 0)] 29), (2, .box [.row 5, .val (.slice none 0 0), .val (.slice none 0 0)] 29), (3, .row 9 1 (Av eS ([(⟨#[97, 112, 112]⟩ : ByteArray), (⟨#[100, 98]⟩ : ByteArray), (⟨#[119, 101, 98]⟩ : ByteArray)] : List ByteArray))), (4, .box [.val (.string e), .val (.int .i64 1), .val (.int .i64 y_2.1), .sl 1 (Av eI x_2), .val (.bool y_4.1), .sl 4 (Av Bq.enc ([y_7] : List Bq)), .row 6, .row 7, .val (.bool y_5.1)] 37), (5, .row 37 9 (Av Aw.enc l_1)), (6, .row 3 1 (Av eI ([1] : List Int))), (7, .row 3 1 (Av eI ([2, 3] : List Int)))] 8) (A9 [(0, 0), (1, 1), (2, 2), (3, 3), (4, 4), (5, 5), (6, 6), (7, 7)]) ?_
   refine H6 (σ' := mk [(0, .ptr 0 0), (2, .ptr 1 0), (3, .ptr 2 0), (4, .part 3 (((0 : Int).toNat) * 1) ((W (2 + y.1) : Int).toNat - (0 : Int).toNat)), (7, .ptr 4 0), (16, .part 3 (((0 : Int).toNat) * 1) ((W (2 + y.1) : Int).toNat - (0 : Int).toNat)), (17, .val (.int .i64 ((((W (2 + y.1) : Int).toNat - (0 : Int).toNat) : Nat) : Int))), (18, .val (.int .i64 x18_1))] [(0, .box [.sl 1 (Av eI y_5.2.L), .val (.int .i64 y_5.2.At)] 81), (1, .box [.val (.slice none 0 0), .val (.slice none 0 0), .val (.slice none 0 0)] 29), (2, .box [.row 5, .val (.slice none 0 0), .val (.slice none 0 0)] 29), (3, .row 9 1 (Av eS ([(⟨#[97, 112, 112]⟩ : ByteArray), (⟨#[100, 98]⟩ : ByteArray), (⟨#[119, 101, 98]⟩ : ByteArray)] : List ByteArray))), (4, .box [.val (.string e), .val (.int .i64 1), .val (.int .i64 y_2.1), .sl 1 (Av eI x_2), .val (.bool y_4.1), .sl 4 (Av Bq.enc ([y_7] : List Bq)), .sl 1 (Av eI ([1] : List Int)), .row 6, .val (.bool y_5.1)] 37), (5, .row 37 9 (Av Aw.enc l_1)), (6, .row 3 1 (Av eI ([2, 3] : List Int)))] 7) (A9 [(0, 0), (1, 1), (2, 2), (3, 3), (4, 4), (5, 5), (6, 7)]) ?_
   refine H6 (σ' := mk [(0, .ptr 0 0), (2, .ptr 1 0), (3, .ptr 2 0), (4, .part 3 (((0 : Int).toNat) * 1) ((W (2 + y.1) : Int).toNat - (0 : Int).toNat)), (7, .ptr 4 0), (16, .part 3 (((0 : Int).toNat) * 1) ((W (2 + y.1) : Int).toNat - (0 : Int).toNat)), (17, .val (.int .i64 ((((W (2 + y.1) : Int).toNat - (0 : Int).toNat) : Nat) : Int))), (18, .val (.int .i64 x18_1))] [(0, .box [.sl 1 (Av eI y_5.2.L), .val (.int .i64 y_5.2.At)] 81), (1, .box [.val (.slice none 0 0), .val (.slice none 0 0), .val (.slice none 0 0)] 29), (2, .box [.row 5, .val (.slice none 0 0), .val (.slice none 0 0)] 29), (3, .row 9 1 (Av eS ([(⟨#[97, 112, 112]⟩ : ByteArray), (⟨#[100, 98]⟩ : ByteArray), (⟨#[119, 101, 98]⟩ : ByteArray)] : List ByteArray))), (4, .box [.val (.string e), .val (.int .i64 1), .val (.int .i64 y_2.1), .sl 1 (Av eI x_2), .val (.bool y_4.1), .sl 4 (Av Bq.enc ([y_7] : List Bq)), .sl 1 (Av eI ([1] : List Int)), .sl 1 (Av eI ([2, 3] : List Int)), .val (.bool y_5.1)] 37), (5, .row 37 9 (Av Aw.enc l_1))] 6) (A9 [(0, 0), (1, 1), (2, 2), (3, 3), (4, 4), (5, 5)]) ?_
   refine Af (Cd _ _ []) 6 62 Bg rfl rfl ?_
   refine Ao ?_
   refine Cl rfl rfl (Bc sJ uM (by decide) rfl rfl rfl rfl xO (cs := [.str e, .int .i64 1, .int .i64 y_2.1, .sl 1 (Av eI x_2), .bool y_4.1, .sl 4 (Av Bq.enc ([y_7] : List Bq)), .sl 1 (Av eI ([1] : List Int)), .sl 1 (Av eI ([2, 3] : List Int)), .bool y_5.1]) (.cons .str (.cons .int (.cons .int (.cons .sl (.cons .bool (.cons .sl (.cons .sl (.cons .sl (.cons .bool .nil))))))))) rfl (l := ([(Aw.mk e 1 y_2.1 x_2 y_4.1 ([y_7] : List Bq) ([1] : List Int) ([2, 3] : List Int) y_5.1)] : List Aw)) (f := Aw.enc) rfl) rfl rfl ?_
   obtain ⟨l_3, hl_3, hg⟩ := Ad hg
   refine Da (rd := [5, 30]) rfl rfl (E3 sJ Aw.enc_len .row rfl .row rfl hl_3 rfl) rfl rfl ?_
   refine Ao ?_
   refine Al fun hU => ?_
   refine Af (Cd _ _ []) 62 78 hU rfl rfl ?_
   refine Ao ?_
   refine Al fun hU => ?_
   obtain rfl := oi_ hg
   exact ⟨((W (x18_1 + 1), y_5.2, l_3), m1), Nat.lt_succ_self _, hn1, A9 [(0, 0), (1, 1), (2, 2), (3, 3), (4, 38)]⟩
 ·refine B8 ?_
  repeat first | refine Dg ?_ | refine Df ?_
  replace hg := Cr hg hn1
  refine Aj ?_
  refine Bu 13 37 hU ?_
  refine Ao ?_
  refine Cl rfl rfl (.len Xd.elem .part) rfl rfl ?_
  refine Ao ?_
  refine Al fun hU => ?_
  refine A3 ?_
  refine Ix (fun ((x66_6, d_6, l_6) : Int × Ac × List Ba) => mk [(0, .ptr 0 0), (2, .ptr 1 0), (3, .ptr 2 0), (4, .part 3 (((0 : Int).toNat) * 1) ((W (2 + y.1) : Int).toNat - (0 : Int).toNat)), (65, .val (.int .i64 ((((W (2 + y.1) : Int).toNat - (0 : Int).toNat) : Nat) : Int))), (66, .val (.int .i64 x66_6))] [(0, .box [.sl 1 (Av eI d_6.L), .val (.int .i64 d_6.At)] 81), (1, .box [.val (.slice none 0 0), .val (.slice none 0 0), .val (.slice none 0 0)] 29), (2, .box [.row 4, .row 5, .val (.slice none 0 0)] 29), (3, .row 9 1 (Av eS ([(⟨#[97, 112, 112]⟩ : ByteArray), (⟨#[100, 98]⟩ : ByteArray), (⟨#[119, 101, 98]⟩ : ByteArray)] : List ByteArray))), (4, .row 37 9 (Av Aw.enc l_1)), (5, .row 34 2 (Av Ba.enc l_6))] 6) hg (A9 [(0, 0), (1, 1), (2, 2), (3, 3), (4, 4)]) ?_
  rintro ⟨x66_6, d_6, l_6⟩ m6 o6 hg hn6
  replace hg : Bm.l6 y l_1 x66_6 d_6 l_6 = some o6 := hg
  show Cy _ _ _ _ (mk _ _ _)
  unfold Bm.l6 at hg
  refine Bu 6 14 Bg ?_
  refine Ao ?_
  refine Al fun hU => ?_
  refine Aj ?_
  refine D1 rfl hg (fun h17 hg => ?_) fun h17 hg => ?_
  ·refine Ay ?_
   repeat first | refine Dg ?_ | refine Df ?_
   refine Aj ?_
   refine A3 ?_
   refine Bu 14 30 hU ?_
   refine Ao ?_
   refine Al fun hU => ?_
   refine Bu 30 54 hU ?_
   refine Ao ?_
   refine Cl rfl rfl (.len Xd.elem .part) rfl rfl ?_
   refine Ao ?_
   refine Al fun hU => ?_
   refine A3 ?_
   refine Ix (fun ((x71_7, d_7, l_7) : Int × Ac × List Ba) => mk [(0, .ptr 0 0), (2, .ptr 1 0), (3, .ptr 2 0), (4, .part 3 (((0 : Int).toNat) * 1) ((W (2 + y.1) : Int).toNat - (0 : Int).toNat)), (8, .val (.int .i64 x66_6)), (65, .val (.int .i64 ((((W (2 + y.1) : Int).toNat - (0 : Int).toNat) : Nat) : Int))), (66, .val (.int .i64 x66_6)), (70, .val (.int .i64 ((((W (2 + y.1) : Int).toNat - (0 : Int).toNat) : Nat) : Int))), (71, .val (.int .i64 x71_7))] [(0, .box [.sl 1 (Av eI d_7.L), .val (.int .i64 d_7.At)] 81), (1, .box [.val (.slice none 0 0), .val (.slice none 0 0), .val (.slice none 0 0)] 29), (2, .box [.row 4, .row 5, .val (.slice none 0 0)] 29), (3, .row 9 1 (Av eS ([(⟨#[97, 112, 112]⟩ : ByteArray), (⟨#[100, 98]⟩ : ByteArray), (⟨#[119, 101, 98]⟩ : ByteArray)] : List ByteArray))), (4, .row 37 9 (Av Aw.enc l_1)), (5, .row 34 2 (Av Ba.enc l_7))] 6) hg (A9 [(0, 0), (1, 1), (2, 2), (3, 3), (4, 4), (5, 5)]) ?_
   rintro ⟨x71_7, d_7, l_7⟩ m7 o7 hg hn7
   replace hg : Bm.l7 y x66_6 x71_7 d_7 l_7 = some o7 := hg
   show Cy _ _ _ _ (mk _ _ _)
   unfold Bm.l7 at hg
   refine Bu 6 14 Bg ?_
   refine Ao ?_
   refine Al fun hU => ?_
   refine Aj ?_
   refine D1 rfl hg (fun h21 hg => ?_) fun h21 hg => ?_
   ·refine Ay ?_
    repeat first | refine Dg ?_ | refine Df ?_
    refine B7 (ι := Ac × List Ba) (fun ((d_9, l_9) : Ac × List Ba) => mk [(0, .ptr 0 0), (2, .ptr 1 0), (3, .ptr 2 0), (4, .part 3 (((0 : Int).toNat) * 1) ((W (2 + y.1) : Int).toNat - (0 : Int).toNat)), (8, .val (.int .i64 x66_6)), (65, .val (.int .i64 ((((W (2 + y.1) : Int).toNat - (0 : Int).toNat) : Nat) : Int))), (66, .val (.int .i64 x66_6)), (70, .val (.int .i64 ((((W (2 + y.1) : Int).toNat - (0 : Int).toNat) : Nat) : Int))), (71, .val (.int .i64 x71_7))] [(0, .box [.sl 1 (Av eI d_9.L), .val (.int .i64 d_9.At)] 81), (1, .box [.val (.slice none 0 0), .val (.slice none 0 0), .val (.slice none 0 0)] 29), (2, .box [.row 4, .row 5, .val (.slice none 0 0)] 29), (3, .row 9 1 (Av eS ([(⟨#[97, 112, 112]⟩ : ByteArray), (⟨#[100, 98]⟩ : ByteArray), (⟨#[119, 101, 98]⟩ : ByteArray)] : List ByteArray))), (4, .row 37 9 (Av Aw.enc l_1)), (5, .row 34 2 (Av Ba.enc l_9))] 6) (fun ((d_9, l_9) : Ac × List Ba) => Bm.j9 x71_7 d_9 l_9 = some o7) ?_ ?_
    ·refine A3 ?_
     refine Bu 14 30 hU ?_
     refine Ao ?_
     refine Al fun hU => ?_
     refine B7 (ι := Bool × Ac) (fun ((x87_8, d_8) : Bool × Ac) => mk [(0, .ptr 0 0), (2, .ptr 1 0), (3, .ptr 2 0), (4, .part 3 (((0 : Int).toNat) * 1) ((W (2 + y.1) : Int).toNat - (0 : Int).toNat)), (8, .val (.int .i64 x66_6)), (9, .val (.int .i64 x71_7)), (65, .val (.int .i64 ((((W (2 + y.1) : Int).toNat - (0 : Int).toNat) : Nat) : Int))), (66, .val (.int .i64 x66_6)), (70, .val (.int .i64 ((((W (2 + y.1) : Int).toNat - (0 : Int).toNat) : Nat) : Int))), (71, .val (.int .i64 x71_7)), (87, .val (.bool x87_8))] [(0, .box [.sl 1 (Av eI d_8.L), .val (.int .i64 d_8.At)] 81), (1, .box [.val (.slice none 0 0), .val (.slice none 0 0), .val (.slice none 0 0)] 29), (2, .box [.row 4, .row 5, .val (.slice none 0 0)] 29), (3, .row 9 1 (Av eS ([(⟨#[97, 112, 112]⟩ : ByteArray), (⟨#[100, 98]⟩ : ByteArray), (⟨#[119, 101, 98]⟩ : ByteArray)] : List ByteArray))), (4, .row 37 9 (Av Aw.enc l_1)), (5, .row 34 2 (Av Ba.enc l_7))] 6) (fun ((x87_8, d_8) : Bool × Ac) => Bm.j8 x66_6 x71_7 l_7 x87_8 d_8 = some o7) ?_ ?_
     ·refine Af (Cd _ _ []) 30 142 hU rfl rfl ?_
      refine Ao ?_
      rcases E8 hg with ⟨h23, hg⟩ | ⟨h23, hg⟩
      ·refine Ao ?_
       obtain ⟨y_8, hy_8, hg⟩ := Ad hg
       refine K0 [0] [0] [] false (Dl _ _ _ hy_8) ?_
       refine Ao ?_
       rcases E8 hg with ⟨h24, hg⟩ | ⟨h24, hg⟩
       ·refine Ao ?_
        refine Al fun hU => ?_
        exact ⟨(decide ((l_7.length : Int) < 3), y_8.2), hg, A9 [(0, 0), (1, 1), (2, 2), (3, 3), (4, 4), (5, 5)]⟩
       ·refine Ao ?_
        refine Al fun hU => ?_
        exact ⟨(false, y_8.2), hg, A9 [(0, 0), (1, 1), (2, 2), (3, 3), (4, 4), (5, 5)]⟩
      ·refine Ao ?_
       refine Al fun hU => ?_
       exact ⟨(false, d_7), hg, A9 [(0, 0), (1, 1), (2, 2), (3, 3), (4, 4), (5, 5)]⟩
     ·rintro ⟨x87_8, d_8⟩ hg
      replace hg : Bm.j8 x66_6 x71_7 l_7 x87_8 d_8 = some o7 := hg
      show Cy _ _ _ _ (mk _ _ _)
      unfold Bm.j8 at hg
      refine D1 rfl hg (fun h28 hg => ?_) fun h28 hg => ?_
      ·refine Af (Cd _ _ []) 6 78 Bg rfl rfl ?_
       refine Ao ?_
       refine Cl rfl rfl (.build (r := [.val (.int .i64 x66_6), .val (.int .i64 x71_7)]) Vp gI mH (by kernel_rfl) rfl) rfl rfl ?_
       refine Cl rfl rfl (Bc mS mH (by decide) rfl rfl rfl rfl vO (cs := [.int .i64 x66_6, .int .i64 x71_7]) (.cons .int (.cons .int .nil)) rfl (l := ([(Ba.mk x66_6 x71_7)] : List Ba)) (f := Ba.enc) rfl) rfl rfl ?_
       obtain ⟨l_4, hl_4, hg⟩ := Ad hg
       refine Da (rd := [5, 46]) rfl rfl (E3 mS Ba.enc_len .row rfl .row rfl hl_4 rfl) rfl rfl ?_
       refine Ao ?_
       refine Al fun hU => ?_
       exact ⟨(d_8, l_4), hg, A9 [(0, 0), (1, 1), (2, 2), (3, 3), (4, 4), (5, 54)]⟩
      ·refine Ay ?_
       repeat first | refine Dg ?_ | refine Df ?_
       exact ⟨(d_8, l_7), hg, A9 [(0, 0), (1, 1), (2, 2), (3, 3), (4, 4), (5, 5)]⟩
    ·rintro ⟨d_9, l_9⟩ hg
     replace hg : Bm.j9 x71_7 d_9 l_9 = some o7 := hg
     show Cy _ _ _ _ (mk _ _ _)
     unfold Bm.j9 at hg
     refine Af (Cd _ _ []) 6 22 Bg rfl rfl ?_
     refine Ao ?_
     refine Al fun hU => ?_
     obtain rfl := oi_ hg
     exact ⟨((W (x71_7 + 1), d_9, l_9), m7), Nat.lt_succ_self _, hn7, A9 [(0, 0), (1, 1), (2, 2), (3, 3), (4, 4), (5, 5)]⟩
   ·refine B8 ?_
    repeat first | refine Dg ?_ | refine Df ?_
    replace hg := Cr hg hn7
    refine Af (Cd _ _ []) 14 30 hU rfl rfl ?_
    refine Ao ?_
    refine Al fun hU => ?_
    obtain rfl := oi_ hg
    exact ⟨((W (x66_6 + 1), d_7, l_7), m6), Nat.lt_succ_self _, hn6, A9 [(0, 0), (1, 1), (2, 2), (3, 3), (4, 4), (5, 5)]⟩
  ·refine B8 ?_
   repeat first | refine Dg ?_ | refine Df ?_
   replace hg := Cr hg hn6
   refine B7 (ι := List Ba) (fun (l_10 : List Ba) => mk [(0, .ptr 0 0), (2, .ptr 1 0), (3, .ptr 2 0)] [(0, .box [.sl 1 (Av eI d_6.L), .val (.int .i64 d_6.At)] 81), (1, .box [.val (.slice none 0 0), .val (.slice none 0 0), .val (.slice none 0 0)] 29), (2, .box [.row 3, .row 4, .val (.slice none 0 0)] 29), (3, .row 37 9 (Av Aw.enc l_1)), (4, .row 34 2 (Av Ba.enc l_10))] 5) (fun (l_10 : List Ba) => Bm.j10 l_1 d_6 l_10 = some r) ?_ ?_
   ·refine Aj ?_
    refine Af (Cd _ _ []) 14 46 hU rfl rfl ?_
    refine Ao ?_
    refine Al fun hU => ?_
    refine D1 rfl hg (fun h33 hg => ?_) fun h33 hg => ?_
    ·refine Af (Cd _ _ []) 46 78 hU rfl rfl ?_
     refine Cl rfl rfl (.build (r := [.val (.int .i64 0), .val (.int .i64 1)]) Vp gI mH (by kernel_rfl) rfl) rfl rfl ?_
     refine Cl rfl rfl (Bc mS mH (by decide) rfl rfl rfl rfl vO (cs := [.int .i64 0, .int .i64 1]) (.cons .int (.cons .int .nil)) rfl (l := ([(Ba.mk 0 1)] : List Ba)) (f := Ba.enc) rfl) rfl rfl ?_
     refine Ao ?_
     refine Al fun hU => ?_
     exact ⟨([(Ba.mk 0 1)] : List Ba), hg, A9 [(0, 0), (1, 1), (2, 2), (3, 4), (4, 54)]⟩
    ·refine Ay ?_
     repeat first | refine Dg ?_ | refine Df ?_
     exact ⟨l_6, hg, A9 [(0, 0), (1, 1), (2, 2), (3, 4), (4, 5)]⟩
   ·rintro l_10 hg
    replace hg : Bm.j10 l_1 d_6 l_10 = some r := hg
    show Cy _ _ _ _ (mk _ _ _)
    unfold Bm.j10 at hg
    refine Aj ?_
    refine Bu 5 29 Bg ?_
    refine Ao ?_
    obtain ⟨y_9, hy_9, hg⟩ := Ad hg
    refine K0 [0] [0] [] false (Dl _ _ _ hy_9) ?_
    refine Ao ?_
    refine Al fun hU => ?_
    refine A3 ?_
    refine Ix (fun ((i_11, d_11, l_11) : Int × Ac × List By) => mk [(0, .ptr 0 0), (2, .ptr 1 0), (3, .ptr 2 0), (10, .val (.int .i64 i_11))] [(0, .box [.sl 1 (Av eI d_11.L), .val (.int .i64 d_11.At)] 81), (1, .box [.val (.slice none 0 0), .val (.slice none 0 0), .val (.slice none 0 0)] 29), (2, .box [.row 3, .row 4, .row 5] 29), (3, .row 37 9 (Av Aw.enc l_1)), (4, .row 34 2 (Av Ba.enc l_10)), (5, .row 77 5 (Av By.enc l_11))] 6) hg (A9 [(0, 0), (1, 1), (2, 2), (3, 3), (4, 4)]) ?_
    rintro ⟨i_11, d_11, l_11⟩ m11 o11 hg hn11
    replace hg : Bm.l11 l_1 l_10 i_11 d_11 l_11 = some o11 := hg
    show Cy _ _ _ _ (mk _ _ _)
    unfold Bm.l11 at hg
    refine Aj ?_
    refine Bu 6 22 Bg ?_
    refine Ao ?_
    refine Al fun hU => ?_
    refine D1 rfl hg (fun h37 hg => ?_) fun h37 hg => ?_
    ·refine Ay ?_
     repeat first | refine Dg ?_ | refine Df ?_
     refine Aj ?_
     refine A3 ?_
     refine Ck (Cd _ _ [54]) (by kernel_rfl) [0, 1, 0, 0, 0, 24, 60, 124, 255, 511, 1023] 22 110 hU rfl rfl (by kernel_rfl) ?_
     refine Ao ?_
     refine Wn (rd := []) rfl rfl (Bc Xd z9 (by decide) rfl rfl rfl rfl xK (cs := [.str (⟨#[98, 97, 99, 107, 117, 112]⟩ : ByteArray), .str (⟨#[100, 101, 101, 100]⟩ : ByteArray)]) (.cons .str (.cons .str .nil)) rfl (l := ([(⟨#[98, 97, 99, 107, 117, 112]⟩ : ByteArray), (⟨#[100, 101, 101, 100]⟩ : ByteArray)] : List ByteArray)) (f := eS) rfl) rfl rfl rfl ?_
     obtain ⟨y_10, hy_10, hg⟩ := Ad hg
     refine K0 [0] [0] [] false (Vb _ _ _ hy_10) ?_
     obtain ⟨y_11, hy_11, hg⟩ := Ad hg
     refine K0 [0] [0] [] false (aH _ _ _ hy_11) ?_
     refine Cl rfl rfl (Bc qL zA (by decide) rfl rfl rfl rfl yZ (cs := [.str y_11.1.Name, .int .i64 y_11.1.Kind, .int .i64 y_11.1.Purpose, .sl 3 (Av Ds.enc y_11.1.Links), .int .i64 y_11.1.Until]) (.cons .str (.cons .int (.cons .int (.cons .sl (.cons .int .nil))))) rfl (l := ([y_11.1] : List By)) (f := By.enc) rfl) rfl rfl ?_
     obtain ⟨l_5, hl_5, hg⟩ := Ad hg
     refine Da (rd := [5, 78]) rfl rfl (E3 qL By.enc_len .row rfl .row rfl hl_5 rfl) rfl rfl ?_
     refine Ao ?_
     refine Al fun hU => ?_
     refine Af (Cd _ _ []) 110 134 hU rfl rfl ?_
     refine Ao ?_
     refine Al fun hU => ?_
     obtain rfl := oi_ hg
     exact ⟨((W (i_11 - 1), y_11.2, l_5), m11), Nat.lt_succ_self _, hn11, A9 [(0, 0), (1, 1), (2, 2), (3, 3), (4, 4), (5, 86)]⟩
    ·refine B8 ?_
     repeat first | refine Dg ?_ | refine Df ?_
     replace hg := Cr hg hn11
     refine Bu 22 38 hU ?_
     refine Ao ?_
     refine Al fun hU => ?_
     refine Bv ?_
     obtain rfl := oi_ hg
     exact Bt [(0, 0)] ⟨rfl, rfl⟩
theorem Xp (l : (List Int)) (n : Int) (r : Bool) (hg : Gw l n = some r) : Fn Tryz.prog 48 0 [.sl 1 (Av eI l), .val (.int .i64 n)] [] (fun d' b' => d' = .val (.bool r) /\ b' = []) := by
 unfold Gw at hg
 refine Fn.of Tryz.func48 rfl rfl rfl fun w0 I ρ0 => ?_
 show Cy _ ⟨w0, I, ρ0, 0, 0, 17⟩ _ _ _
 refine Bu 0 8 Bg ?_
 refine Ao ?_
 refine Al fun hU => ?_
 refine Aj ?_
 refine Bu 8 32 hU ?_
 refine Ao ?_
 refine Al fun hU => ?_
 refine A3 ?_
 refine Ix (fun (x9_1 : Int) => mk [(1, .val (.int .i64 n)), (7, .sl 1 (Av eI l)), (8, .val (.int .i64 (l.length : Int))), (9, .val (.int .i64 x9_1))] [] 0) hg (A9 []) ?_
 rintro x9_1 m1 o1 hg hn1
 replace hg : Gw.l1 l n x9_1 = some o1 := hg
 show Cy _ _ _ _ (mk _ _ _)
 unfold Gw.l1 at hg
 refine Bu 0 8 Bg ?_
 refine Ao ?_
 refine Al fun hU => ?_
 refine Aj ?_
 refine D1 rfl hg (fun h4 hg => ?_) fun h4 hg => ?_
 ·refine Ay ?_
  repeat first | refine Dg ?_ | refine Df ?_
  refine Aj ?_
  refine A3 ?_
  refine Bu 8 32 hU ?_
  obtain ⟨e, he, hg⟩ := Ad hg
  refine Ao ?_
  refine Cl rfl rfl (Cz Nw (Do Hu (Aq he) (o := 0) (c := .int .i64 e) rfl rfl)) rfl rfl ?_
  refine Ao ?_
  refine Al fun hU => ?_
  refine Bu 32 56 hU ?_
  refine Ao ?_
  refine Al fun hU => ?_
  refine D1 rfl hg (fun h7 hg => ?_) fun h7 hg => ?_
  ·refine Aj ?_
   refine Af (Cd _ _ []) 56 64 hU rfl rfl ?_
   refine Ao ?_
   refine Al fun hU => ?_
   refine Bv ?_
   replace hg := Cr hg hn1
   obtain rfl := oi_ hg
   exact Bt [] ⟨rfl, rfl⟩
  ·refine Ay ?_
   repeat first | refine Dg ?_ | refine Df ?_
   refine Af (Cd _ _ []) 56 72 hU rfl rfl ?_
   refine Ao ?_
   refine Al fun hU => ?_
   obtain rfl := oi_ hg
   exact ⟨(W (x9_1 + 1), m1), Nat.lt_succ_self _, hn1, A9 []⟩
 ·refine B8 ?_
  repeat first | refine Dg ?_ | refine Df ?_
  replace hg := Cr hg hn1
  refine Bu 8 16 hU ?_
  refine Ao ?_
  refine Al fun hU => ?_
  refine Bv ?_
  obtain rfl := oi_ hg
  exact Bt [] ⟨rfl, rfl⟩
theorem gR  (r : Az) (hg : Rq = some r) : Fn Tryz.prog 11 0 [] [] (fun d' b' => d' = .agg [.val (.int .i64 r.Alg), .val (.int .i64 r.Bits)] /\ b' = []) := by
 unfold Rq at hg
 refine Fn.of Tryz.func11 rfl rfl rfl fun w0 I ρ0 => ?_
 show Cy _ ⟨w0, I, ρ0, 0, 0, 2⟩ _ _ _
 refine Bu 0 8 Bg ?_
 refine Ao ?_
 refine Al fun hU => ?_
 refine Bu 8 24 hU ?_
 refine Cl rfl rfl (.build (r := [.val (.int .i64 7), .val (.int .i64 256)]) O7 Xn gY (by kernel_rfl) rfl) rfl rfl ?_
 refine Ao ?_
 refine Al fun hU => ?_
 refine Bv ?_
 obtain rfl := oi_ hg
 exact Bt [] ⟨rfl, rfl⟩
theorem Uc (d : Ac) (e : Bj) (r : (List An) × Ac) (hg : A1 d e = some r) : Fn Tryz.prog 14 1 [.ptr 0 0, .agg (Bj.dv e)] [.box [.sl 1 (Av eI d.L), .val (.int .i64 d.At)] 81] (fun d' b' => d' = .row 1 /\ b' = [.box [.sl 1 (Av eI r.2.L), .val (.int .i64 r.2.At)] 81, .row 44 8 (Av An.enc r.1)]) := by
 unfold A1 at hg
 refine Fn.of Tryz.func14 rfl rfl rfl fun w0 I ρ0 => ?_
 show Cy _ ⟨w0, I, ρ0, 1, 1, 145⟩ _ _ _
 refine Bu 1 17 Bg ?_
 refine Ao ?_
 refine Al fun hU => ?_
 refine Bu 17 25 hU ?_
 refine Ao ?_
 refine Al fun hU => ?_
 refine Bu 25 121 hU ?_
 refine Ao ?_
 obtain ⟨y, hy, hg⟩ := Ad hg
 refine K0 [0] [0] [] false (Dl _ _ _ hy) ?_
 refine Ao ?_
 obtain ⟨y_2, hy_2, hg⟩ := Ad hg
 refine K0 [0] [0] [] false (Dl _ _ _ hy_2) ?_
 refine Ao ?_
 obtain ⟨y_3, hy_3, hg⟩ := Ad hg
 refine K0 [0] [0] [] false (Dl _ _ _ hy_3) ?_
 refine Ao ?_
 refine Al fun hU => ?_
 refine Aj ?_
 refine Bu 121 153 hU ?_
 refine Ao ?_
 refine Al fun hU => ?_
 refine A3 ?_
 refine Ix (fun ((x25_1, d_1, l_1) : Int × Ac × List An) => mk [(0, .ptr 0 0), (5, .row 1), (6, .val (.bool (decide (0 < y.1)))), (7, .val (.bool (decide (y_2.1 = 0)))), (8, .val (.bool (decide (y_3.1 = 0)))), (23, .sl 9 (Av Aw.enc e.Endpoints)), (24, .val (.int .i64 (e.Endpoints.length : Int))), (25, .val (.int .i64 x25_1))] [(0, .box [.sl 1 (Av eI d_1.L), .val (.int .i64 d_1.At)] 81), (1, .row 44 8 (Av An.enc l_1))] 2) hg (A9 [(0, 0)]) ?_
 rintro ⟨x25_1, d_1, l_1⟩ m1 o1 hg hn1
 replace hg : A1.l1 e y y_2 y_3 x25_1 d_1 l_1 = some o1 := hg
 show Cy _ _ _ _ (mk _ _ _)
 unfold A1.l1 at hg
 refine Bu 2 10 Bg ?_
 refine Ao ?_
 refine Al fun hU => ?_
 refine Aj ?_
 refine D1 rfl hg (fun h6 hg => ?_) fun h6 hg => ?_
 ·refine Ay ?_
  repeat first | refine Dg ?_ | refine Df ?_
  refine B7 (ι := Ac × List An) (fun ((d_11, l_11) : Ac × List An) => mk [(0, .ptr 0 0), (5, .row 1), (6, .val (.bool (decide (0 < y.1)))), (7, .val (.bool (decide (y_2.1 = 0)))), (8, .val (.bool (decide (y_3.1 = 0)))), (23, .sl 9 (Av Aw.enc e.Endpoints)), (24, .val (.int .i64 (e.Endpoints.length : Int))), (25, .val (.int .i64 x25_1))] [(0, .box [.sl 1 (Av eI d_11.L), .val (.int .i64 d_11.At)] 81), (1, .row 44 8 (Av An.enc l_11))] 2) (fun ((d_11, l_11) : Ac × List An) => A1.j11 x25_1 d_11 l_11 = some o1) ?_ ?_
  ·refine A3 ?_
   refine Bu 10 58 hU ?_
   refine Ao ?_
   obtain ⟨e_2, he_2, hg⟩ := Ad hg
   refine Ao ?_
   refine Cl rfl rfl (D4 dG (Bh Aw.enc_len (Aq he_2) (o := 0) (m := 9) (cs := [.str e_2.Name, .int .i64 e_2.Least, .int .i64 e_2.Most, .sl 1 (Av eI e_2.Suites), .bool e_2.OwnOrder, .sl 4 (Av Bq.enc e_2.Identities), .sl 1 (Av eI e_2.Anchors), .sl 1 (Av eI e_2.Hashes), .bool e_2.Fallback]) rfl (by decide) rfl) (Ax Aw.enc_len (Aq he_2) (o := 0) (m := 9) (by decide) rfl)) rfl rfl ?_
   refine Ao ?_
   refine Al fun hU => ?_
   refine B7 (ι := Ac × List An) (fun ((d_3, l_3) : Ac × List An) => mk [(0, .ptr 0 0), (5, .row 1), (6, .val (.bool (decide (0 < y.1)))), (7, .val (.bool (decide (y_2.1 = 0)))), (8, .val (.bool (decide (y_3.1 = 0)))), (9, .val (.int .i64 x25_1)), (10, .ptr 2 0), (23, .sl 9 (Av Aw.enc e.Endpoints)), (24, .val (.int .i64 (e.Endpoints.length : Int))), (25, .val (.int .i64 x25_1))] [(0, .box [.sl 1 (Av eI d_3.L), .val (.int .i64 d_3.At)] 81), (1, .row 44 8 (Av An.enc l_3)), (2, .box (Aw.dv e_2) 37)] 3) (fun ((d_3, l_3) : Ac × List An) => A1.j3 y y_2 y_3 x25_1 e_2 d_3 l_3 = some o1) ?_ ?_
   ·refine B7 (ι := Bool) (fun (x36_2 : Bool) => mk [(0, .ptr 0 0), (5, .row 1), (6, .val (.bool (decide (0 < y.1)))), (7, .val (.bool (decide (y_2.1 = 0)))), (8, .val (.bool (decide (y_3.1 = 0)))), (9, .val (.int .i64 x25_1)), (10, .ptr 2 0), (23, .sl 9 (Av Aw.enc e.Endpoints)), (24, .val (.int .i64 (e.Endpoints.length : Int))), (25, .val (.int .i64 x25_1)), (36, .val (.bool x36_2))] [(0, .box [.sl 1 (Av eI d_1.L), .val (.int .i64 d_1.At)] 81), (1, .row 44 8 (Av An.enc l_1)), (2, .box (Aw.dv e_2) 37)] 3) (fun (x36_2 : Bool) => A1.j2 y y_2 y_3 x25_1 d_1 l_1 e_2 x36_2 = some o1) ?_ ?_
    ·refine Af (Cd _ _ []) 58 114 hU rfl rfl ?_
     refine Ao ?_
     rcases E8 hg with ⟨h8, hg⟩ | ⟨h8, hg⟩
     ·refine Ao ?_
      obtain ⟨y_4, hy_4, hg⟩ := Ad hg
      refine E4 (Xp _ _ _ hy_4) ?_
      refine Ao ?_
      refine Al fun hU => ?_
      exact ⟨!y_4, hg, A9 [(0, 0), (1, 1), (2, 34)]⟩
     ·refine Ao ?_
      refine Al fun hU => ?_
      exact ⟨false, hg, A9 [(0, 0), (1, 1), (2, 34)]⟩
    ·rintro x36_2 hg
     replace hg : A1.j2 y y_2 y_3 x25_1 d_1 l_1 e_2 x36_2 = some o1 := hg
     show Cy _ _ _ _ (mk _ _ _)
     unfold A1.j2 at hg
     refine D1 rfl hg (fun h11 hg => ?_) fun h11 hg => ?_
     ·refine Af (Cd _ _ []) 3 67 Bg rfl rfl ?_
      refine Ao ?_
      obtain ⟨y_5, hy_5, hg⟩ := Ad hg
      refine K0 [0] [0] [] false (Dl _ _ _ hy_5) ?_
      refine Cl rfl rfl (.build (r := [.val (.int .i64 x25_1), .val (.int .i64 1), .val (.int .i64 12), .val (.int .i64 y_5.1), .val (.int .i64 0), .val (.int .i64 0), .val (.int .i64 0), .val (.slice none 0 0)]) Q7 aU eZ (by kernel_rfl) rfl) rfl rfl ?_
      refine Cl rfl rfl (Bc Vy eZ (by decide) rfl rfl rfl rfl dK (cs := [.int .i64 x25_1, .int .i64 1, .int .i64 12, .int .i64 y_5.1, .int .i64 0, .int .i64 0, .int .i64 0, .sl 15 (Av Am.enc [])]) (.cons .int (.cons .int (.cons .int (.cons .int (.cons .int (.cons .int (.cons .int (.cons .nil .nil)))))))) rfl (l := ([(An.mk x25_1 1 12 y_5.1 (Bq.mk (Az.mk 0 0) 0 ([] : (List Am))))] : List An)) (f := An.enc) rfl) rfl rfl ?_
      obtain ⟨l, hl, hg⟩ := Ad hg
      refine Da (rd := [1, 43]) rfl rfl (E3 Vy An.enc_len .row rfl .row rfl hl rfl) rfl rfl ?_
      refine Ao ?_
      refine Al fun hU => ?_
      exact ⟨(y_5.2, l), hg, A9 [(0, 0), (1, 51), (2, 2)]⟩
     ·refine Ay ?_
      repeat first | refine Dg ?_ | refine Df ?_
      exact ⟨(d_1, l_1), hg, A9 [(0, 0), (1, 1), (2, 2)]⟩
   ·rintro ⟨d_3, l_3⟩ hg
    replace hg : A1.j3 y y_2 y_3 x25_1 e_2 d_3 l_3 = some o1 := hg
    show Cy _ _ _ _ (mk _ _ _)
    unfold A1.j3 at hg
    refine B7 (ι := List An) (fun (l_5 : List An) => mk [(0, .ptr 0 0), (5, .row 1), (6, .val (.bool (decide (0 < y.1)))), (7, .val (.bool (decide (y_2.1 = 0)))), (8, .val (.bool (decide (y_3.1 = 0)))), (9, .val (.int .i64 x25_1)), (10, .ptr 2 0), (23, .sl 9 (Av Aw.enc e.Endpoints)), (24, .val (.int .i64 (e.Endpoints.length : Int))), (25, .val (.int .i64 x25_1))] [(0, .box [.sl 1 (Av eI d_3.L), .val (.int .i64 d_3.At)] 81), (1, .row 44 8 (Av An.enc l_5)), (2, .box (Aw.dv e_2) 37)] 3) (fun (l_5 : List An) => A1.j5 y y_2 y_3 x25_1 e_2 d_3 l_5 = some o1) ?_ ?_
    ·refine B7 (ι := Bool) (fun (x48_4 : Bool) => mk [(0, .ptr 0 0), (5, .row 1), (6, .val (.bool (decide (0 < y.1)))), (7, .val (.bool (decide (y_2.1 = 0)))), (8, .val (.bool (decide (y_3.1 = 0)))), (9, .val (.int .i64 x25_1)), (10, .ptr 2 0), (23, .sl 9 (Av Aw.enc e.Endpoints)), (24, .val (.int .i64 (e.Endpoints.length : Int))), (25, .val (.int .i64 x25_1)), (48, .val (.bool x48_4))] [(0, .box [.sl 1 (Av eI d_3.L), .val (.int .i64 d_3.At)] 81), (1, .row 44 8 (Av An.enc l_3)), (2, .box (Aw.dv e_2) 37)] 3) (fun (x48_4 : Bool) => A1.j4 y y_2 y_3 x25_1 e_2 d_3 l_3 x48_4 = some o1) ?_ ?_
     ·refine Af (Cd _ _ []) 3 43 Bg rfl rfl ?_
      refine Ao ?_
      rcases E8 hg with ⟨h13, hg⟩ | ⟨h13, hg⟩
      ·refine Ao ?_
       refine Al fun hU => ?_
       exact ⟨decide (x25_1 = 0), hg, A9 [(0, 0), (1, 1), (2, 2)]⟩
      ·refine Ao ?_
       refine Al fun hU => ?_
       exact ⟨false, hg, A9 [(0, 0), (1, 1), (2, 2)]⟩
     ·rintro x48_4 hg
      replace hg : A1.j4 y y_2 y_3 x25_1 e_2 d_3 l_3 x48_4 = some o1 := hg
      show Cy _ _ _ _ (mk _ _ _)
      unfold A1.j4 at hg
      refine D1 rfl hg (fun h16 hg => ?_) fun h16 hg => ?_
      ·refine Af (Cd _ _ []) 3 51 Bg rfl rfl ?_
       refine Ao ?_
       refine Cl rfl rfl (.build (r := [.val (.int .i64 x25_1), .val (.int .i64 7), .val (.int .i64 2), .val (.int .i64 0), .val (.int .i64 0), .val (.int .i64 0), .val (.int .i64 0), .val (.slice none 0 0)]) Q7 aU eZ (by kernel_rfl) rfl) rfl rfl ?_
       refine Cl rfl rfl (Bc Vy eZ (by decide) rfl rfl rfl rfl dK (cs := [.int .i64 x25_1, .int .i64 7, .int .i64 2, .int .i64 0, .int .i64 0, .int .i64 0, .int .i64 0, .sl 15 (Av Am.enc [])]) (.cons .int (.cons .int (.cons .int (.cons .int (.cons .int (.cons .int (.cons .int (.cons .nil .nil)))))))) rfl (l := ([(An.mk x25_1 7 2 0 (Bq.mk (Az.mk 0 0) 0 ([] : (List Am))))] : List An)) (f := An.enc) rfl) rfl rfl ?_
       obtain ⟨l_2, hl_2, hg⟩ := Ad hg
       refine Da (rd := [1, 27]) rfl rfl (E3 Vy An.enc_len .row rfl .row rfl hl_2 rfl) rfl rfl ?_
       refine Ao ?_
       refine Al fun hU => ?_
       exact ⟨l_2, hg, A9 [(0, 0), (1, 35), (2, 2)]⟩
      ·refine Ay ?_
       repeat first | refine Dg ?_ | refine Df ?_
       exact ⟨l_3, hg, A9 [(0, 0), (1, 1), (2, 2)]⟩
    ·rintro l_5 hg
     replace hg : A1.j5 y y_2 y_3 x25_1 e_2 d_3 l_5 = some o1 := hg
     show Cy _ _ _ _ (mk _ _ _)
     unfold A1.j5 at hg
     refine B7 (ι := Ac × List An) (fun ((d_7, l_7) : Ac × List An) => mk [(0, .ptr 0 0), (5, .row 1), (6, .val (.bool (decide (0 < y.1)))), (7, .val (.bool (decide (y_2.1 = 0)))), (8, .val (.bool (decide (y_3.1 = 0)))), (9, .val (.int .i64 x25_1)), (10, .ptr 2 0), (23, .sl 9 (Av Aw.enc e.Endpoints)), (24, .val (.int .i64 (e.Endpoints.length : Int))), (25, .val (.int .i64 x25_1))] [(0, .box [.sl 1 (Av eI d_7.L), .val (.int .i64 d_7.At)] 81), (1, .row 44 8 (Av An.enc l_7)), (2, .box (Aw.dv e_2) 37)] 3) (fun ((d_7, l_7) : Ac × List An) => A1.j7 y y_3 x25_1 e_2 d_7 l_7 = some o1) ?_ ?_
     ·refine B7 (ι := Bool) (fun (x58_6 : Bool) => mk [(0, .ptr 0 0), (5, .row 1), (6, .val (.bool (decide (0 < y.1)))), (7, .val (.bool (decide (y_2.1 = 0)))), (8, .val (.bool (decide (y_3.1 = 0)))), (9, .val (.int .i64 x25_1)), (10, .ptr 2 0), (23, .sl 9 (Av Aw.enc e.Endpoints)), (24, .val (.int .i64 (e.Endpoints.length : Int))), (25, .val (.int .i64 x25_1)), (58, .val (.bool x58_6))] [(0, .box [.sl 1 (Av eI d_3.L), .val (.int .i64 d_3.At)] 81), (1, .row 44 8 (Av An.enc l_5)), (2, .box (Aw.dv e_2) 37)] 3) (fun (x58_6 : Bool) => A1.j6 y y_3 x25_1 e_2 d_3 l_5 x58_6 = some o1) ?_ ?_
      ·refine Af (Cd _ _ []) 3 43 Bg rfl rfl ?_
       refine Ao ?_
       rcases E8 hg with ⟨h18, hg⟩ | ⟨h18, hg⟩
       ·refine Ao ?_
        refine Al fun hU => ?_
        exact ⟨decide (x25_1 = 1), hg, A9 [(0, 0), (1, 1), (2, 2)]⟩
       ·refine Ao ?_
        refine Al fun hU => ?_
        exact ⟨false, hg, A9 [(0, 0), (1, 1), (2, 2)]⟩
      ·rintro x58_6 hg
       replace hg : A1.j6 y y_3 x25_1 e_2 d_3 l_5 x58_6 = some o1 := hg
       show Cy _ _ _ _ (mk _ _ _)
       unfold A1.j6 at hg
       refine D1 rfl hg (fun h21 hg => ?_) fun h21 hg => ?_
       ·refine Ck (Cd _ _ [51]) (by kernel_rfl) [0, 0, 0, 4, 0, 0, 0, 112, 252, 0, 512, 1536, 4094, 8190, 16383, 32767] 3 131 Bg rfl rfl (by kernel_rfl) ?_
        refine Ao ?_
        obtain ⟨y_6, hy_6, hg⟩ := Ad hg
        refine E4 (gR _ hy_6) ?_
        refine Ao ?_
        refine Wn (rd := []) rfl rfl (Bc G1 z3 (by decide) rfl rfl rfl rfl Mn (cs := [.int .i64 2, .int .i64 1]) (.cons .int (.cons .int .nil)) rfl (l := ([2, 1] : List Int)) (f := eI) rfl) rfl rfl rfl ?_
        obtain ⟨y_7, hy_7, hg⟩ := Ad hg
        refine K0 [0] [0] [] false (K2 _ _ _ hy_7) ?_
        obtain ⟨y_8, hy_8, hg⟩ := Ad hg
        refine E4 (Vm _ _ _ _ _ _ hy_8) ?_
        refine Ao ?_
        refine Cl rfl rfl (.build (r := [.val (.int .i64 x25_1), .val (.int .i64 5), .val (.int .i64 0), .val (.int .i64 (e_2.Identities.length : Int)), .val (.int .i64 y_8.Key.Alg), .val (.int .i64 y_8.Key.Bits), .val (.int .i64 y_8.KeyId), .sl 15 (Av Am.enc y_8.Chain)]) Q7 aU eZ (by kernel_rfl) rfl) rfl rfl ?_
        refine Cl rfl rfl (Bc Vy eZ (by decide) rfl rfl rfl rfl dK (cs := [.int .i64 x25_1, .int .i64 5, .int .i64 0, .int .i64 (e_2.Identities.length : Int), .int .i64 y_8.Key.Alg, .int .i64 y_8.Key.Bits, .int .i64 y_8.KeyId, .sl 15 (Av Am.enc y_8.Chain)]) (.cons .int (.cons .int (.cons .int (.cons .int (.cons .int (.cons .int (.cons .int (.cons .sl .nil)))))))) rfl (l := ([(An.mk x25_1 5 0 (e_2.Identities.length : Int) y_8)] : List An)) (f := An.enc) rfl) rfl rfl ?_
        obtain ⟨l_4, hl_4, hg⟩ := Ad hg
        refine Da (rd := [1, 107]) rfl rfl (E3 Vy An.enc_len .row rfl .row rfl hl_4 rfl) rfl rfl ?_
        refine Ao ?_
        refine Al fun hU => ?_
        exact ⟨(y_7.2, l_4), hg, A9 [(0, 0), (1, 115), (2, 2)]⟩
       ·refine Ay ?_
        repeat first | refine Dg ?_ | refine Df ?_
        exact ⟨(d_3, l_5), hg, A9 [(0, 0), (1, 1), (2, 2)]⟩
     ·rintro ⟨d_7, l_7⟩ hg
      replace hg : A1.j7 y y_3 x25_1 e_2 d_7 l_7 = some o1 := hg
      show Cy _ _ _ _ (mk _ _ _)
      unfold A1.j7 at hg
      refine B7 (ι := Ac × List An) (fun ((d_9, l_9) : Ac × List An) => mk [(0, .ptr 0 0), (5, .row 1), (6, .val (.bool (decide (0 < y.1)))), (7, .val (.bool (decide (y_2.1 = 0)))), (8, .val (.bool (decide (y_3.1 = 0)))), (9, .val (.int .i64 x25_1)), (10, .ptr 2 0), (23, .sl 9 (Av Aw.enc e.Endpoints)), (24, .val (.int .i64 (e.Endpoints.length : Int))), (25, .val (.int .i64 x25_1))] [(0, .box [.sl 1 (Av eI d_9.L), .val (.int .i64 d_9.At)] 81), (1, .row 44 8 (Av An.enc l_9)), (2, .box (Aw.dv e_2) 37)] 3) (fun ((d_9, l_9) : Ac × List An) => A1.j9 y_3 x25_1 e_2 d_9 l_9 = some o1) ?_ ?_
      ·refine B7 (ι := Bool × Ac) (fun ((x84_8, d_8) : Bool × Ac) => mk [(0, .ptr 0 0), (5, .row 1), (6, .val (.bool (decide (0 < y.1)))), (7, .val (.bool (decide (y_2.1 = 0)))), (8, .val (.bool (decide (y_3.1 = 0)))), (9, .val (.int .i64 x25_1)), (10, .ptr 2 0), (23, .sl 9 (Av Aw.enc e.Endpoints)), (24, .val (.int .i64 (e.Endpoints.length : Int))), (25, .val (.int .i64 x25_1)), (84, .val (.bool x84_8))] [(0, .box [.sl 1 (Av eI d_8.L), .val (.int .i64 d_8.At)] 81), (1, .row 44 8 (Av An.enc l_7)), (2, .box (Aw.dv e_2) 37)] 3) (fun ((x84_8, d_8) : Bool × Ac) => A1.j8 y_3 x25_1 e_2 l_7 x84_8 d_8 = some o1) ?_ ?_
       ·refine Af (Cd _ _ []) 3 91 Bg rfl rfl ?_
        refine Ao ?_
        rcases E8 hg with ⟨h23, hg⟩ | ⟨h23, hg⟩
        ·refine Ao ?_
         obtain ⟨y_9, hy_9, hg⟩ := Ad hg
         refine E4 (Xp _ _ _ hy_9) ?_
         refine Ao ?_
         rcases E8 hg with ⟨h24, hg⟩ | ⟨h24, hg⟩
         ·refine Ao ?_
          obtain ⟨y_10, hy_10, hg⟩ := Ad hg
          refine K0 [0] [0] [] false (Dl _ _ _ hy_10) ?_
          refine Ao ?_
          refine Al fun hU => ?_
          exact ⟨(decide (0 < y_10.1), y_10.2), hg, A9 [(0, 0), (1, 1), (2, 2)]⟩
         ·refine Ao ?_
          refine Al fun hU => ?_
          exact ⟨(false, d_7), hg, A9 [(0, 0), (1, 1), (2, 2)]⟩
        ·refine Ao ?_
         refine Al fun hU => ?_
         exact ⟨(false, d_7), hg, A9 [(0, 0), (1, 1), (2, 2)]⟩
       ·rintro ⟨x84_8, d_8⟩ hg
        replace hg : A1.j8 y_3 x25_1 e_2 l_7 x84_8 d_8 = some o1 := hg
        show Cy _ _ _ _ (mk _ _ _)
        unfold A1.j8 at hg
        refine D1 rfl hg (fun h28 hg => ?_) fun h28 hg => ?_
        ·refine Af (Cd _ _ []) 3 51 Bg rfl rfl ?_
         refine Ao ?_
         refine Cl rfl rfl (.build (r := [.val (.int .i64 x25_1), .val (.int .i64 2), .val (.int .i64 2), .val (.int .i64 0), .val (.int .i64 0), .val (.int .i64 0), .val (.int .i64 0), .val (.slice none 0 0)]) Q7 aU eZ (by kernel_rfl) rfl) rfl rfl ?_
         refine Cl rfl rfl (Bc Vy eZ (by decide) rfl rfl rfl rfl dK (cs := [.int .i64 x25_1, .int .i64 2, .int .i64 2, .int .i64 0, .int .i64 0, .int .i64 0, .int .i64 0, .sl 15 (Av Am.enc [])]) (.cons .int (.cons .int (.cons .int (.cons .int (.cons .int (.cons .int (.cons .int (.cons .nil .nil)))))))) rfl (l := ([(An.mk x25_1 2 2 0 (Bq.mk (Az.mk 0 0) 0 ([] : (List Am))))] : List An)) (f := An.enc) rfl) rfl rfl ?_
         obtain ⟨l_6, hl_6, hg⟩ := Ad hg
         refine Da (rd := [1, 27]) rfl rfl (E3 Vy An.enc_len .row rfl .row rfl hl_6 rfl) rfl rfl ?_
         refine Ao ?_
         refine Al fun hU => ?_
         exact ⟨(d_8, l_6), hg, A9 [(0, 0), (1, 35), (2, 2)]⟩
        ·refine Ay ?_
         repeat first | refine Dg ?_ | refine Df ?_
         exact ⟨(d_8, l_7), hg, A9 [(0, 0), (1, 1), (2, 2)]⟩
      ·rintro ⟨d_9, l_9⟩ hg
       replace hg : A1.j9 y_3 x25_1 e_2 d_9 l_9 = some o1 := hg
       show Cy _ _ _ _ (mk _ _ _)
       unfold A1.j9 at hg
       refine B7 (ι := Bool) (fun (x95_10 : Bool) => mk [(0, .ptr 0 0), (5, .row 1), (6, .val (.bool (decide (0 < y.1)))), (7, .val (.bool (decide (y_2.1 = 0)))), (8, .val (.bool (decide (y_3.1 = 0)))), (9, .val (.int .i64 x25_1)), (23, .sl 9 (Av Aw.enc e.Endpoints)), (24, .val (.int .i64 (e.Endpoints.length : Int))), (25, .val (.int .i64 x25_1)), (95, .val (.bool x95_10))] [(0, .box [.sl 1 (Av eI d_9.L), .val (.int .i64 d_9.At)] 81), (1, .row 44 8 (Av An.enc l_9))] 2) (fun (x95_10 : Bool) => A1.j10 x25_1 d_9 l_9 x95_10 = some o1) ?_ ?_
       ·refine Af (Cd _ _ []) 3 51 Bg rfl rfl ?_
        refine Ao ?_
        rcases E8 hg with ⟨h30, hg⟩ | ⟨h30, hg⟩
        ·refine Ao ?_
         refine Al fun hU => ?_
         exact ⟨decide (e_2.Most < 4), hg, A9 [(0, 0), (1, 1)]⟩
        ·refine Ao ?_
         refine Al fun hU => ?_
         exact ⟨false, hg, A9 [(0, 0), (1, 1)]⟩
       ·rintro x95_10 hg
        replace hg : A1.j10 x25_1 d_9 l_9 x95_10 = some o1 := hg
        show Cy _ _ _ _ (mk _ _ _)
        unfold A1.j10 at hg
        refine D1 rfl hg (fun h33 hg => ?_) fun h33 hg => ?_
        ·refine Af (Cd _ _ []) 2 66 Bg rfl rfl ?_
         refine Ao ?_
         refine Cl rfl rfl (.build (r := [.val (.int .i64 x25_1), .val (.int .i64 3), .val (.int .i64 4), .val (.int .i64 0), .val (.int .i64 0), .val (.int .i64 0), .val (.int .i64 0), .val (.slice none 0 0)]) Q7 aU eZ (by kernel_rfl) rfl) rfl rfl ?_
         refine Ao ?_
         refine Cl rfl rfl (.build (r := [.val (.int .i64 x25_1), .val (.int .i64 1), .val (.int .i64 14), .val (.int .i64 0), .val (.int .i64 0), .val (.int .i64 0), .val (.int .i64 0), .val (.slice none 0 0)]) Q7 aU eZ (by kernel_rfl) rfl) rfl rfl ?_
         refine Cl rfl rfl (Bc Vy eZ (by decide) rfl rfl rfl rfl dK (cs := [.int .i64 x25_1, .int .i64 3, .int .i64 4, .int .i64 0, .int .i64 0, .int .i64 0, .int .i64 0, .sl 15 (Av Am.enc []), .int .i64 x25_1, .int .i64 1, .int .i64 14, .int .i64 0, .int .i64 0, .int .i64 0, .int .i64 0, .sl 15 (Av Am.enc [])]) (.cons .int (.cons .int (.cons .int (.cons .int (.cons .int (.cons .int (.cons .int (.cons .nil (.cons .int (.cons .int (.cons .int (.cons .int (.cons .int (.cons .int (.cons .int (.cons .nil .nil)))))))))))))))) rfl (l := ([(An.mk x25_1 3 4 0 (Bq.mk (Az.mk 0 0) 0 ([] : (List Am)))), (An.mk x25_1 1 14 0 (Bq.mk (Az.mk 0 0) 0 ([] : (List Am))))] : List An)) (f := An.enc) rfl) rfl rfl ?_
         obtain ⟨l_8, hl_8, hg⟩ := Ad hg
         refine Da (rd := [1, 42]) rfl rfl (E3 Vy An.enc_len .row rfl .row rfl hl_8 rfl) rfl rfl ?_
         refine Ao ?_
         refine Al fun hU => ?_
         exact ⟨(d_9, l_8), hg, A9 [(0, 0), (1, 50)]⟩
        ·refine Ay ?_
         repeat first | refine Dg ?_ | refine Df ?_
         exact ⟨(d_9, l_9), hg, A9 [(0, 0), (1, 1)]⟩
  ·rintro ⟨d_11, l_11⟩ hg
   replace hg : A1.j11 x25_1 d_11 l_11 = some o1 := hg
   show Cy _ _ _ _ (mk _ _ _)
   unfold A1.j11 at hg
   refine Af (Cd _ _ []) 2 18 Bg rfl rfl ?_
   refine Ao ?_
   refine Al fun hU => ?_
   obtain rfl := oi_ hg
   exact ⟨((W (x25_1 + 1), d_11, l_11), m1), Nat.lt_succ_self _, hn1, A9 [(0, 0), (1, 1)]⟩
 ·refine B8 ?_
  repeat first | refine Dg ?_ | refine Df ?_
  replace hg := Cr hg hn1
  refine Aj ?_
  refine A3 ?_
  refine Ix (fun (l_12 : List An) => mk [(0, .ptr 0 0), (5, .row 1)] [(0, .box [.sl 1 (Av eI d_1.L), .val (.int .i64 d_1.At)] 81), (1, .row 44 8 (Av An.enc l_12))] 2) hg (A9 [(0, 0), (1, 1)]) ?_
  rintro l_12 m12 o12 hg hn12
  replace hg : A1.l12 d_1 l_12 = some o12 := hg
  show Cy _ _ _ _ (mk _ _ _)
  unfold A1.l12 at hg
  refine Aj ?_
  refine Bu 2 26 Bg ?_
  refine Ao ?_
  refine Al fun hU => ?_
  refine D1 rfl hg (fun h37 hg => ?_) fun h37 hg => ?_
  ·refine Ay ?_
   repeat first | refine Dg ?_ | refine Df ?_
   refine A3 ?_
   refine Af (Cd _ _ []) 26 74 hU rfl rfl ?_
   refine Ao ?_
   obtain ⟨l_10, hl_10, hg⟩ := Ad hg
   refine Da (rd := [1]) rfl rfl (Up Vy An.enc_len hl_10) rfl rfl ?_
   refine Ao ?_
   refine Al fun hU => ?_
   obtain rfl := oi_ hg
   exact ⟨((l_12.take ((W ((l_12.length : Int) - 1) : Int).toNat - (0 : Int).toNat)), m12), Nat.lt_succ_self _, hn12, (Nx.trans (b := mk [(0, .ptr 0 0), (5, .part 1 (((0 : Int).toNat) * 8) ((W ((l_12.length : Int) - 1) : Int).toNat - (0 : Int).toNat))] [(0, .box [.sl 1 (Av eI d_1.L), .val (.int .i64 d_1.At)] 81), (1, .row 44 8 (Av An.enc l_12))] 2) (A9 [(0, 0), (1, 1)]) ((Nx.trans (b := mk [(0, .ptr 0 0), (5, .row 1)] [(0, .box [.sl 1 (Av eI d_1.L), .val (.int .i64 d_1.At)] 81), (1, .row 44 8 (Av An.enc (l_12.take ((W ((l_12.length : Int) - 1) : Int).toNat - (0 : Int).toNat))))] 2) (vE 5 1 An.enc_len (Nat.le_trans (Nat.le_add_left _ _) (jQ hl_10)) rfl rfl rfl rfl) (A9 [(0, 0), (1, 1)]))))⟩
  ·refine B8 ?_
   repeat first | refine Dg ?_ | refine Df ?_
   replace hg := Cr hg hn12
   refine Aj ?_
   refine Bu 26 50 hU ?_
   refine Ao ?_
   obtain ⟨y_11, hy_11, hg⟩ := Ad hg
   refine K0 [0] [0] [] false (Dl _ _ _ hy_11) ?_
   refine Ao ?_
   refine Al fun hU => ?_
   refine A3 ?_
   refine Ix (fun ((k_14, d_14, l_14) : Int × Ac × List An) => mk [(0, .ptr 0 0), (5, .row 1), (11, .val (.int .i64 k_14))] [(0, .box [.sl 1 (Av eI d_14.L), .val (.int .i64 d_14.At)] 81), (1, .row 44 8 (Av An.enc l_14))] 2) hg (A9 [(0, 0), (1, 1)]) ?_
   rintro ⟨k_14, d_14, l_14⟩ m14 o14 hg hn14
   replace hg : A1.l14 k_14 d_14 l_14 = some o14 := hg
   show Cy _ _ _ _ (mk _ _ _)
   unfold A1.l14 at hg
   refine Aj ?_
   refine B7 (ι := Bool) (fun (x120_15 : Bool) => mk [(0, .ptr 0 0), (5, .row 1), (11, .val (.int .i64 k_14)), (120, .val (.bool x120_15))] [(0, .box [.sl 1 (Av eI d_14.L), .val (.int .i64 d_14.At)] 81), (1, .row 44 8 (Av An.enc l_14))] 2) (fun (x120_15 : Bool) => A1.j15 k_14 d_14 l_14 x120_15 = some o14) ?_ ?_
   ·refine Af (Cd _ _ []) 2 58 Bg rfl rfl ?_
    refine Ao ?_
    rcases E8 hg with ⟨h40, hg⟩ | ⟨h40, hg⟩
    ·refine Ao ?_
     refine Al fun hU => ?_
     exact ⟨decide (1 < (l_14.length : Int)), hg, A9 [(0, 0), (1, 1)]⟩
    ·refine Ao ?_
     refine Al fun hU => ?_
     exact ⟨false, hg, A9 [(0, 0), (1, 1)]⟩
   ·rintro x120_15 hg
    replace hg : A1.j15 k_14 d_14 l_14 x120_15 = some o14 := hg
    show Cy _ _ _ _ (mk _ _ _)
    unfold A1.j15 at hg
    refine D1 rfl hg (fun h43 hg => ?_) fun h43 hg => ?_
    ·refine Ay ?_
     repeat first | refine Dg ?_ | refine Df ?_
     refine Aj ?_
     refine A3 ?_
     refine Bu 2 50 Bg ?_
     refine Ao ?_
     obtain ⟨y_12, hy_12, hg⟩ := Ad hg
     refine K0 [0] [0] [] false (Dl _ _ _ hy_12) ?_
     refine Ao ?_
     refine Al fun hU => ?_
     refine Ck (Cd _ _ []) (by kernel_rfl) [0, 0, 0, 0, 8, 0, 0, 64, 224, 480, 0, 0, 3072, 7168, 16355, 32739, 65535, 131071] 50 194 hU rfl rfl (by kernel_rfl) ?_
     refine Ao ?_
     obtain ⟨e_3, he_3, hg⟩ := Ad hg
     refine Ao ?_
     refine Da (rd := [1]) rfl rfl (Ci V9 (Bh An.enc_len (Aq he_3) (o := 0) (m := 8) (cs := [.int .i64 e_3.Endpoint, .int .i64 e_3.Kind, .int .i64 e_3.Number, .int .i64 e_3.At, .int .i64 e_3.Identity.Key.Alg, .int .i64 e_3.Identity.Key.Bits, .int .i64 e_3.Identity.KeyId, .sl 15 (Av Am.enc e_3.Identity.Chain)]) rfl (by decide) rfl) (Ax An.enc_len (Aq he_3) (o := 0) (m := 8) (by decide) rfl)) rfl rfl ?_
     refine Ao ?_
     obtain ⟨e_4, he_4, hg⟩ := Ad hg
     refine Ao ?_
     refine Da (rd := [1]) rfl rfl (Ci V9 (Bh An.enc_len (Aq he_4) (o := 0) (m := 8) (cs := [.int .i64 e_4.Endpoint, .int .i64 e_4.Kind, .int .i64 e_4.Number, .int .i64 e_4.At, .int .i64 e_4.Identity.Key.Alg, .int .i64 e_4.Identity.Key.Bits, .int .i64 e_4.Identity.KeyId, .sl 15 (Av Am.enc e_4.Identity.Chain)]) rfl (by decide) rfl) (Ax An.enc_len (Aq he_4) (o := 0) (m := 8) (by decide) rfl)) rfl rfl ?_
     refine Ao ?_
     refine Da (rd := [1]) rfl rfl (D9 V9 rfl (Ax An.enc_len (Aq he_4) (o := 0) (m := 8) (by decide) rfl) dK (cs' := [.int .i64 e_3.Endpoint, .int .i64 e_3.Kind, .int .i64 e_3.Number, .int .i64 e_3.At, .int .i64 e_3.Identity.Key.Alg, .int .i64 e_3.Identity.Key.Bits, .int .i64 e_3.Identity.KeyId, .sl 15 (Av Am.enc e_3.Identity.Chain)]) (.cons .int (.cons .int (.cons .int (.cons .int (.cons .int (.cons .int (.cons .int (.cons .sl .nil)))))))) (Dm An.enc_len (Aq he_4) (o := 0) (x' := e_3) (Nat.le_of_ble_eq_true rfl) rfl rfl)) rfl rfl ?_
     obtain ⟨e_5, he_5, hg⟩ := Ad hg
     refine Ao ?_
     refine Da (rd := [1]) rfl rfl (D9 V9 rfl (Ax An.enc_len (Aq he_5) (o := 0) (m := 8) (by decide) rfl) dK (cs' := [.int .i64 e_4.Endpoint, .int .i64 e_4.Kind, .int .i64 e_4.Number, .int .i64 e_4.At, .int .i64 e_4.Identity.Key.Alg, .int .i64 e_4.Identity.Key.Bits, .int .i64 e_4.Identity.KeyId, .sl 15 (Av Am.enc e_4.Identity.Chain)]) (.cons .int (.cons .int (.cons .int (.cons .int (.cons .int (.cons .int (.cons .int (.cons .sl .nil)))))))) (Dm An.enc_len (Aq he_5) (o := 0) (x' := e_4) (Nat.le_of_ble_eq_true rfl) rfl rfl)) rfl rfl ?_
     refine Al fun hU => ?_
     refine Af (Cd _ _ []) 194 218 hU rfl rfl ?_
     refine Ao ?_
     refine Al fun hU => ?_
     obtain rfl := oi_ hg
     exact ⟨((W (k_14 - 1), y_12.2, De (De l_14 ((y_12.1).toNat) e_3) ((W (y_12.1 + 1)).toNat) e_4), m14), Nat.lt_succ_self _, hn14, A9 [(0, 0), (1, 1)]⟩
    ·refine B8 ?_
     repeat first | refine Dg ?_ | refine Df ?_
     replace hg := Cr hg hn14
     refine Bu 2 18 Bg ?_
     refine Ao ?_
     refine Al fun hU => ?_
     refine Bv ?_
     obtain rfl := oi_ hg
     exact Bt [(0, 0), (1, 1)] ⟨rfl, rfl⟩
end Go.Proofs.YtkpcbnnlefcebaaGreat
