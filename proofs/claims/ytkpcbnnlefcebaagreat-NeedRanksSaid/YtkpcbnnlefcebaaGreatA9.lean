import Derived.Test.YtkpcbnnlefcebaaGreatT1
import Derived.Test.YtkpcbnnlefcebaaGreatA1
import Derived.Test.YtkpcbnnlefcebaaGreatA3
import Derived.Test.YtkpcbnnlefcebaaGreatA5
import Derived.Test.YtkpcbnnlefcebaaGreatA8
set_option linter.unusedVariables false
set_option linter.unusedSimpArgs false
set_option maxRecDepth 100000
set_option maxHeartbeats 1600000
namespace Go.Proofs.YtkpcbnnlefcebaaGreat
open Go.RowKit
theorem Uf (r' : Ae) (c0 : Int) (r : Bool) (hg : Fh r' c0 = some r) : Fn Tryz.prog 44 0 [.agg [.val (.int .i64 r'.First), .val (.int .i64 r'.Then)], .elt (([.int .i64 c0] : List C).drop 0)] [] (fun d' b' => d' = .val (.bool r) /\ b' = []) := by
 unfold Fh at hg
 refine Fn.of Tryz.func44 rfl rfl rfl fun w0 I ρ0 => ?_
 show Cy _ ⟨w0, I, ρ0, 0, 0, 31⟩ _ _ _
 refine Bu 0 16 Bg ?_
 refine Ao ?_
 refine Al fun hU => ?_
 refine Bu 16 240 hU ?_
 refine Ao ?_
 rcases E8 hg with ⟨h2, hg⟩ | ⟨h2, hg⟩
 ·refine Ao ?_
  refine Al fun hU => ?_
  refine Bv ?_
  obtain rfl := oi_ hg
  exact Bt [] ⟨rfl, rfl⟩
 ·refine Ao ?_
  refine Cl (Cj rfl rfl h2) rfl (Cz Nw (c := .int .i64 c0) rfl) rfl rfl ?_
  refine Ao ?_
  rcases E8 hg with ⟨h4, hg⟩ | ⟨h4, hg⟩
  ·refine Ao ?_
   refine Al fun hU => ?_
   refine Bv ?_
   obtain rfl := oi_ hg
   exact Bt [] ⟨rfl, rfl⟩
  ·refine Ao ?_
   rcases E8 hg with ⟨h6, hg⟩ | ⟨h6, hg⟩
   ·refine Ao ?_
    refine Al fun hU => ?_
    refine Bv ?_
    obtain rfl := oi_ hg
    exact Bt [] ⟨rfl, rfl⟩
   ·refine Ao ?_
    refine Cl (Cj rfl rfl h6) rfl (Cz Nw (c := .int .i64 c0) rfl) rfl rfl ?_
    refine Ao ?_
    rcases E8 hg with ⟨h8, hg⟩ | ⟨h8, hg⟩
    ·refine Ao ?_
     refine Al fun hU => ?_
     refine Bv ?_
     obtain rfl := oi_ hg
     exact Bt [] ⟨rfl, rfl⟩
    ·refine Ao ?_
     refine Al fun hU => ?_
     refine Bv ?_
     obtain rfl := oi_ hg
     exact Bt [] ⟨rfl, rfl⟩
theorem H7 (s : (List Ae)) (f : Ae -> Option (Bool)) (f_c0 : Int) (hf_f : ∀ (x0 : Ae) (y : Bool), f x0 = some y -> Fn Tryz.prog 44 0 [.agg [.val (.int .i64 x0.First), .val (.int .i64 x0.Then)], .elt (([.int .i64 f_c0] : List C).drop 0)] [] (fun d' b' => d' = .val (.bool y) /\ b' = [])) (r : Int) (hg : B2 s f = some r) : Fn Tryz.prog 71 0 [.sl 2 (Av Ae.enc s), .clo 44 0 [.elt (([.int .i64 f_c0] : List C).drop 0)]] [] (fun d' b' => d' = .val (.int .i64 r) /\ b' = []) := by
 unfold B2 at hg
 refine Fn.of Tryz.func71 rfl rfl rfl fun w0 I ρ0 => ?_
 show Cy _ ⟨w0, I, ρ0, 0, 0, 19⟩ _ _ _
 refine Bu 0 8 Bg ?_
 refine Ao ?_
 refine Al fun hU => ?_
 refine Aj ?_
 refine Bu 8 32 hU ?_
 refine Ao ?_
 refine Al fun hU => ?_
 refine A3 ?_
 refine Ix (fun (x8_1 : Int) => mk [(0, .sl 2 (Av Ae.enc s)), (1, .clo 44 0 [.elt (([.int .i64 f_c0] : List C).drop 0)]), (7, .val (.int .i64 (s.length : Int))), (8, .val (.int .i64 x8_1))] [] 0) hg (A9 []) ?_
 rintro x8_1 m1 o1 hg hn1
 replace hg : B2.l1 s f x8_1 = some o1 := hg
 show Cy _ _ _ _ (mk _ _ _)
 unfold B2.l1 at hg
 refine Bu 0 8 Bg ?_
 refine Ao ?_
 refine Al fun hU => ?_
 refine Aj ?_
 refine D1 rfl hg (fun h4 hg => ?_) fun h4 hg => ?_
 ·refine Ay ?_
  repeat first | refine Dg ?_ | refine Df ?_
  refine Aj ?_
  refine A3 ?_
  refine Bu 8 24 hU ?_
  refine Ao ?_
  refine Al fun hU => ?_
  refine Bu 24 72 hU ?_
  refine Ao ?_
  obtain ⟨e, he, hg⟩ := Ad hg
  refine Ao ?_
  refine Cl rfl rfl (D4 bH (Bh Ae.enc_len (Aq he) (o := 0) (m := 2) (cs := [.int .i64 e.First, .int .i64 e.Then]) rfl (by decide) rfl) (Ax Ae.enc_len (Aq he) (o := 0) (m := 2) (by decide) rfl)) rfl rfl ?_
  obtain ⟨y, hy, hg⟩ := Ad hg
  refine Fg (rd := []) (ps := []) (gs := []) false rfl rfl (hf_f e _ hy) rfl rfl (.cons (.agg (.cons .val (.cons .val .nil))) (.cons .elt .nil)) rfl rfl (by intro h; cases h) rfl rfl rfl rfl ?_
  refine Al fun hU => ?_
  refine D1 rfl hg (fun h7 hg => ?_) fun h7 hg => ?_
  ·refine Aj ?_
   refine Af (Cd _ _ []) 72 88 hU rfl rfl ?_
   refine Ao ?_
   refine Al fun hU => ?_
   refine Bv ?_
   replace hg := Cr hg hn1
   obtain rfl := oi_ hg
   exact Bt [] ⟨rfl, rfl⟩
  ·refine Ay ?_
   repeat first | refine Dg ?_ | refine Df ?_
   refine Af (Cd _ _ []) 72 88 hU rfl rfl ?_
   refine Ao ?_
   refine Al fun hU => ?_
   obtain rfl := oi_ hg
   exact ⟨(W (x8_1 + 1), m1), Nat.lt_succ_self _, hn1, A9 []⟩
 ·refine B8 ?_
  repeat first | refine Dg ?_ | refine Df ?_
  replace hg := Cr hg hn1
  refine Bu 8 16 hU ?_
  refine Ao ?_
  refine Al fun hU => ?_
  refine Bv ?_
  obtain rfl := oi_ hg
  exact Bt [] ⟨rfl, rfl⟩
theorem Hq (s : (List Ae)) (f : Ae -> Option (Bool)) (f_c0 : Int) (hf_f : ∀ (x0 : Ae) (y : Bool), f x0 = some y -> Fn Tryz.prog 44 0 [.agg [.val (.int .i64 x0.First), .val (.int .i64 x0.Then)], .elt (([.int .i64 f_c0] : List C).drop 0)] [] (fun d' b' => d' = .val (.bool y) /\ b' = [])) (r : Bool) (hg : Eg s f = some r) : Fn Tryz.prog 45 0 [.sl 2 (Av Ae.enc s), .clo 44 0 [.elt (([.int .i64 f_c0] : List C).drop 0)]] [] (fun d' b' => d' = .val (.bool r) /\ b' = []) := by
 unfold Eg at hg
 refine Fn.of Tryz.func45 rfl rfl rfl fun w0 I ρ0 => ?_
 show Cy _ ⟨w0, I, ρ0, 0, 0, 9⟩ _ _ _
 refine Bu 0 8 Bg ?_
 refine Ao ?_
 refine Al fun hU => ?_
 refine Bu 8 48 hU ?_
 refine Ao ?_
 obtain ⟨y, hy, hg⟩ := Ad hg
 refine E4 (H7 s f f_c0 hf_f _ hy) ?_
 refine Ao ?_
 refine Al fun hU => ?_
 refine Bv ?_
 obtain rfl := oi_ hg
 exact Bt [] ⟨rfl, rfl⟩
theorem Mp (s1 : (List Ae)) (s2 : (List Ae)) (r : Bool) (hg : C7 s1 s2 = some r) : Fn Tryz.prog 46 0 [.sl 2 (Av Ae.enc s1), .sl 2 (Av Ae.enc s2)] [] (fun d' b' => d' = .val (.bool r) /\ b' = []) := by
 unfold C7 at hg
 refine Fn.of Tryz.func46 rfl rfl rfl fun w0 I ρ0 => ?_
 show Cy _ ⟨w0, I, ρ0, 0, 0, 26⟩ _ _ _
 refine Bu 0 8 Bg ?_
 refine Ao ?_
 refine Al fun hU => ?_
 refine Aj ?_
 refine Bu 8 48 hU ?_
 refine Ao ?_
 refine Al fun hU => ?_
 refine D1 rfl hg (fun h3 hg => ?_) fun h3 hg => ?_
 ·refine Aj ?_
  refine Af (Cd _ _ []) 48 56 hU rfl rfl ?_
  refine Ao ?_
  refine Al fun hU => ?_
  refine Bv ?_
  obtain rfl := oi_ hg
  exact Bt [] ⟨rfl, rfl⟩
 ·refine Ay ?_
  repeat first | refine Dg ?_ | refine Df ?_
  refine Aj ?_
  refine Bu 48 72 hU ?_
  refine Ao ?_
  refine Al fun hU => ?_
  refine A3 ?_
  refine Ix (fun (x13_1 : Int) => mk [(0, .sl 2 (Av Ae.enc s1)), (1, .sl 2 (Av Ae.enc s2)), (12, .val (.int .i64 (s1.length : Int))), (13, .val (.int .i64 x13_1))] [] 0) hg (A9 []) ?_
  rintro x13_1 m1 o1 hg hn1
  replace hg : C7.l1 s1 s2 x13_1 = some o1 := hg
  show Cy _ _ _ _ (mk _ _ _)
  unfold C7.l1 at hg
  refine Bu 0 8 Bg ?_
  refine Ao ?_
  refine Al fun hU => ?_
  refine Aj ?_
  refine D1 rfl hg (fun h7 hg => ?_) fun h7 hg => ?_
  ·refine Ay ?_
   repeat first | refine Dg ?_ | refine Df ?_
   refine Aj ?_
   refine A3 ?_
   refine Bu 8 24 hU ?_
   refine Ao ?_
   refine Al fun hU => ?_
   refine Aj ?_
   refine Ck (Cd _ _ []) (by kernel_rfl) [0, 0, 3, 7, 0, 0, 48, 112, 255] 24 96 hU rfl rfl (by kernel_rfl) ?_
   refine Ao ?_
   obtain ⟨e, he, hg⟩ := Ad hg
   refine Ao ?_
   refine Cl rfl rfl (D4 bH (Bh Ae.enc_len (Aq he) (o := 0) (m := 2) (cs := [.int .i64 e.First, .int .i64 e.Then]) rfl (by decide) rfl) (Ax Ae.enc_len (Aq he) (o := 0) (m := 2) (by decide) rfl)) rfl rfl ?_
   refine Ao ?_
   obtain ⟨e_2, he_2, hg⟩ := Ad hg
   refine Ao ?_
   refine Cl rfl rfl (D4 bH (Bh Ae.enc_len (Aq he_2) (o := 0) (m := 2) (cs := [.int .i64 e_2.First, .int .i64 e_2.Then]) rfl (by decide) rfl) (Ax Ae.enc_len (Aq he_2) (o := 0) (m := 2) (by decide) rfl)) rfl rfl ?_
   refine Cl rfl rfl (dV e e_2) rfl rfl ?_
   refine Al fun hU => ?_
   refine D1 rfl hg (fun h10 hg => ?_) fun h10 hg => ?_
   ·refine Aj ?_
    refine Af (Cd _ _ []) 96 104 hU rfl rfl ?_
    refine Ao ?_
    refine Al fun hU => ?_
    refine Bv ?_
    replace hg := Cr hg hn1
    obtain rfl := oi_ hg
    exact Bt [] ⟨rfl, rfl⟩
   ·refine Ay ?_
    repeat first | refine Dg ?_ | refine Df ?_
    refine Af (Cd _ _ []) 96 112 hU rfl rfl ?_
    refine Ao ?_
    refine Al fun hU => ?_
    obtain rfl := oi_ hg
    exact ⟨(W (x13_1 + 1), m1), Nat.lt_succ_self _, hn1, A9 []⟩
  ·refine B8 ?_
   repeat first | refine Dg ?_ | refine Df ?_
   replace hg := Cr hg hn1
   refine Bu 8 16 hU ?_
   refine Ao ?_
   refine Al fun hU => ?_
   refine Bv ?_
   obtain rfl := oi_ hg
   exact Bt [] ⟨rfl, rfl⟩
theorem Z0 (n : Int) (l : (List Ae)) (r : (List (Ae × Bool))) (hg : B6 n l = some r) : Fn Tryz.prog 47 0 [.val (.int .i64 n), .sl 2 (Av Ae.enc l)] [] (fun d' b' => d' = .mp (Qz Ou vB r) /\ b' = []) := by
 unfold B6 at hg
 refine Fn.of Tryz.func47 rfl rfl rfl fun w0 I ρ0 => ?_
 show Cy _ ⟨w0, I, ρ0, 0, 0, 53⟩ _ _ _
 refine Bu 0 8 Bg ?_
 refine Ao ?_
 refine Al fun hU => ?_
 refine Bu 8 24 hU ?_
 refine Yh (rd := []) rfl rfl .makeMap rfl rfl (fun _ => ⟨_, rfl⟩) ?_
 rintro _ rfl
 refine Ao ?_
 refine Al fun hU => ?_
 refine Aj ?_
 refine Bu 24 48 hU ?_
 refine Ao ?_
 refine Al fun hU => ?_
 refine A3 ?_
 refine Ix (fun ((x14_1, ways_1) : Int × (List (Ae × Bool))) => mk [(0, .val (.int .i64 n)), (5, .row 0), (12, .sl 2 (Av Ae.enc l)), (13, .val (.int .i64 (l.length : Int))), (14, .val (.int .i64 x14_1))] [(0, .map (Qz Ou vB ways_1))] 1) hg ((by exact Nx.lists [(0, 8)] rfl rfl ⟨⟨_, rfl, .val _⟩, ⟨_, rfl, .row rfl⟩, ⟨_, rfl, .sl _ _⟩, ⟨_, rfl, .val _⟩, ⟨_, rfl, .val _⟩, trivial⟩ ⟨.inl ⟨8, _, rfl, rfl, rfl⟩, trivial⟩)) ?_
 rintro ⟨x14_1, ways_1⟩ m1 o1 hg hn1
 replace hg : B6.l1 n l x14_1 ways_1 = some o1 := hg
 show Cy _ _ _ _ (mk _ _ _)
 unfold B6.l1 at hg
 refine Bu 1 9 Bg ?_
 refine Ao ?_
 refine Al fun hU => ?_
 refine Aj ?_
 refine D1 rfl hg (fun h5 hg => ?_) fun h5 hg => ?_
 ·refine Ay ?_
  repeat first | refine Dg ?_ | refine Df ?_
  refine Aj ?_
  refine A3 ?_
  refine Bu 9 41 hU ?_
  obtain ⟨e, he, hg⟩ := Ad hg
  refine Ao ?_
  refine Cl rfl rfl (D4 bH (Bh Ae.enc_len (Aq he) (o := 0) (m := 2) (cs := [.int .i64 e.First, .int .i64 e.Then]) rfl (by decide) rfl) (Ax Ae.enc_len (Aq he) (o := 0) (m := 2) (by decide) rfl)) rfl rfl ?_
  refine Ao ?_
  refine Al fun hU => ?_
  refine Af (Cd _ _ []) 41 65 hU rfl rfl ?_
  refine Ao ?_
  refine Yh (rd := [0]) rfl rfl (aV (f := Ou) (g := vB) (l := ways_1) (key := e) (v := true) Sy Sz rfl rfl (.head _)) rfl rfl (fun _ => ⟨_, rfl⟩) ?_
  rintro _ rfl
  refine Al fun hU => ?_
  refine Af (Cd _ _ []) 65 81 hU rfl rfl ?_
  refine Ao ?_
  refine Al fun hU => ?_
  obtain rfl := oi_ hg
  exact ⟨((W (x14_1 + 1), Ir ways_1 e true), m1), Nat.lt_succ_self _, hn1, (by exact Nx.lists [(0, 0)] rfl rfl ⟨⟨_, rfl, .val _⟩, ⟨_, rfl, .row rfl⟩, ⟨_, rfl, .sl _ _⟩, ⟨_, rfl, .val _⟩, ⟨_, rfl, .val _⟩, trivial⟩ ⟨.inl ⟨0, _, rfl, rfl, rfl⟩, trivial⟩)⟩
 ·refine B8 ?_
  repeat first | refine Dg ?_ | refine Df ?_
  replace hg := Cr hg hn1
  refine Aj ?_
  refine Bu 9 25 hU ?_
  refine Ao ?_
  refine Al fun hU => ?_
  refine A3 ?_
  refine Ix (fun ((x22_2, ways_2) : Int × (List (Ae × Bool))) => mk [(0, .val (.int .i64 n)), (5, .row 0), (21, .val (.int .i64 n)), (22, .val (.int .i64 x22_2))] [(0, .map (Qz Ou vB ways_2))] 1) hg ((by exact Nx.lists [(0, 0)] rfl rfl ⟨⟨_, rfl, .val _⟩, ⟨_, rfl, .row rfl⟩, ⟨_, rfl, .val _⟩, ⟨_, rfl, .val _⟩, trivial⟩ ⟨.inl ⟨0, _, rfl, rfl, rfl⟩, trivial⟩)) ?_
  rintro ⟨x22_2, ways_2⟩ m2 o2 hg hn2
  replace hg : B6.l2 n x22_2 ways_2 = some o2 := hg
  show Cy _ _ _ _ (mk _ _ _)
  unfold B6.l2 at hg
  refine Bu 1 9 Bg ?_
  refine Ao ?_
  refine Al fun hU => ?_
  refine Aj ?_
  refine D1 rfl hg (fun h11 hg => ?_) fun h11 hg => ?_
  ·refine Ay ?_
   repeat first | refine Dg ?_ | refine Df ?_
   refine Aj ?_
   refine A3 ?_
   refine Bu 9 25 hU ?_
   refine Ao ?_
   refine Al fun hU => ?_
   refine Bu 25 41 hU ?_
   refine Ao ?_
   refine Al fun hU => ?_
   refine A3 ?_
   refine Ix (fun ((x26_3, ways_3) : Int × (List (Ae × Bool))) => mk [(0, .val (.int .i64 n)), (5, .row 0), (8, .val (.int .i64 x22_2)), (21, .val (.int .i64 n)), (22, .val (.int .i64 x22_2)), (25, .val (.int .i64 n)), (26, .val (.int .i64 x26_3))] [(0, .map (Qz Ou vB ways_3))] 1) hg ((by exact Nx.lists [(0, 0)] rfl rfl ⟨⟨_, rfl, .val _⟩, ⟨_, rfl, .row rfl⟩, ⟨_, rfl, .val _⟩, ⟨_, rfl, .val _⟩, ⟨_, rfl, .val _⟩, ⟨_, rfl, .val _⟩, ⟨_, rfl, .val _⟩, trivial⟩ ⟨.inl ⟨0, _, rfl, rfl, rfl⟩, trivial⟩)) ?_
   rintro ⟨x26_3, ways_3⟩ m3 o3 hg hn3
   replace hg : B6.l3 n x22_2 x26_3 ways_3 = some o3 := hg
   show Cy _ _ _ _ (mk _ _ _)
   unfold B6.l3 at hg
   refine Bu 1 9 Bg ?_
   refine Ao ?_
   refine Al fun hU => ?_
   refine Aj ?_
   refine D1 rfl hg (fun h15 hg => ?_) fun h15 hg => ?_
   ·refine Ay ?_
    repeat first | refine Dg ?_ | refine Df ?_
    refine Aj ?_
    refine A3 ?_
    refine Bu 9 25 hU ?_
    refine Ao ?_
    refine Al fun hU => ?_
    refine Bu 25 41 hU ?_
    refine Ao ?_
    refine Al fun hU => ?_
    refine A3 ?_
    refine Ix (fun ((x30_4, ways_4) : Int × (List (Ae × Bool))) => mk [(0, .val (.int .i64 n)), (5, .row 0), (8, .val (.int .i64 x22_2)), (9, .val (.int .i64 x26_3)), (21, .val (.int .i64 n)), (22, .val (.int .i64 x22_2)), (25, .val (.int .i64 n)), (26, .val (.int .i64 x26_3)), (29, .val (.int .i64 n)), (30, .val (.int .i64 x30_4))] [(0, .map (Qz Ou vB ways_4))] 1) hg ((by exact Nx.lists [(0, 0)] rfl rfl ⟨⟨_, rfl, .val _⟩, ⟨_, rfl, .row rfl⟩, ⟨_, rfl, .val _⟩, ⟨_, rfl, .val _⟩, ⟨_, rfl, .val _⟩, ⟨_, rfl, .val _⟩, ⟨_, rfl, .val _⟩, ⟨_, rfl, .val _⟩, ⟨_, rfl, .val _⟩, ⟨_, rfl, .val _⟩, trivial⟩ ⟨.inl ⟨0, _, rfl, rfl, rfl⟩, trivial⟩)) ?_
    rintro ⟨x30_4, ways_4⟩ m4 o4 hg hn4
    replace hg : B6.l4 n x22_2 x26_3 x30_4 ways_4 = some o4 := hg
    show Cy _ _ _ _ (mk _ _ _)
    unfold B6.l4 at hg
    refine Bu 1 9 Bg ?_
    refine Ao ?_
    refine Al fun hU => ?_
    refine Aj ?_
    refine D1 rfl hg (fun h19 hg => ?_) fun h19 hg => ?_
    ·refine Ay ?_
     repeat first | refine Dg ?_ | refine Df ?_
     refine B7 (ι := (List (Ae × Bool))) (fun (ways_6 : (List (Ae × Bool))) => mk [(0, .val (.int .i64 n)), (5, .row 0), (8, .val (.int .i64 x22_2)), (9, .val (.int .i64 x26_3)), (21, .val (.int .i64 n)), (22, .val (.int .i64 x22_2)), (25, .val (.int .i64 n)), (26, .val (.int .i64 x26_3)), (29, .val (.int .i64 n)), (30, .val (.int .i64 x30_4))] [(0, .map (Qz Ou vB ways_6))] 1) (fun (ways_6 : (List (Ae × Bool))) => B6.j6 x30_4 ways_6 = some o4) ?_ ?_
     ·refine A3 ?_
      refine Bu 9 25 hU ?_
      refine Ao ?_
      refine Al fun hU => ?_
      refine B7 (ι := Bool) (fun (x44_5 : Bool) => mk [(0, .val (.int .i64 n)), (5, .row 0), (8, .val (.int .i64 x22_2)), (9, .val (.int .i64 x26_3)), (10, .val (.int .i64 x30_4)), (21, .val (.int .i64 n)), (22, .val (.int .i64 x22_2)), (25, .val (.int .i64 n)), (26, .val (.int .i64 x26_3)), (29, .val (.int .i64 n)), (30, .val (.int .i64 x30_4)), (44, .val (.bool x44_5))] [(0, .map (Qz Ou vB ways_4))] 1) (fun (x44_5 : Bool) => B6.j5 x26_3 x30_4 ways_4 x44_5 = some o4) ?_ ?_
      ·refine Af (Cd _ _ []) 25 121 hU rfl rfl ?_
       refine Ao ?_
       refine Cl rfl rfl (.build (r := [.val (.int .i64 x26_3), .val (.int .i64 x22_2)]) Sh bX fZ (by kernel_rfl) rfl) rfl rfl ?_
       refine Yh (rd := [0]) rfl rfl (aL (f := Ou) (g := vB) (l := ways_4) (key := (Ae.mk x26_3 x22_2)) (z := false) Sy Sz wH rfl rfl (.head _)) rfl rfl (fun _ => ⟨_, rfl⟩) ?_
       rintro _ rfl
       refine Ao ?_
       rcases E8 hg with ⟨h21, hg⟩ | ⟨h21, hg⟩
       ·refine Ao ?_
        refine Cl (Cj rfl rfl h21) rfl (.build (r := [.val (.int .i64 x22_2), .val (.int .i64 x30_4)]) Sh bX fZ (by kernel_rfl) rfl) rfl rfl ?_
        refine Yh (rd := [0]) (Cj rfl rfl h21) rfl (aL (f := Ou) (g := vB) (l := ways_4) (key := (Ae.mk x22_2 x30_4)) (z := false) Sy Sz wH rfl rfl (.head _)) rfl rfl (fun _ => ⟨_, rfl⟩) ?_
        rintro _ rfl
        refine Ao ?_
        refine Al fun hU => ?_
        exact ⟨(F0 ways_4 (Ae.mk x22_2 x30_4) false), hg, (by exact Nx.lists [(0, 0)] rfl rfl ⟨⟨_, rfl, .val _⟩, ⟨_, rfl, .row rfl⟩, ⟨_, rfl, .val _⟩, ⟨_, rfl, .val _⟩, ⟨_, rfl, .val _⟩, ⟨_, rfl, .val _⟩, ⟨_, rfl, .val _⟩, ⟨_, rfl, .val _⟩, ⟨_, rfl, .val _⟩, ⟨_, rfl, .val _⟩, ⟨_, rfl, .val _⟩, ⟨_, rfl, .val _⟩, trivial⟩ ⟨.inl ⟨0, _, rfl, rfl, rfl⟩, trivial⟩)⟩
       ·refine Ao ?_
        refine Al fun hU => ?_
        exact ⟨false, hg, (by exact Nx.lists [(0, 0)] rfl rfl ⟨⟨_, rfl, .val _⟩, ⟨_, rfl, .row rfl⟩, ⟨_, rfl, .val _⟩, ⟨_, rfl, .val _⟩, ⟨_, rfl, .val _⟩, ⟨_, rfl, .val _⟩, ⟨_, rfl, .val _⟩, ⟨_, rfl, .val _⟩, ⟨_, rfl, .val _⟩, ⟨_, rfl, .val _⟩, ⟨_, rfl, .val _⟩, ⟨_, rfl, .val _⟩, trivial⟩ ⟨.inl ⟨0, _, rfl, rfl, rfl⟩, trivial⟩)⟩
      ·rintro x44_5 hg
       replace hg : B6.j5 x26_3 x30_4 ways_4 x44_5 = some o4 := hg
       show Cy _ _ _ _ (mk _ _ _)
       unfold B6.j5 at hg
       refine D1 rfl hg (fun h24 hg => ?_) fun h24 hg => ?_
       ·refine Af (Cd _ _ []) 1 41 Bg rfl rfl ?_
        refine Ao ?_
        refine Cl rfl rfl (.build (r := [.val (.int .i64 x26_3), .val (.int .i64 x30_4)]) Sh bX fZ (by kernel_rfl) rfl) rfl rfl ?_
        refine Yh (rd := [0]) rfl rfl (aV (f := Ou) (g := vB) (l := ways_4) (key := (Ae.mk x26_3 x30_4)) (v := true) Sy Sz rfl rfl (.head _)) rfl rfl (fun _ => ⟨_, rfl⟩) ?_
        rintro _ rfl
        refine Al fun hU => ?_
        exact ⟨Ir ways_4 (Ae.mk x26_3 x30_4) true, hg, (by exact Nx.lists [(0, 0)] rfl rfl ⟨⟨_, rfl, .val _⟩, ⟨_, rfl, .row rfl⟩, ⟨_, rfl, .val _⟩, ⟨_, rfl, .val _⟩, ⟨_, rfl, .val _⟩, ⟨_, rfl, .val _⟩, ⟨_, rfl, .val _⟩, ⟨_, rfl, .val _⟩, ⟨_, rfl, .val _⟩, ⟨_, rfl, .val _⟩, trivial⟩ ⟨.inl ⟨0, _, rfl, rfl, rfl⟩, trivial⟩)⟩
       ·refine Ay ?_
        repeat first | refine Dg ?_ | refine Df ?_
        exact ⟨ways_4, hg, (by exact Nx.lists [(0, 0)] rfl rfl ⟨⟨_, rfl, .val _⟩, ⟨_, rfl, .row rfl⟩, ⟨_, rfl, .val _⟩, ⟨_, rfl, .val _⟩, ⟨_, rfl, .val _⟩, ⟨_, rfl, .val _⟩, ⟨_, rfl, .val _⟩, ⟨_, rfl, .val _⟩, ⟨_, rfl, .val _⟩, ⟨_, rfl, .val _⟩, trivial⟩ ⟨.inl ⟨0, _, rfl, rfl, rfl⟩, trivial⟩)⟩
     ·rintro ways_6 hg
      replace hg : B6.j6 x30_4 ways_6 = some o4 := hg
      show Cy _ _ _ _ (mk _ _ _)
      unfold B6.j6 at hg
      refine Af (Cd _ _ []) 1 17 Bg rfl rfl ?_
      refine Ao ?_
      refine Al fun hU => ?_
      obtain rfl := oi_ hg
      exact ⟨((W (x30_4 + 1), ways_6), m4), Nat.lt_succ_self _, hn4, (by exact Nx.lists [(0, 0)] rfl rfl ⟨⟨_, rfl, .val _⟩, ⟨_, rfl, .row rfl⟩, ⟨_, rfl, .val _⟩, ⟨_, rfl, .val _⟩, ⟨_, rfl, .val _⟩, ⟨_, rfl, .val _⟩, ⟨_, rfl, .val _⟩, ⟨_, rfl, .val _⟩, ⟨_, rfl, .val _⟩, ⟨_, rfl, .val _⟩, trivial⟩ ⟨.inl ⟨0, _, rfl, rfl, rfl⟩, trivial⟩)⟩
    ·refine B8 ?_
     repeat first | refine Dg ?_ | refine Df ?_
     replace hg := Cr hg hn4
     refine Af (Cd _ _ []) 9 25 hU rfl rfl ?_
     refine Ao ?_
     refine Al fun hU => ?_
     obtain rfl := oi_ hg
     exact ⟨((W (x26_3 + 1), ways_4), m3), Nat.lt_succ_self _, hn3, (by exact Nx.lists [(0, 0)] rfl rfl ⟨⟨_, rfl, .val _⟩, ⟨_, rfl, .row rfl⟩, ⟨_, rfl, .val _⟩, ⟨_, rfl, .val _⟩, ⟨_, rfl, .val _⟩, ⟨_, rfl, .val _⟩, ⟨_, rfl, .val _⟩, trivial⟩ ⟨.inl ⟨0, _, rfl, rfl, rfl⟩, trivial⟩)⟩
   ·refine B8 ?_
    repeat first | refine Dg ?_ | refine Df ?_
    replace hg := Cr hg hn3
    refine Af (Cd _ _ []) 9 25 hU rfl rfl ?_
    refine Ao ?_
    refine Al fun hU => ?_
    obtain rfl := oi_ hg
    exact ⟨((W (x22_2 + 1), ways_3), m2), Nat.lt_succ_self _, hn2, (by exact Nx.lists [(0, 0)] rfl rfl ⟨⟨_, rfl, .val _⟩, ⟨_, rfl, .row rfl⟩, ⟨_, rfl, .val _⟩, ⟨_, rfl, .val _⟩, trivial⟩ ⟨.inl ⟨0, _, rfl, rfl, rfl⟩, trivial⟩)⟩
  ·refine B8 ?_
   repeat first | refine Dg ?_ | refine Df ?_
   replace hg := Cr hg hn2
   refine Bu 9 25 hU ?_
   refine Ao ?_
   refine Al fun hU => ?_
   refine Bv ?_
   obtain rfl := oi_ hg
   exact Bt [] ⟨rfl, rfl⟩
theorem Yg (n : Int) (l : (List Ae)) (r : (List Ae) × Int) (hg : B0 n l = some r) : Fn Tryz.prog 13 0 [.val (.int .i64 n), .sl 2 (Av Ae.enc l)] [] (fun d' b' => d' = .tup [.sl 2 (Av Ae.enc r.1), .val (.int .i64 r.2)] /\ b' = []) := by
 unfold B0 at hg
 refine Fn.of Tryz.func13 rfl rfl rfl fun w0 I ρ0 => ?_
 show Cy _ ⟨w0, I, ρ0, 0, 0, 81⟩ _ _ _
 refine Bu 0 24 Bg ?_
 refine Ao ?_
 refine Al fun hU => ?_
 refine Aj ?_
 refine H6 (σ' := mk [(1, .sl 2 (Av Ae.enc l)), (2, .elt (([.int .i64 n] : List C).drop 0))] [] 0) ((by exact Nx.lists [] rfl rfl ⟨⟨_, rfl, .sl _ _⟩, ⟨_, rfl, .frzb (ks := [none]) rfl (.cons .int .nil) (Ju rfl)⟩, trivial⟩ trivial)) ?_
 refine Af (Cd _ _ []) 0 16 Bg rfl rfl ?_
 refine Ao ?_
 refine Al fun hU => ?_
 refine Aj ?_
 refine A3 ?_
 refine B7 (ι := Bool) (fun (x15_2 : Bool) => mk [(1, .sl 2 (Av Ae.enc l)), (2, .elt (([.int .i64 n] : List C).drop 0)), (6, .clo 44 0 [.elt (([.int .i64 n] : List C).drop 0)]), (15, .val (.bool x15_2))] [] 0) (fun (x15_2 : Bool) => B0.j2 n l x15_2 = some r) ?_ ?_
 ·refine Af (Cd _ _ []) 16 72 hU rfl rfl ?_
  refine Cl rfl rfl (Cz Nw (c := .int .i64 n) rfl) rfl rfl ?_
  refine Ao ?_
  rcases E8 hg with ⟨h3, hg⟩ | ⟨h3, hg⟩
  ·refine Ao ?_
   refine Al fun hU => ?_
   exact ⟨true, hg, A9 []⟩
  ·refine Cl (Cj rfl rfl h3) rfl (Cz Nw (c := .int .i64 n) rfl) rfl rfl ?_
   refine Ao ?_
   refine Al fun hU => ?_
   exact ⟨decide (24 < n), hg, A9 []⟩
 ·rintro x15_2 hg
  replace hg : B0.j2 n l x15_2 = some r := hg
  show Cy _ _ _ _ (mk _ _ _)
  unfold B0.j2 at hg
  refine D1 rfl hg (fun h6 hg => ?_) fun h6 hg => ?_
  ·refine Aj ?_
   refine Af (Cd _ _ []) 0 16 Bg rfl rfl ?_
   refine Ao ?_
   refine Al fun hU => ?_
   refine Bv ?_
   obtain rfl := oi_ hg
   exact Bt [] ⟨rfl, rfl⟩
  ·refine Aj ?_
   refine Af (Cd _ _ []) 0 32 Bg rfl rfl ?_
   refine Ao ?_
   obtain ⟨y, hy, hg⟩ := Ad hg
   refine E4 (Hq l (fun x0 => Fh x0 n) n (fun x0 y h => Uf x0 n y h) _ hy) ?_
   refine Ao ?_
   refine Al fun hU => ?_
   refine D1 rfl hg (fun h9 hg => ?_) fun h9 hg => ?_
   ·refine Aj ?_
    refine Af (Cd _ _ []) 32 48 hU rfl rfl ?_
    refine Ao ?_
    refine Al fun hU => ?_
    refine Bv ?_
    obtain rfl := oi_ hg
    exact Bt [] ⟨rfl, rfl⟩
   ·refine Aj ?_
    refine Af (Cd _ _ []) 32 80 hU rfl rfl ?_
    refine Ao ?_
    obtain ⟨y_2, hy_2, hg⟩ := Ad hg
    refine E4 (Oe _ _ hy_2) ?_
    refine Ao ?_
    obtain ⟨y_3, hy_3, hg⟩ := Ad hg
    refine E4 (Mp _ _ _ hy_3) ?_
    refine Ao ?_
    refine Al fun hU => ?_
    refine D1 rfl hg (fun h12 hg => ?_) fun h12 hg => ?_
    ·refine Aj ?_
     refine Af (Cd _ _ []) 80 96 hU rfl rfl ?_
     refine Ao ?_
     refine Al fun hU => ?_
     refine Bv ?_
     obtain rfl := oi_ hg
     exact Bt [] ⟨rfl, rfl⟩
    ·refine Ay ?_
     repeat first | refine Dg ?_ | refine Df ?_
     refine Bu 80 112 hU ?_
     refine Cl rfl rfl (Cz Nw (c := .int .i64 n) rfl) rfl rfl ?_
     refine Ao ?_
     obtain ⟨y_4, hy_4, hg⟩ := Ad hg
     refine E4 (Z0 _ _ _ hy_4) ?_
     refine Ao ?_
     refine Al fun hU => ?_
     refine Aj ?_
     refine Bu 112 128 hU ?_
     refine Cl rfl rfl (Cz Nw (c := .int .i64 n) rfl) rfl rfl ?_
     refine Ao ?_
     refine Al fun hU => ?_
     refine A3 ?_
     refine Ix (fun (x36_3 : Int) => mk [(1, .sl 2 (Av Ae.enc l)), (2, .elt (([.int .i64 n] : List C).drop 0)), (7, .mp (Qz Ou vB y_4)), (35, .val (.int .i64 n)), (36, .val (.int .i64 x36_3))] [] 0) hg (A9 []) ?_
     rintro x36_3 m3 o3 hg hn3
     replace hg : B0.l3 n l y_4 x36_3 = some o3 := hg
     show Cy _ _ _ _ (mk _ _ _)
     unfold B0.l3 at hg
     refine Bu 0 8 Bg ?_
     refine Ao ?_
     refine Al fun hU => ?_
     refine Aj ?_
     refine D1 rfl hg (fun h17 hg => ?_) fun h17 hg => ?_
     ·refine Ay ?_
      repeat first | refine Dg ?_ | refine Df ?_
      refine Aj ?_
      refine A3 ?_
      refine Bu 8 24 hU ?_
      refine Ao ?_
      refine Al fun hU => ?_
      refine Bu 24 64 hU ?_
      refine Ao ?_
      refine Cl rfl rfl (.build (r := [.val (.int .i64 x36_3), .val (.int .i64 x36_3)]) Sh bX fZ (by kernel_rfl) rfl) rfl rfl ?_
      refine Yh (rd := []) rfl rfl (Zy (f := Ou) (g := vB) (l := y_4) (key := (Ae.mk x36_3 x36_3)) (z := false) Sy Sz wH rfl rfl) rfl rfl (fun _ => ⟨_, rfl⟩) ?_
      rintro _ rfl
      refine Al fun hU => ?_
      refine D1 rfl hg (fun h20 hg => ?_) fun h20 hg => ?_
      ·refine Aj ?_
       refine Af (Cd _ _ []) 64 80 hU rfl rfl ?_
       refine Ao ?_
       refine Al fun hU => ?_
       refine Bv ?_
       replace hg := Cr hg hn3
       obtain rfl := oi_ hg
       exact Bt [] ⟨rfl, rfl⟩
      ·refine Ay ?_
       repeat first | refine Dg ?_ | refine Df ?_
       refine Af (Cd _ _ []) 64 80 hU rfl rfl ?_
       refine Ao ?_
       refine Al fun hU => ?_
       obtain rfl := oi_ hg
       exact ⟨(W (x36_3 + 1), m3), Nat.lt_succ_self _, hn3, A9 []⟩
     ·refine B8 ?_
      repeat first | refine Dg ?_ | refine Df ?_
      replace hg := Cr hg hn3
      refine Bu 8 16 hU ?_
      refine Ao ?_
      refine Al fun hU => ?_
      refine Aj ?_
      refine Bu 16 40 hU ?_
      refine Ao ?_
      refine Al fun hU => ?_
      refine A3 ?_
      refine Ix (fun ((x47_4, out_4) : Int × List Ae) => mk [(2, .elt (([.int .i64 n] : List C).drop 0)), (7, .mp (Qz Ou vB y_4)), (9, .row 0), (45, .sl 2 (Av Ae.enc l)), (46, .val (.int .i64 (l.length : Int))), (47, .val (.int .i64 x47_4))] [(0, .row 53 2 (Av Ae.enc out_4))] 1) hg (A9 []) ?_
      rintro ⟨x47_4, out_4⟩ m4 o4 hg hn4
      replace hg : B0.l4 n l y_4 x47_4 out_4 = some o4 := hg
      show Cy _ _ _ _ (mk _ _ _)
      unfold B0.l4 at hg
      refine Bu 1 9 Bg ?_
      refine Ao ?_
      refine Al fun hU => ?_
      refine Aj ?_
      refine D1 rfl hg (fun h26 hg => ?_) fun h26 hg => ?_
      ·refine Ay ?_
       repeat first | refine Dg ?_ | refine Df ?_
       refine B7 (ι := List Ae) (fun (out_7 : List Ae) => mk [(2, .elt (([.int .i64 n] : List C).drop 0)), (7, .mp (Qz Ou vB y_4)), (9, .row 0), (45, .sl 2 (Av Ae.enc l)), (46, .val (.int .i64 (l.length : Int))), (47, .val (.int .i64 x47_4))] [(0, .row 53 2 (Av Ae.enc out_7))] 1) (fun (out_7 : List Ae) => B0.j7 x47_4 out_7 = some o4) ?_ ?_
       ·refine A3 ?_
        refine Bu 9 41 hU ?_
        obtain ⟨e, he, hg⟩ := Ad hg
        refine Ao ?_
        refine Cl rfl rfl (D4 bH (Bh Ae.enc_len (Aq he) (o := 0) (m := 2) (cs := [.int .i64 e.First, .int .i64 e.Then]) rfl (by decide) rfl) (Ax Ae.enc_len (Aq he) (o := 0) (m := 2) (by decide) rfl)) rfl rfl ?_
        refine Ao ?_
        refine Al fun hU => ?_
        refine Bu 41 49 hU ?_
        refine Ao ?_
        refine Al fun hU => ?_
        refine Aj ?_
        refine Bu 49 65 hU ?_
        refine Cl rfl rfl (Cz Nw (c := .int .i64 n) rfl) rfl rfl ?_
        refine Ao ?_
        refine Al fun hU => ?_
        refine A3 ?_
        refine Ix (fun ((longer_5, x52_5) : Bool × Int) => mk [(2, .elt (([.int .i64 n] : List C).drop 0)), (7, .mp (Qz Ou vB y_4)), (9, .row 0), (11, .ptr 1 0), (12, .val (.bool longer_5)), (45, .sl 2 (Av Ae.enc l)), (46, .val (.int .i64 (l.length : Int))), (47, .val (.int .i64 x47_4)), (51, .val (.int .i64 n)), (52, .val (.int .i64 x52_5))] [(0, .row 53 2 (Av Ae.enc out_4)), (1, .box [.val (.int .i64 e.First), .val (.int .i64 e.Then)] 53)] 2) hg (A9 [(0, 0), (1, 25)]) ?_
        rintro ⟨longer_5, x52_5⟩ m5 o5 hg hn5
        replace hg : B0.l5 n y_4 x47_4 out_4 e longer_5 x52_5 = some o5 := hg
        show Cy _ _ _ _ (mk _ _ _)
        unfold B0.l5 at hg
        refine Bu 2 10 Bg ?_
        refine Ao ?_
        refine Al fun hU => ?_
        refine Aj ?_
        refine D1 rfl hg (fun h31 hg => ?_) fun h31 hg => ?_
        ·refine Ay ?_
         repeat first | refine Dg ?_ | refine Df ?_
         refine B7 (ι := Bool) (fun (longer_6 : Bool) => mk [(2, .elt (([.int .i64 n] : List C).drop 0)), (7, .mp (Qz Ou vB y_4)), (9, .row 0), (11, .ptr 1 0), (12, .val (.bool longer_6)), (45, .sl 2 (Av Ae.enc l)), (46, .val (.int .i64 (l.length : Int))), (47, .val (.int .i64 x47_4)), (51, .val (.int .i64 n)), (52, .val (.int .i64 x52_5))] [(0, .row 53 2 (Av Ae.enc out_4)), (1, .box [.val (.int .i64 e.First), .val (.int .i64 e.Then)] 53)] 2) (fun (longer_6 : Bool) => B0.j6 x52_5 longer_6 = some o5) ?_ ?_
         ·refine A3 ?_
          refine Bu 10 26 hU ?_
          refine Ao ?_
          refine Al fun hU => ?_
          refine Af (Cd _ _ []) 26 170 hU rfl rfl ?_
          refine Ao ?_
          rcases E8 hg with ⟨h33, hg⟩ | ⟨h33, hg⟩
          ·refine Ao ?_
           refine Al fun hU => ?_
           exact ⟨true, hg, A9 [(0, 0), (1, 1)]⟩
          ·refine Ao ?_
           refine Cl (Cj rfl rfl h33) rfl (.build (r := [.val (.int .i64 e.First), .val (.int .i64 x52_5)]) Sh bX fZ (by kernel_rfl) rfl) rfl rfl ?_
           refine Yh (rd := []) (Cj rfl rfl h33) rfl (Zy (f := Ou) (g := vB) (l := y_4) (key := (Ae.mk e.First x52_5)) (z := false) Sy Sz wH rfl rfl) rfl rfl (fun _ => ⟨_, rfl⟩) ?_
           rintro _ rfl
           refine Ao ?_
           rcases E8 hg with ⟨h35, hg⟩ | ⟨h35, hg⟩
           ·refine Ao ?_
            refine Cl (Cj rfl rfl h35) rfl (.build (r := [.val (.int .i64 x52_5), .val (.int .i64 e.Then)]) Sh bX fZ (by kernel_rfl) rfl) rfl rfl ?_
            refine Yh (rd := []) (Cj rfl rfl h35) rfl (Zy (f := Ou) (g := vB) (l := y_4) (key := (Ae.mk x52_5 e.Then)) (z := false) Sy Sz wH rfl rfl) rfl rfl (fun _ => ⟨_, rfl⟩) ?_
            rintro _ rfl
            refine Ao ?_
            refine Al fun hU => ?_
            exact ⟨(F0 y_4 (Ae.mk x52_5 e.Then) false), hg, A9 [(0, 0), (1, 1)]⟩
           ·refine Ao ?_
            refine Al fun hU => ?_
            exact ⟨false, hg, A9 [(0, 0), (1, 1)]⟩
         ·rintro longer_6 hg
          replace hg : B0.j6 x52_5 longer_6 = some o5 := hg
          show Cy _ _ _ _ (mk _ _ _)
          unfold B0.j6 at hg
          refine Af (Cd _ _ []) 2 18 Bg rfl rfl ?_
          refine Ao ?_
          refine Al fun hU => ?_
          obtain rfl := oi_ hg
          exact ⟨((longer_6, W (x52_5 + 1)), m5), Nat.lt_succ_self _, hn5, A9 [(0, 0), (1, 1)]⟩
        ·refine B8 ?_
         repeat first | refine Dg ?_ | refine Df ?_
         replace hg := Cr hg hn5
         refine Bu 10 26 hU ?_
         refine Ao ?_
         refine Al fun hU => ?_
         refine D1 rfl hg (fun h40 hg => ?_) fun h40 hg => ?_
         ·refine Af (Cd _ _ []) 26 66 hU rfl rfl ?_
          refine Ao ?_
          refine Cl rfl rfl (Bc Zc fZ (by decide) rfl rfl rfl rfl nZ (cs := [.int .i64 e.First, .int .i64 e.Then]) (.cons .int (.cons .int .nil)) rfl (l := ([e] : List Ae)) (f := Ae.enc) rfl) rfl rfl ?_
          obtain ⟨l_2, hl_2, hg⟩ := Ad hg
          refine Da (rd := [0, 42]) rfl rfl (E3 Zc Ae.enc_len .row rfl .row rfl hl_2 rfl) rfl rfl ?_
          refine Ao ?_
          refine Al fun hU => ?_
          exact ⟨l_2, hg, A9 [(0, 50)]⟩
         ·refine Ay ?_
          repeat first | refine Dg ?_ | refine Df ?_
          exact ⟨out_4, hg, A9 [(0, 0)]⟩
       ·rintro out_7 hg
        replace hg : B0.j7 x47_4 out_7 = some o4 := hg
        show Cy _ _ _ _ (mk _ _ _)
        unfold B0.j7 at hg
        refine Af (Cd _ _ []) 1 17 Bg rfl rfl ?_
        refine Ao ?_
        refine Al fun hU => ?_
        obtain rfl := oi_ hg
        exact ⟨((W (x47_4 + 1), out_7), m4), Nat.lt_succ_self _, hn4, A9 [(0, 0)]⟩
      ·refine B8 ?_
       repeat first | refine Dg ?_ | refine Df ?_
       replace hg := Cr hg hn4
       refine Bu 9 33 hU ?_
       refine Ao ?_
       refine Al fun hU => ?_
       refine Bv ?_
       obtain rfl := oi_ hg
       exact Bt [] ⟨rfl, rfl⟩
theorem Si (i : Int) (c0 : (List An)) (r : Bool) (hg : I4 i c0 = some r) : Fn Tryz.prog 49 0 [.val (.int .i64 i), .elt (([.sl 8 (Av An.enc c0)] : List C).drop 0)] [] (fun d' b' => d' = .val (.bool r) /\ b' = []) := by
 unfold I4 at hg
 refine Fn.of Tryz.func49 rfl rfl rfl fun w0 I ρ0 => ?_
 show Cy _ ⟨w0, I, ρ0, 0, 0, 12⟩ _ _ _
 refine Bu 0 8 Bg ?_
 refine Ao ?_
 refine Al fun hU => ?_
 refine Bu 8 80 hU ?_
 refine Ao ?_
 rcases E8 hg with ⟨h2, hg⟩ | ⟨h2, hg⟩
 ·refine Ao ?_
  refine Cl (Cj rfl rfl h2) rfl (Cz dN (c := .sl 8 (Av An.enc c0)) rfl) rfl rfl ?_
  refine Ao ?_
  refine Al fun hU => ?_
  refine Bv ?_
  obtain rfl := oi_ hg
  exact Bt [] ⟨rfl, rfl⟩
 ·refine Ao ?_
  refine Al fun hU => ?_
  refine Bv ?_
  obtain rfl := oi_ hg
  exact Bt [] ⟨rfl, rfl⟩
theorem dQ (e : Bj) (l : (List An)) (r' : Ae) (r : (List Int) × Int) (hg : Cs e l r' = some r) : Fn Tryz.prog 15 0 [.agg (Bj.dv e), .sl 8 (Av An.enc l), .agg [.val (.int .i64 r'.First), .val (.int .i64 r'.Then)]] [] (fun d' b' => d' = .tup [.sl 1 (Av eI r.1), .val (.int .i64 r.2)] /\ b' = []) := by
 unfold Cs at hg
 refine Fn.of Tryz.func15 rfl rfl rfl fun w0 I ρ0 => ?_
 show Cy _ ⟨w0, I, ρ0, 0, 0, 93⟩ _ _ _
 refine Bu 0 40 Bg ?_
 refine Ao ?_
 refine Al fun hU => ?_
 refine Aj ?_
 refine H6 (σ' := mk [(3, .ptr 0 0), (4, .elt (([.sl 8 (Av An.enc l)] : List C).drop 0)), (5, .ptr 1 0)] [(0, .box (Bj.dv e) 29), (1, .box [.val (.int .i64 r'.First), .val (.int .i64 r'.Then)] 53)] 2) ((by exact Nx.lists [(0, 0), (1, 16)] rfl rfl ⟨⟨_, rfl, .ptr rfl⟩, ⟨_, rfl, .frzb (ks := [some 8]) rfl (.cons .sl .nil) (Ju rfl)⟩, ⟨_, rfl, .ptr rfl⟩, trivial⟩ ⟨.inl ⟨0, _, rfl, rfl, ⟨rfl, .cons (.sl _ _) (.cons (.sl _ _) (.cons (.sl _ _) .nil))⟩⟩, .inl ⟨16, _, rfl, rfl, ⟨rfl, .cons (.val _) (.cons (.val _) .nil)⟩⟩, trivial⟩)) ?_
 refine Af (Cd _ _ []) 2 18 Bg rfl rfl ?_
 refine Ao ?_
 refine Al fun hU => ?_
 refine Aj ?_
 refine A3 ?_
 refine Bu 18 50 hU ?_
 refine Ao ?_
 obtain ⟨y, hy, hg⟩ := Ad hg
 refine E4 (Om _ _ hy) ?_
 refine Ao ?_
 refine Al fun hU => ?_
 refine D1 rfl hg (fun h4 hg => ?_) fun h4 hg => ?_
 ·refine Aj ?_
  refine Af (Cd _ _ []) 50 66 hU rfl rfl ?_
  refine Ao ?_
  refine Al fun hU => ?_
  refine Bv ?_
  obtain rfl := oi_ hg
  exact Bt [] ⟨rfl, rfl⟩
 ·refine Aj ?_
  refine Af (Cd _ _ []) 50 82 hU rfl rfl ?_
  refine Cl rfl rfl (Cz dN (c := .sl 8 (Av An.enc l)) rfl) rfl rfl ?_
  refine Ao ?_
  refine Al fun hU => ?_
  refine D1 rfl hg (fun h7 hg => ?_) fun h7 hg => ?_
  ·refine Aj ?_
   refine Af (Cd _ _ []) 82 98 hU rfl rfl ?_
   refine Ao ?_
   refine Al fun hU => ?_
   refine Bv ?_
   obtain rfl := oi_ hg
   exact Bt [] ⟨rfl, rfl⟩
  ·refine B7 (ι := Bool) (fun (x23_2 : Bool) => mk [(3, .ptr 0 0), (4, .elt (([.sl 8 (Av An.enc l)] : List C).drop 0)), (5, .ptr 1 0), (23, .val (.bool x23_2))] [(0, .box (Bj.dv e) 29), (1, .box [.val (.int .i64 r'.First), .val (.int .i64 r'.Then)] 53)] 2) (fun (x23_2 : Bool) => Cs.j2 e l r' x23_2 = some r) ?_ ?_
   ·refine Af (Cd _ _ []) 82 186 hU rfl rfl ?_
    refine Ao ?_
    obtain ⟨y_2, hy_2, hg⟩ := Ad hg
    refine Fg (rd := []) (ps := []) (gs := []) false rfl rfl (Si _ _ _ hy_2) rfl rfl (.cons .val (.cons .elt .nil)) rfl rfl (by intro h; cases h) rfl rfl rfl rfl ?_
    refine Ao ?_
    rcases E8 hg with ⟨h9, hg⟩ | ⟨h9, hg⟩
    ·refine Ao ?_
     refine Al fun hU => ?_
     exact ⟨true, hg, A9 [(0, 0), (1, 1)]⟩
    ·refine Ao ?_
     obtain ⟨y_3, hy_3, hg⟩ := Ad hg
     refine Fg (rd := []) (ps := []) (gs := []) false (Cj rfl rfl h9) rfl (Si _ _ _ hy_3) rfl rfl (.cons .val (.cons .elt .nil)) rfl rfl (by intro h; cases h) rfl rfl rfl rfl ?_
     refine Ao ?_
     refine Al fun hU => ?_
     exact ⟨!y_3, hg, A9 [(0, 0), (1, 1)]⟩
   ·rintro x23_2 hg
    replace hg : Cs.j2 e l r' x23_2 = some r := hg
    show Cy _ _ _ _ (mk _ _ _)
    unfold Cs.j2 at hg
    refine D1 rfl hg (fun h12 hg => ?_) fun h12 hg => ?_
    ·refine Aj ?_
     refine Af (Cd _ _ []) 2 18 Bg rfl rfl ?_
     refine Ao ?_
     refine Al fun hU => ?_
     refine Bv ?_
     obtain rfl := oi_ hg
     exact Bt [] ⟨rfl, rfl⟩
    ·refine B7 (ι := Bool) (fun (x36_3 : Bool) => mk [(3, .ptr 0 0), (4, .elt (([.sl 8 (Av An.enc l)] : List C).drop 0)), (5, .ptr 1 0), (36, .val (.bool x36_3))] [(0, .box (Bj.dv e) 29), (1, .box [.val (.int .i64 r'.First), .val (.int .i64 r'.Then)] 53)] 2) (fun (x36_3 : Bool) => Cs.j3 e l r' x36_3 = some r) ?_ ?_
     ·refine Ck (Cd _ _ []) (by kernel_rfl) [0, 0, 0, 4, 14, 30, 63, 127, 255, 511, 511, 511, 2559, 7679, 15871, 32767, 65535, 131071, 262143] 2 154 Bg rfl rfl (by kernel_rfl) ?_
      refine Ao ?_
      refine Cl rfl rfl (Cz dN (c := .sl 8 (Av An.enc l)) rfl) rfl rfl ?_
      refine Ao ?_
      obtain ⟨e_2, he_2, hg⟩ := Ad hg
      refine Ao ?_
      refine Cl rfl rfl (D4 V9 (Bh An.enc_len (Aq he_2) (o := 0) (m := 8) (cs := [.int .i64 e_2.Endpoint, .int .i64 e_2.Kind, .int .i64 e_2.Number, .int .i64 e_2.At, .int .i64 e_2.Identity.Key.Alg, .int .i64 e_2.Identity.Key.Bits, .int .i64 e_2.Identity.KeyId, .sl 15 (Av Am.enc e_2.Identity.Chain)]) rfl (by decide) rfl) (Ax An.enc_len (Aq he_2) (o := 0) (m := 8) (by decide) rfl)) rfl rfl ?_
      obtain ⟨y_4, hy_4, hg⟩ := Ad hg
      refine E4 (Pg _ _ _ hy_4) ?_
      refine Ao ?_
      rcases E8 hg with ⟨h14, hg⟩ | ⟨h14, hg⟩
      ·refine Ao ?_
       refine Al fun hU => ?_
       exact ⟨true, hg, A9 [(0, 0), (1, 1)]⟩
      ·refine Ao ?_
       refine Cl (Cj rfl rfl h14) rfl (Cz dN (c := .sl 8 (Av An.enc l)) rfl) rfl rfl ?_
       refine Ao ?_
       obtain ⟨e_3, he_3, hg⟩ := Ad hg
       refine Ao ?_
       refine Cl (Cj rfl rfl h14) rfl (D4 V9 (Bh An.enc_len (Aq he_3) (o := 0) (m := 8) (cs := [.int .i64 e_3.Endpoint, .int .i64 e_3.Kind, .int .i64 e_3.Number, .int .i64 e_3.At, .int .i64 e_3.Identity.Key.Alg, .int .i64 e_3.Identity.Key.Bits, .int .i64 e_3.Identity.KeyId, .sl 15 (Av Am.enc e_3.Identity.Chain)]) rfl (by decide) rfl) (Ax An.enc_len (Aq he_3) (o := 0) (m := 8) (by decide) rfl)) rfl rfl ?_
       obtain ⟨y_5, hy_5, hg⟩ := Ad hg
       refine E4 (Pg _ _ _ hy_5) ?_
       refine Ao ?_
       refine Al fun hU => ?_
       exact ⟨!y_5, hg, A9 [(0, 0), (1, 1)]⟩
     ·rintro x36_3 hg
      replace hg : Cs.j3 e l r' x36_3 = some r := hg
      show Cy _ _ _ _ (mk _ _ _)
      unfold Cs.j3 at hg
      refine D1 rfl hg (fun h17 hg => ?_) fun h17 hg => ?_
      ·refine Aj ?_
       refine Af (Cd _ _ []) 2 18 Bg rfl rfl ?_
       refine Ao ?_
       refine Al fun hU => ?_
       refine Bv ?_
       obtain rfl := oi_ hg
       exact Bt [] ⟨rfl, rfl⟩
      ·refine Ay ?_
       repeat first | refine Dg ?_ | refine Df ?_
       refine Aj ?_
       refine Ck (Cd _ _ []) (by kernel_rfl) [0, 0, 2, 7, 15, 31, 0, 0, 128, 448, 960, 1984, 63, 8191] 2 114 Bg rfl rfl (by kernel_rfl) ?_
       refine Cl rfl rfl (Cz dN (c := .sl 8 (Av An.enc l)) rfl) rfl rfl ?_
       refine Ao ?_
       obtain ⟨e_4, he_4, hg⟩ := Ad hg
       refine Ao ?_
       refine Cl rfl rfl (Ig dU Nw (by decide) (Nu An.enc_len (Aq he_4) (o := 0) (by decide) rfl)) rfl rfl ?_
       refine Cl rfl rfl (Cz Nw (Do An.enc_len (Aq he_4) (o := 0) (c := .int .i64 e_4.Endpoint) rfl rfl)) rfl rfl ?_
       refine Cl rfl rfl (Cz dN (c := .sl 8 (Av An.enc l)) rfl) rfl rfl ?_
       refine Ao ?_
       obtain ⟨e_5, he_5, hg⟩ := Ad hg
       refine Ao ?_
       refine Cl rfl rfl (Ig dU Nw (by decide) (Nu An.enc_len (Aq he_5) (o := 0) (by decide) rfl)) rfl rfl ?_
       refine Cl rfl rfl (Cz Nw (Do An.enc_len (Aq he_5) (o := 0) (c := .int .i64 e_5.Endpoint) rfl rfl)) rfl rfl ?_
       refine Ao ?_
       refine Al fun hU => ?_
       refine Bu 114 122 hU ?_
       refine Ao ?_
       refine Al fun hU => ?_
       refine Aj ?_
       refine Bu 122 154 hU ?_
       refine Ao ?_
       refine Al fun hU => ?_
       refine A3 ?_
       refine Ix (fun ((x70_4, out_4) : Int × List Int) => mk [(9, .val (.int .i64 e_4.Endpoint)), (10, .val (.int .i64 e_5.Endpoint)), (11, .row 0), (68, .sl 2 (Av Ba.enc e.Edges)), (69, .val (.int .i64 (e.Edges.length : Int))), (70, .val (.int .i64 x70_4))] [(0, .row 3 1 (Av eI out_4))] 1) hg (A9 []) ?_
       rintro ⟨x70_4, out_4⟩ m4 o4 hg hn4
       replace hg : Cs.l4 e e_4 e_5 x70_4 out_4 = some o4 := hg
       show Cy _ _ _ _ (mk _ _ _)
       unfold Cs.l4 at hg
       refine Bu 1 9 Bg ?_
       refine Ao ?_
       refine Al fun hU => ?_
       refine Aj ?_
       refine D1 rfl hg (fun h23 hg => ?_) fun h23 hg => ?_
       ·refine Ay ?_
        repeat first | refine Dg ?_ | refine Df ?_
        refine B7 (ι := List Int) (fun (out_6 : List Int) => mk [(9, .val (.int .i64 e_4.Endpoint)), (10, .val (.int .i64 e_5.Endpoint)), (11, .row 0), (68, .sl 2 (Av Ba.enc e.Edges)), (69, .val (.int .i64 (e.Edges.length : Int))), (70, .val (.int .i64 x70_4))] [(0, .row 3 1 (Av eI out_6))] 1) (fun (out_6 : List Int) => Cs.j6 x70_4 out_6 = some o4) ?_ ?_
        ·refine A3 ?_
         refine Bu 9 57 hU ?_
         refine Ao ?_
         obtain ⟨e_6, he_6, hg⟩ := Ad hg
         refine Ao ?_
         refine Cl rfl rfl (D4 oI (Bh Ba.enc_len (Aq he_6) (o := 0) (m := 2) (cs := [.int .i64 e_6.Client, .int .i64 e_6.Server]) rfl (by decide) rfl) (Ax Ba.enc_len (Aq he_6) (o := 0) (m := 2) (by decide) rfl)) rfl rfl ?_
         refine Ao ?_
         refine Al fun hU => ?_
         refine B7 (ι := Bool) (fun (x86_5 : Bool) => mk [(9, .val (.int .i64 e_4.Endpoint)), (10, .val (.int .i64 e_5.Endpoint)), (11, .row 0), (12, .val (.int .i64 x70_4)), (68, .sl 2 (Av Ba.enc e.Edges)), (69, .val (.int .i64 (e.Edges.length : Int))), (70, .val (.int .i64 x70_4)), (86, .val (.bool x86_5))] [(0, .row 3 1 (Av eI out_4))] 1) (fun (x86_5 : Bool) => Cs.j5 x70_4 out_4 x86_5 = some o4) ?_ ?_
         ·refine Af (Cd _ _ []) 57 153 hU rfl rfl ?_
          refine Ao ?_
          refine Cl rfl rfl (.build (r := [.val (.int .i64 e_4.Endpoint), .val (.int .i64 e_5.Endpoint)]) Vp gI mH (by kernel_rfl) rfl) rfl rfl ?_
          refine Cl rfl rfl (Sp e_6 (Ba.mk e_4.Endpoint e_5.Endpoint)) rfl rfl ?_
          refine Ao ?_
          rcases E8 hg with ⟨h25, hg⟩ | ⟨h25, hg⟩
          ·refine Ao ?_
           refine Al fun hU => ?_
           exact ⟨true, hg, A9 [(0, 0)]⟩
          ·refine Ao ?_
           refine Cl (Cj rfl rfl h25) rfl (.build (r := [.val (.int .i64 e_5.Endpoint), .val (.int .i64 e_4.Endpoint)]) Vp gI mH (by kernel_rfl) rfl) rfl rfl ?_
           refine Cl (Cj rfl rfl h25) rfl (Sp e_6 (Ba.mk e_5.Endpoint e_4.Endpoint)) rfl rfl ?_
           refine Ao ?_
           refine Al fun hU => ?_
           exact ⟨decide (e_6 = (Ba.mk e_5.Endpoint e_4.Endpoint)), hg, A9 [(0, 0)]⟩
         ·rintro x86_5 hg
          replace hg : Cs.j5 x70_4 out_4 x86_5 = some o4 := hg
          show Cy _ _ _ _ (mk _ _ _)
          unfold Cs.j5 at hg
          refine D1 rfl hg (fun h28 hg => ?_) fun h28 hg => ?_
          ·refine Af (Cd _ _ []) 1 41 Bg rfl rfl ?_
           refine Ao ?_
           refine Cl rfl rfl (Bc G1 z3 (by decide) rfl rfl rfl rfl Mn (cs := [.int .i64 x70_4]) (.cons .int .nil) rfl (l := ([x70_4] : List Int)) (f := eI) rfl) rfl rfl ?_
           obtain ⟨l_2, hl_2, hg⟩ := Ad hg
           refine Da (rd := [0, 17]) rfl rfl (E3 G1 Hu .row rfl .row rfl hl_2 rfl) rfl rfl ?_
           refine Ao ?_
           refine Al fun hU => ?_
           exact ⟨l_2, hg, A9 [(0, 25)]⟩
          ·refine Ay ?_
           repeat first | refine Dg ?_ | refine Df ?_
           exact ⟨out_4, hg, A9 [(0, 0)]⟩
        ·rintro out_6 hg
         replace hg : Cs.j6 x70_4 out_6 = some o4 := hg
         show Cy _ _ _ _ (mk _ _ _)
         unfold Cs.j6 at hg
         refine Af (Cd _ _ []) 1 17 Bg rfl rfl ?_
         refine Ao ?_
         refine Al fun hU => ?_
         obtain rfl := oi_ hg
         exact ⟨((W (x70_4 + 1), out_6), m4), Nat.lt_succ_self _, hn4, A9 [(0, 0)]⟩
       ·refine B8 ?_
        repeat first | refine Dg ?_ | refine Df ?_
        replace hg := Cr hg hn4
        refine Bu 9 33 hU ?_
        refine Ao ?_
        refine Al fun hU => ?_
        refine Bv ?_
        obtain rfl := oi_ hg
        exact Bt [] ⟨rfl, rfl⟩
theorem Tb (t : (List Int)) (r : Bool) (hg : Bx t = some r) : Fn Tryz.prog 4 0 [.sl 1 (Av eI t)] [] (fun d' b' => d' = .val (.bool r) /\ b' = []) := by
 unfold Bx at hg
 refine Fn.of Tryz.func4 rfl rfl rfl fun w0 I ρ0 => ?_
 show Cy _ ⟨w0, I, ρ0, 0, 0, 116⟩ _ _ _
 refine Bu 0 8 Bg ?_
 refine Ao ?_
 refine Al fun hU => ?_
 refine Aj ?_
 refine Bu 8 32 hU ?_
 refine Ao ?_
 obtain ⟨y, hy, hg⟩ := Ad hg
 refine E4 (aA _ _ hy) ?_
 refine Ao ?_
 refine Al fun hU => ?_
 refine D1 rfl hg (fun h3 hg => ?_) fun h3 hg => ?_
 ·refine Aj ?_
  refine Af (Cd _ _ []) 32 48 hU rfl rfl ?_
  obtain ⟨y_2, hy_2, hg⟩ := Ad hg
  refine E4 (Sc _ hy_2) ?_
  refine Ao ?_
  refine Al fun hU => ?_
  refine Bv ?_
  obtain rfl := oi_ hg
  exact Bt [] ⟨rfl, rfl⟩
 ·refine Ay ?_
  repeat first | refine Dg ?_ | refine Df ?_
  refine Bu 32 56 hU ?_
  refine Ao ?_
  obtain ⟨y_3, hy_3, hg⟩ := Ad hg
  refine Wj (rd := []) (ps := []) (gs := []) false rfl (bF _ _ hy_3) rfl rfl (.cons .sl .nil) rfl rfl (by intro h; cases h) rfl (by intro h; first | (cases h; done) | exact ⟨_, _, ⟨rfl, rfl⟩, by simp, by simp⟩) ?_
  rintro _ _ ⟨rfl, rfl⟩
  refine Ao ?_
  refine Al fun hU => ?_
  refine Bu 56 88 hU ?_
  refine Ao ?_
  obtain ⟨y_4, hy_4, hg⟩ := Ad hg
  refine K0 [40] [40] [] false (Y9 _ _ hy_4) ?_
  refine Ao ?_
  refine Al fun hU => ?_
  refine Bu 88 120 hU ?_
  refine Ao ?_
  obtain ⟨y_5, hy_5, hg⟩ := Ad hg
  refine Wj (rd := [40]) (ps := [40]) (gs := []) false rfl (Uc _ _ _ hy_5) rfl rfl (.cons (.ptr rfl) (.cons (.agg (.cons .sl (.cons .sl (.cons .sl .nil)))) .nil)) ⟨_, _, _, rfl, .head _, ⟨_, rfl, (by repeat' (first | exact Q5.nil | apply Q5.cons | exact Ag.val | exact Ag.sl | exact Ag.nils | exact Ag.ptr rfl | exact Ag.rowK rfl))⟩, rfl⟩ rfl (by intro h; cases h) rfl (by intro h; first | (cases h; done) | exact ⟨_, _, ⟨rfl, rfl⟩, by simp, by simp⟩) ?_
  rintro _ _ ⟨rfl, rfl⟩
  refine Ao ?_
  refine Al fun hU => ?_
  refine Aj ?_
  refine H6 (σ' := mk [(4, .ptr 0 0), (5, .sl 8 (Av An.enc y_5.1))] [(0, .box (Bj.dv y_4.1) 29)] 1) (A9 [(0, 72)]) ?_
  refine Af (Cd _ _ []) 1 65 Bg rfl rfl ?_
  refine Ao ?_
  obtain ⟨y_6, hy_6, hg⟩ := Ad hg
  refine E4 (Yc _ _ _ hy_6) ?_
  refine Ao ?_
  refine Al fun hU => ?_
  refine Bu 65 137 hU ?_
  refine Ao ?_
  obtain ⟨y_7, hy_7, hg⟩ := Ad hg
  refine E4 (Yg _ _ _ hy_7) ?_
  refine Ao ?_
  refine Al fun hU => ?_
  refine Aj ?_
  refine B7 (ι := Bool) (fun (x45_2 : Bool) => mk [(4, .ptr 0 0), (5, .sl 8 (Av An.enc y_5.1)), (6, .sl 2 (Av Ae.enc y_6.1)), (45, .val (.bool x45_2))] [(0, .box (Bj.dv y_4.1) 29)] 1) (fun (x45_2 : Bool) => Bx.j2 y_4 y_5 y_6 x45_2 = some r) ?_ ?_
  ·refine Af (Cd _ _ []) 137 185 hU rfl rfl ?_
   refine Ao ?_
   rcases E8 hg with ⟨h10, hg⟩ | ⟨h10, hg⟩
   ·refine Ao ?_
    refine Al fun hU => ?_
    exact ⟨true, hg, A9 [(0, 0)]⟩
   ·refine Ao ?_
    refine Al fun hU => ?_
    exact ⟨!decide (y_7.2 = 0), hg, A9 [(0, 0)]⟩
  ·rintro x45_2 hg
   replace hg : Bx.j2 y_4 y_5 y_6 x45_2 = some r := hg
   show Cy _ _ _ _ (mk _ _ _)
   unfold Bx.j2 at hg
   refine D1 rfl hg (fun h13 hg => ?_) fun h13 hg => ?_
   ·refine Aj ?_
    refine Af (Cd _ _ []) 1 9 Bg rfl rfl ?_
    refine Ao ?_
    refine Al fun hU => ?_
    refine Bv ?_
    obtain rfl := oi_ hg
    exact Bt [] ⟨rfl, rfl⟩
   ·refine Ay ?_
    repeat first | refine Dg ?_ | refine Df ?_
    refine Aj ?_
    refine Bu 1 25 Bg ?_
    refine Ao ?_
    refine Al fun hU => ?_
    refine A3 ?_
    refine Ix (fun (x48_3 : Int) => mk [(4, .ptr 0 0), (5, .sl 8 (Av An.enc y_5.1)), (46, .sl 2 (Av Ae.enc y_6.1)), (47, .val (.int .i64 (y_6.1.length : Int))), (48, .val (.int .i64 x48_3))] [(0, .box (Bj.dv y_4.1) 29)] 1) hg (A9 [(0, 0)]) ?_
    rintro x48_3 m3 o3 hg hn3
    replace hg : Bx.l3 y_4 y_5 y_6 x48_3 = some o3 := hg
    show Cy _ _ _ _ (mk _ _ _)
    unfold Bx.l3 at hg
    refine Bu 1 9 Bg ?_
    refine Ao ?_
    refine Al fun hU => ?_
    refine Aj ?_
    refine D1 rfl hg (fun h17 hg => ?_) fun h17 hg => ?_
    ·refine Ay ?_
     repeat first | refine Dg ?_ | refine Df ?_
     refine Aj ?_
     refine A3 ?_
     refine Bu 9 41 hU ?_
     obtain ⟨e, he, hg⟩ := Ad hg
     refine Ao ?_
     refine Cl rfl rfl (D4 bH (Bh Ae.enc_len (Aq he) (o := 0) (m := 2) (cs := [.int .i64 e.First, .int .i64 e.Then]) rfl (by decide) rfl) (Ax Ae.enc_len (Aq he) (o := 0) (m := 2) (by decide) rfl)) rfl rfl ?_
     refine Ao ?_
     refine Al fun hU => ?_
     refine Aj ?_
     refine B7 (ι := Bool) (fun (x63_4 : Bool) => mk [(4, .ptr 0 0), (5, .sl 8 (Av An.enc y_5.1)), (11, .ptr 1 0), (46, .sl 2 (Av Ae.enc y_6.1)), (47, .val (.int .i64 (y_6.1.length : Int))), (48, .val (.int .i64 x48_3)), (63, .val (.bool x63_4))] [(0, .box (Bj.dv y_4.1) 29), (1, .box [.val (.int .i64 e.First), .val (.int .i64 e.Then)] 53)] 2) (fun (x63_4 : Bool) => Bx.j4 y_4 y_5 x48_3 e x63_4 = some o3) ?_ ?_
     ·refine Af (Cd _ _ []) 41 137 hU rfl rfl ?_
      refine Ao ?_
      rcases E8 hg with ⟨h19, hg⟩ | ⟨h19, hg⟩
      ·refine Ao ?_
       refine Al fun hU => ?_
       exact ⟨true, hg, A9 [(0, 0), (1, 25)]⟩
      ·refine Ao ?_
       refine Al fun hU => ?_
       exact ⟨decide ((y_5.1.length : Int) <= e.Then), hg, A9 [(0, 0), (1, 25)]⟩
     ·rintro x63_4 hg
      replace hg : Bx.j4 y_4 y_5 x48_3 e x63_4 = some o3 := hg
      show Cy _ _ _ _ (mk _ _ _)
      unfold Bx.j4 at hg
      refine D1 rfl hg (fun h22 hg => ?_) fun h22 hg => ?_
      ·refine Aj ?_
       refine Af (Cd _ _ []) 2 10 Bg rfl rfl ?_
       refine Ao ?_
       refine Al fun hU => ?_
       refine Bv ?_
       replace hg := Cr hg hn3
       obtain rfl := oi_ hg
       exact Bt [] ⟨rfl, rfl⟩
      ·refine Ay ?_
       repeat first | refine Dg ?_ | refine Df ?_
       refine Aj ?_
       refine Ck (Cd _ _ []) (by kernel_rfl) [0, 0, 2, 7, 15, 0, 0, 64, 224, 480, 0, 0, 3103, 8191] 2 114 Bg rfl rfl (by kernel_rfl) ?_
       refine Ao ?_
       obtain ⟨e_2, he_2, hg⟩ := Ad hg
       refine Ao ?_
       refine Cl rfl rfl (D4 V9 (Bh An.enc_len (Aq he_2) (o := 0) (m := 8) (cs := [.int .i64 e_2.Endpoint, .int .i64 e_2.Kind, .int .i64 e_2.Number, .int .i64 e_2.At, .int .i64 e_2.Identity.Key.Alg, .int .i64 e_2.Identity.Key.Bits, .int .i64 e_2.Identity.KeyId, .sl 15 (Av Am.enc e_2.Identity.Chain)]) rfl (by decide) rfl) (Ax An.enc_len (Aq he_2) (o := 0) (m := 8) (by decide) rfl)) rfl rfl ?_
       refine Ao ?_
       obtain ⟨e_3, he_3, hg⟩ := Ad hg
       refine Ao ?_
       refine Cl rfl rfl (D4 V9 (Bh An.enc_len (Aq he_3) (o := 0) (m := 8) (cs := [.int .i64 e_3.Endpoint, .int .i64 e_3.Kind, .int .i64 e_3.Number, .int .i64 e_3.At, .int .i64 e_3.Identity.Key.Alg, .int .i64 e_3.Identity.Key.Bits, .int .i64 e_3.Identity.KeyId, .sl 15 (Av Am.enc e_3.Identity.Chain)]) rfl (by decide) rfl) (Ax An.enc_len (Aq he_3) (o := 0) (m := 8) (by decide) rfl)) rfl rfl ?_
       refine Ao ?_
       refine Al fun hU => ?_
       refine Bu 114 186 hU ?_
       refine Ao ?_
       obtain ⟨y_8, hy_8, hg⟩ := Ad hg
       refine E4 (dQ _ _ _ _ hy_8) ?_
       refine Ao ?_
       refine Al fun hU => ?_
       refine B7 (ι := Bool) (fun (x113_5 : Bool) => mk [(4, .ptr 0 0), (5, .sl 8 (Av An.enc y_5.1)), (46, .sl 2 (Av Ae.enc y_6.1)), (47, .val (.int .i64 (y_6.1.length : Int))), (48, .val (.int .i64 x48_3)), (113, .val (.bool x113_5))] [(0, .box (Bj.dv y_4.1) 29)] 1) (fun (x113_5 : Bool) => Bx.j5 x48_3 x113_5 = some o3) ?_ ?_
       ·refine Ck (Cd _ _ []) (by kernel_rfl) [0, 1, 3, 7, 15, 7, 39, 127, 255, 7, 1023, 7, 2055, 7, 8199, 30727, 63495, 7, 262143, 524287, 1048575, 2097151, 4194303, 8388607, 4194303, 20971519, 67108863, 134217727, 268435455, 536870911, 1073741823, 2147483647, 4294967295] 186 450 hU rfl rfl (by kernel_rfl) ?_
        refine Ao ?_
        rcases E8 hg with ⟨h26, hg⟩ | ⟨h26, hg⟩
        ·refine Ao ?_
         refine Al fun hU => ?_
         exact ⟨true, hg, A9 [(0, 0)]⟩
        ·refine Ao ?_
         obtain ⟨e_4, he_4, hg⟩ := Ad hg
         refine Ao ?_
         refine Cl (Cj rfl rfl h26) rfl (D4 dG (Bh Aw.enc_len (Aq he_4) (o := 0) (m := 9) (cs := [.str e_4.Name, .int .i64 e_4.Least, .int .i64 e_4.Most, .sl 1 (Av eI e_4.Suites), .bool e_4.OwnOrder, .sl 4 (Av Bq.enc e_4.Identities), .sl 1 (Av eI e_4.Anchors), .sl 1 (Av eI e_4.Hashes), .bool e_4.Fallback]) rfl (by decide) rfl) (Ax Aw.enc_len (Aq he_4) (o := 0) (m := 9) (by decide) rfl)) rfl rfl ?_
         refine Ao ?_
         obtain ⟨y_9, hy_9, hg⟩ := Ad hg
         refine E4 (Ks _ _ _ hy_9) ?_
         refine Ao ?_
         obtain ⟨e_5, he_5, hg⟩ := Ad hg
         refine Ao ?_
         refine Cl (Cj rfl rfl h26) rfl (D4 dG (Bh Aw.enc_len (Aq he_5) (o := 0) (m := 9) (cs := [.str e_5.Name, .int .i64 e_5.Least, .int .i64 e_5.Most, .sl 1 (Av eI e_5.Suites), .bool e_5.OwnOrder, .sl 4 (Av Bq.enc e_5.Identities), .sl 1 (Av eI e_5.Anchors), .sl 1 (Av eI e_5.Hashes), .bool e_5.Fallback]) rfl (by decide) rfl) (Ax Aw.enc_len (Aq he_5) (o := 0) (m := 9) (by decide) rfl)) rfl rfl ?_
         refine Ao ?_
         obtain ⟨y_10, hy_10, hg⟩ := Ad hg
         refine E4 (Ks _ _ _ hy_10) ?_
         refine Ao ?_
         rcases E8 hg with ⟨h28, hg⟩ | ⟨h28, hg⟩
         ·refine Ao ?_
          refine Al fun hU => ?_
          exact ⟨true, hg, A9 [(0, 0)]⟩
         ·refine Ao ?_
          rcases E8 hg with ⟨h30, hg⟩ | ⟨h30, hg⟩
          ·refine Ao ?_
           refine Al fun hU => ?_
           exact ⟨decide ((y_8.1.length : Int) = 0), hg, A9 [(0, 0)]⟩
          ·refine Ao ?_
           refine Al fun hU => ?_
           exact ⟨false, hg, A9 [(0, 0)]⟩
       ·rintro x113_5 hg
        replace hg : Bx.j5 x48_3 x113_5 = some o3 := hg
        show Cy _ _ _ _ (mk _ _ _)
        unfold Bx.j5 at hg
        refine D1 rfl hg (fun h33 hg => ?_) fun h33 hg => ?_
        ·refine Aj ?_
         refine Af (Cd _ _ []) 1 9 Bg rfl rfl ?_
         refine Ao ?_
         refine Al fun hU => ?_
         refine Bv ?_
         replace hg := Cr hg hn3
         obtain rfl := oi_ hg
         exact Bt [] ⟨rfl, rfl⟩
        ·refine Ay ?_
         repeat first | refine Dg ?_ | refine Df ?_
         refine Af (Cd _ _ []) 1 17 Bg rfl rfl ?_
         refine Ao ?_
         refine Al fun hU => ?_
         obtain rfl := oi_ hg
         exact ⟨(W (x48_3 + 1), m3), Nat.lt_succ_self _, hn3, A9 [(0, 0)]⟩
    ·refine B8 ?_
     repeat first | refine Dg ?_ | refine Df ?_
     replace hg := Cr hg hn3
     refine Bu 9 25 hU ?_
     obtain ⟨y_11, hy_11, hg⟩ := Ad hg
     refine E4 (Sc _ hy_11) ?_
     refine Ao ?_
     refine Al fun hU => ?_
     refine Bv ?_
     obtain rfl := oi_ hg
     exact Bt [] ⟨rfl, rfl⟩
end Go.Proofs.YtkpcbnnlefcebaaGreat
