/- The program computes the plain functions. -/
import Derived.Test.YtmbhoimeiahbaaaGreatT1
import Derived.Test.YtmbhoimeiahbaaaGreatA1
import Derived.Test.YtmbhoimeiahbaaaGreatA2
set_option linter.unusedVariables false
set_option linter.unusedSimpArgs false
set_option maxRecDepth 100000
set_option maxHeartbeats 1600000
namespace Go.Proofs.YtmbhoimeiahbaaaGreat
open Go.RowKit
theorem w_exception_Valid (x' : api_Exception) (o : api_Owners) (r : Bool) (hg : g_exception_Valid x' o = some r) : Fn Tryz.prog 21 0 [.agg (api_Exception.dv x'), .agg [.sl 1 (encL eI o.Keys), .val (.int .i64 o.Need)]] [] (fun d' b' => d' = .val (.bool r) ∧ b' = []) := by
 unfold g_exception_Valid at hg
 refine Fn.of Tryz.func21 rfl rfl rfl fun w0 I ρ0 => ?_
 show awp _ ⟨w0, I, ρ0, 0, 0, 62, none⟩ _ _ _
 refine sr_ 0 24 mk_U ?_
 refine go_ ?_
 refine ch_n fun hU => ?_
 refine sr_ 24 80 hU ?_
 refine go_ ?_
 obtain ⟨y, hy, hg⟩ := bind_some hg
 refine ca_ (w_exception_Bytes _ _ hy) ?_
 refine go_ ?_
 refine ch_n fun hU => ?_
 refine awp_seq ?_
 refine awp_cut (ι := Bool) (fun (x24_1 : Bool) => mk [(2, .ptr 0 0), (3, .ptr 1 0), (5, .sl 1 (encL e8 y.1)), (24, .val (.bool x24_1))] [(0, .box (api_Exception.dv x') 52), (1, .box [.sl 1 (encL eI o.Keys), .val (.int .i64 o.Need)] 33)] 2) (fun (x24_1 : Bool) => g_exception_Valid.j1 x' o y x24_1 = some r) ?_ ?_
 ·refine awp_region (sys _ _ []) 80 136 hU rfl rfl ?_
  refine go_ ?_
  rcases bc_ hg with ⟨h3, hg⟩ | ⟨h3, hg⟩
  ·refine go_ ?_
   refine ch_n fun hU => ?_
   exact ⟨true, hg, sub_ [(0, 0), (1, 8)]⟩
  ·refine go_ ?_
   refine ch_n fun hU => ?_
   exact ⟨decide (o.Need < 1), hg, sub_ [(0, 0), (1, 8)]⟩
 ·rintro x24_1 hg
  replace hg : g_exception_Valid.j1 x' o y x24_1 = some r := hg
  show awp _ _ _ _ (mk _ _ _)
  unfold g_exception_Valid.j1 at hg
  refine cg_ rfl hg (fun h6 hg => ?_) fun h6 hg => ?_
  ·refine awp_seq ?_
   refine awp_region (sys _ _ []) 2 10 mk_U rfl rfl ?_
   refine go_ ?_
   refine ch_n fun hU => ?_
   refine aw_r ?_
   obtain rfl := Option.some.inj hg
   exact fin_ [] ⟨rfl, rfl⟩
  ·refine awp_skip ?_
   repeat first | refine st_ ?_ | refine sn_ ?_
   refine sr_ 2 18 mk_U ?_
   refine ch_x (rd := []) rfl rfl .makeMap rfl rfl (fun _ => ⟨_, rfl⟩) ?_
   rintro _ rfl
   refine go_ ?_
   refine ch_n fun hU => ?_
   refine awp_seq ?_
   refine sr_ 18 50 hU ?_
   refine go_ ?_
   refine ch_n fun hU => ?_
   refine awp_block ?_
   refine lp_ (fun ((x29_2, sums_2) : Int × (List (Int × Int))) => mk [(3, .ptr 0 0), (5, .sl 1 (encL e8 y.1)), (7, .row 1), (27, .sl 2 (encL api_Seal.enc x'.Seals)), (28, .val (.int .i64 (x'.Seals.length : Int))), (29, .val (.int .i64 x29_2))] [(0, .box [.sl 1 (encL eI o.Keys), .val (.int .i64 o.Need)] 33), (1, .map (kvs (vI .i64) (vI .i64) sums_2))] 2) hg ((by exact Sub.lists [(0, 1), (1, 2)] rfl rfl ⟨⟨_, rfl, .ptr rfl⟩, ⟨_, rfl, .sl _ _⟩, ⟨_, rfl, .row rfl⟩, ⟨_, rfl, .sl _ _⟩, ⟨_, rfl, .val _⟩, ⟨_, rfl, .val _⟩, trivial⟩ ⟨.inl ⟨1, _, rfl, rfl, ⟨rfl, .cons (.sl _ _) (.cons (.val _) .nil)⟩⟩, .inl ⟨2, _, rfl, rfl, rfl⟩, trivial⟩)) ?_
   rintro ⟨x29_2, sums_2⟩ m2 o2 hg hn2
   replace hg : g_exception_Valid.l2 x' o y x29_2 sums_2 = some o2 := hg
   show awp _ _ _ _ (mk _ _ _)
   unfold g_exception_Valid.l2 at hg
   refine sr_ 2 10 mk_U ?_
   refine go_ ?_
   refine ch_n fun hU => ?_
   refine awp_seq ?_
   refine cg_ rfl hg (fun h11 hg => ?_) fun h11 hg => ?_
   ·refine awp_skip ?_
    repeat first | refine st_ ?_ | refine sn_ ?_
    refine awp_seq ?_
    refine awp_block ?_
    refine sr_ 10 42 hU ?_
    obtain ⟨e, he, hg⟩ := bind_some hg
    refine go_ ?_
    refine c0_ rfl rfl (r_loadEA ty87 (enc_cells api_Seal.enc_len (getI_at he) (o := 0) (m := 2) (cs := [.int .i64 e.Key, .int .i64 e.Sum]) rfl (by decide) rfl) (enc_cells_le api_Seal.enc_len (getI_at he) (o := 0) (m := 2) (by decide) rfl)) rfl rfl ?_
    refine go_ ?_
    refine ch_n fun hU => ?_
    refine awp_region (sys _ _ []) 42 90 hU rfl rfl ?_
    refine go_ ?_
    refine ch_x (rd := [1]) rfl rfl (x_mapPut (f := (vI .i64)) (g := (vI .i64)) (l := sums_2) (key := e.Key) (v := e.Sum) undm93 (keyK und3) rfl rfl (.head _)) rfl rfl (fun _ => ⟨_, rfl⟩) ?_
    rintro _ rfl
    refine ch_n fun hU => ?_
    refine awp_region (sys _ _ []) 90 106 hU rfl rfl ?_
    refine go_ ?_
    refine ch_n fun hU => ?_
    obtain rfl := Option.some.inj hg
    exact ⟨((W (x29_2 + 1), mapPut sums_2 e.Key e.Sum), m2), Nat.lt_succ_self _, hn2, (by exact Sub.lists [(0, 0), (1, 1)] rfl rfl ⟨⟨_, rfl, .ptr rfl⟩, ⟨_, rfl, .sl _ _⟩, ⟨_, rfl, .row rfl⟩, ⟨_, rfl, .sl _ _⟩, ⟨_, rfl, .val _⟩, ⟨_, rfl, .val _⟩, trivial⟩ ⟨.inl ⟨0, _, rfl, rfl, ⟨rfl, .cons (.sl _ _) (.cons (.val _) .nil)⟩⟩, .inl ⟨1, _, rfl, rfl, rfl⟩, trivial⟩)⟩
   ·refine awp_exit ?_
    repeat first | refine st_ ?_ | refine sn_ ?_
    replace hg := leave hg hn2
    refine sr_ 10 18 hU ?_
    refine go_ ?_
    refine ch_n fun hU => ?_
    refine awp_seq ?_
    refine sr_ 18 34 hU ?_
    refine go_ ?_
    refine ch_x (rd := [1]) rfl rfl (.range undm93 (.head _)) rfl rfl (fun _ => ⟨_, rfl⟩) ?_
    rintro _ rfl
    refine ch_n fun hU => ?_
    refine awp_block ?_
    refine mlp_ (fun sn3 (count_3 : Int) => mk [(3, .ptr 0 0), (5, .sl 1 (encL e8 y.1)), (10, .val (.int .i64 count_3)), (40, .ptr 1 0)] [(0, .box [.sl 1 (encL eI o.Keys), .val (.int .i64 o.Need)] 33), (1, .mit 2 ((kvs (vI .i64) (vI .i64) sums_2).length) sn3), (2, .map (kvs (vI .i64) (vI .i64) sums_2))] 3) hg ((by exact Sub.lists [(0, 0), (1, 26), (2, 1)] rfl rfl ⟨⟨_, rfl, .ptr rfl⟩, ⟨_, rfl, .sl _ _⟩, ⟨_, rfl, .val _⟩, ⟨_, rfl, .ptr rfl⟩, trivial⟩ ⟨.inl ⟨0, _, rfl, rfl, ⟨rfl, .cons (.sl _ _) (.cons (.val _) .nil)⟩⟩, .inl ⟨26, _, rfl, rfl, ⟨rfl, rfl, rfl⟩⟩, .inl ⟨1, _, rfl, rfl, rfl⟩, trivial⟩)) ?_
    rintro count_3 sn3 hm3
    show awp _ _ _ _ (mk _ _ _)
    refine sr_ 3 19 mk_U ?_
    refine ch_x (rd := [1, 2]) rfl rfl (.next (.head _) (.tail _ (.head _)) rfl) rfl rfl (fun _ => next_ex rfl) ?_
    rintro _ (⟨hall17, rfl⟩ | ⟨ix17, pp17, hi17, hni17, rfl⟩)
    ·obtain ⟨o3, hg, hn3⟩ := MH.fin hm3 (next_all hall17)
     replace hg : g_exception_Valid.e3 o count_3 = some o3 := hg
     unfold g_exception_Valid.e3 at hg
     refine go_ ?_
     refine ch_n fun hU => ?_
     refine awp_seq ?_
     refine awp_cond rfl (fun h => ?_) (fun h => ?_)
     ·exact absurd h (by first | decide | exact fun h => nomatch (show false = true from h) | exact fun h => nomatch (show true = false from h))
     ·refine awp_exit ?_
      repeat first | refine st_ ?_ | refine sn_ ?_
      replace hg := leave hg hn3
      refine sr_ 19 59 hU ?_
      refine go_ ?_
      refine ch_n fun hU => ?_
      refine aw_r ?_
      obtain rfl := Option.some.inj hg
      exact fin_ [] ⟨rfl, rfl⟩
    ·obtain ⟨kv, hx17, rfl⟩ := kvs_get hi17
     obtain ⟨o3, hg, hn3⟩ := MH.el hm3 hx17 hni17
     have hlt3 := rest_lt (List.getElem?_eq_some_iff.1 hx17).1 hni17
     replace hg : g_exception_Valid.l3 o y kv count_3 = some o3 := hg
     unfold g_exception_Valid.l3 at hg
     refine go_ ?_
     refine ch_n fun hU => ?_
     refine awp_seq ?_
     refine awp_cond rfl (fun h => ?_) (fun h => ?_)
     ·refine awp_skip ?_
      repeat first | refine st_ ?_ | refine sn_ ?_
      refine awp_block ?_
      refine sr_ 19 59 hU ?_
      refine ch_x (rd := [1, 2]) rfl rfl (.entry (.head _) (.tail _ (.head _)) rfl (kvs_it hx17)) rfl rfl (fun _ => ⟨_, rfl⟩) ?_
      rintro _ rfl
      refine go_ ?_
      refine ch_n fun hU => ?_
      refine awp_cut (ι := Bool) (fun (x55_4 : Bool) => mk [(3, .ptr 0 0), (5, .sl 1 (encL e8 y.1)), (10, .val (.int .i64 count_3)), (40, .ptr 1 0), (55, .val (.bool x55_4))] [(0, .box [.sl 1 (encL eI o.Keys), .val (.int .i64 o.Need)] 33), (1, .mit 2 ((kvs (vI .i64) (vI .i64) sums_2).length) (sn3 ++ [ix17])), (2, .map (kvs (vI .i64) (vI .i64) sums_2))] 3) (fun (x55_4 : Bool) => g_exception_Valid.j4 count_3 x55_4 = some o3) ?_ ?_
      ·refine awp_region (sys _ _ []) 59 139 hU rfl rfl ?_
       refine go_ ?_
       obtain ⟨y_2, hy_2, hg⟩ := bind_some hg
       refine ca_ (w_certificate_Sum _ _ hy_2) ?_
       refine go_ ?_
       rcases bc_ hg with ⟨h21, hg⟩ | ⟨h21, hg⟩
       ·refine go_ ?_
        obtain ⟨y_3, hy_3, hg⟩ := bind_some hg
        refine ca_ (w_slices_Contains_int _ _ _ hy_3) ?_
        refine go_ ?_
        refine ch_n fun hU => ?_
        exact ⟨y_3, hg, (by exact Sub.lists [(0, 0), (1, 1), (2, 2)] rfl rfl ⟨⟨_, rfl, .ptr rfl⟩, ⟨_, rfl, .sl _ _⟩, ⟨_, rfl, .val _⟩, ⟨_, rfl, .ptr rfl⟩, ⟨_, rfl, .val _⟩, trivial⟩ ⟨.inl ⟨0, _, rfl, rfl, ⟨rfl, .cons (.sl _ _) (.cons (.val _) .nil)⟩⟩, .inl ⟨1, _, rfl, rfl, ⟨rfl, rfl, rfl⟩⟩, .inl ⟨2, _, rfl, rfl, rfl⟩, trivial⟩)⟩
       ·refine go_ ?_
        refine ch_n fun hU => ?_
        exact ⟨false, hg, (by exact Sub.lists [(0, 0), (1, 1), (2, 2)] rfl rfl ⟨⟨_, rfl, .ptr rfl⟩, ⟨_, rfl, .sl _ _⟩, ⟨_, rfl, .val _⟩, ⟨_, rfl, .ptr rfl⟩, ⟨_, rfl, .val _⟩, trivial⟩ ⟨.inl ⟨0, _, rfl, rfl, ⟨rfl, .cons (.sl _ _) (.cons (.val _) .nil)⟩⟩, .inl ⟨1, _, rfl, rfl, ⟨rfl, rfl, rfl⟩⟩, .inl ⟨2, _, rfl, rfl, rfl⟩, trivial⟩)⟩
      ·rintro x55_4 hg
       replace hg : g_exception_Valid.j4 count_3 x55_4 = some o3 := hg
       show awp _ _ _ _ (mk _ _ _)
       unfold g_exception_Valid.j4 at hg
       refine cg_ rfl hg (fun h24 hg => ?_) fun h24 hg => ?_
       ·refine awp_region (sys _ _ []) 3 27 mk_U rfl rfl ?_
        refine go_ ?_
        refine ch_n fun hU => ?_
        obtain rfl := Option.some.inj hg
        exact ⟨(_, W (count_3 + 1)), hlt3, itH_some hn3, (by exact Sub.lists [(0, 0), (1, 1), (2, 2)] rfl rfl ⟨⟨_, rfl, .ptr rfl⟩, ⟨_, rfl, .sl _ _⟩, ⟨_, rfl, .val _⟩, ⟨_, rfl, .ptr rfl⟩, trivial⟩ ⟨.inl ⟨0, _, rfl, rfl, ⟨rfl, .cons (.sl _ _) (.cons (.val _) .nil)⟩⟩, .inl ⟨1, _, rfl, rfl, ⟨rfl, rfl, rfl⟩⟩, .inl ⟨2, _, rfl, rfl, rfl⟩, trivial⟩)⟩
       ·refine awp_skip ?_
        repeat first | refine st_ ?_ | refine sn_ ?_
        obtain rfl := Option.some.inj hg
        exact ⟨(_, count_3), hlt3, itH_some hn3, (by exact Sub.lists [(0, 0), (1, 1), (2, 2)] rfl rfl ⟨⟨_, rfl, .ptr rfl⟩, ⟨_, rfl, .sl _ _⟩, ⟨_, rfl, .val _⟩, ⟨_, rfl, .ptr rfl⟩, trivial⟩ ⟨.inl ⟨0, _, rfl, rfl, ⟨rfl, .cons (.sl _ _) (.cons (.val _) .nil)⟩⟩, .inl ⟨1, _, rfl, rfl, ⟨rfl, rfl, rfl⟩⟩, .inl ⟨2, _, rfl, rfl, rfl⟩, trivial⟩)⟩
     ·exact absurd h (by first | decide | exact fun h => nomatch (show false = true from h) | exact fun h => nomatch (show true = false from h))
theorem w_exception_Covers (x' : api_Exception) (u : api_Use) (purpose : Int) (endpoint : ByteArray) (day : Int) (r : Bool) (hg : g_exception_Covers x' u purpose endpoint day = some r) : Fn Tryz.prog 22 0 [.agg (api_Exception.dv x'), .agg [.val (.int .i64 u.Alg), .val (.int .i64 u.Bits)], .val (.int .i64 purpose), .val (.string endpoint), .val (.int .i64 day)] [] (fun d' b' => d' = .val (.bool r) ∧ b' = []) := by
 unfold g_exception_Covers at hg
 refine Fn.of Tryz.func22 rfl rfl rfl fun w0 I ρ0 => ?_
 show awp _ ⟨w0, I, ρ0, 0, 0, 41, none⟩ _ _ _
 refine sr_ 0 24 mk_U ?_
 refine go_ ?_
 refine ch_n fun hU => ?_
 refine sr_ 24 272 hU ?_
 refine go_ ?_
 refine c0_ rfl rfl (steq36_eql x'.Use u) rfl rfl ?_
 refine go_ ?_
 rcases bc_ hg with ⟨h2, hg⟩ | ⟨h2, hg⟩
 ·refine go_ ?_
  rcases bc_ hg with ⟨h3, hg⟩ | ⟨h3, hg⟩
  ·refine go_ ?_
   rcases bc_ hg with ⟨h4, hg⟩ | ⟨h4, hg⟩
   ·refine go_ ?_
    rcases bc_ hg with ⟨h5, hg⟩ | ⟨h5, hg⟩
    ·refine go_ ?_
     refine ch_n fun hU => ?_
     refine aw_r ?_
     obtain rfl := Option.some.inj hg
     exact fin_ [] ⟨rfl, rfl⟩
    ·refine go_ ?_
     refine ch_n fun hU => ?_
     refine aw_r ?_
     obtain rfl := Option.some.inj hg
     exact fin_ [] ⟨rfl, rfl⟩
   ·refine go_ ?_
    refine ch_n fun hU => ?_
    refine aw_r ?_
    obtain rfl := Option.some.inj hg
    exact fin_ [] ⟨rfl, rfl⟩
  ·refine go_ ?_
   refine ch_n fun hU => ?_
   refine aw_r ?_
   obtain rfl := Option.some.inj hg
   exact fin_ [] ⟨rfl, rfl⟩
 ·refine go_ ?_
  refine ch_n fun hU => ?_
  refine aw_r ?_
  obtain rfl := Option.some.inj hg
  exact fin_ [] ⟨rfl, rfl⟩
theorem w_law19_awake  (r : Bool) (hg : g_law19_awake = some r) : Fn Tryz.prog 6 0 [] [] (fun d' b' => d' = .val (.bool r) ∧ b' = []) := by
 unfold g_law19_awake at hg
 refine Fn.of Tryz.func6 rfl rfl rfl fun w0 I ρ0 => ?_
 show awp _ ⟨w0, I, ρ0, 0, 0, 52, none⟩ _ _ _
 refine sr_ 0 8 mk_U ?_
 refine go_ ?_
 refine ch_n fun hU => ?_
 refine sr_ 8 48 hU ?_
 refine c0_ rfl rfl (.build (r := [.val (.int .i64 1), .val (.int .i64 0)]) und36 pl36 z36 (by kernel_rfl) rfl) rfl rfl ?_
 refine c0_ rfl rfl (.build (r := [.val (.int .i64 3), .val (.int .i64 9)]) und49 pl49 z49 (by kernel_rfl) rfl) rfl rfl ?_
 refine c0_ rfl rfl (.build (r := [.val (.int .i64 1), .val (.int .i64 0), .val (.int .i64 1), .val (.string (⟨#[119, 101, 98]⟩ : ByteArray)), .val (.int .i64 3), .val (.int .i64 9), .val (.slice none 0 0)]) und52 pl52 z52 (by kernel_rfl) rfl) rfl rfl ?_
 refine go_ ?_
 refine ch_n fun hU => ?_
 refine sr_ 48 80 hU ?_
 refine c0_ rfl rfl (r_buildFull sl22 z3 (by decide) rfl rfl rfl rfl ck3 (cs := [.int .i64 51, .int .i64 52, .int .i64 53]) (.cons .int (.cons .int (.cons .int .nil))) rfl (l := ([51, 52, 53] : List Int)) (f := eI) rfl) rfl rfl ?_
 refine c0_ rfl rfl (.build (r := [.row 48, .val (.int .i64 2)]) und33 pl33 z33 (by kernel_rfl) rfl) rfl rfl ?_
 refine go_ ?_
 refine ch_n fun hU => ?_
 refine sr_ 80 144 hU ?_
 refine go_ ?_
 obtain ⟨y, hy, hg⟩ := bind_some hg
 refine ca_ (w_exception_Sign _ _ _ hy) ?_
 refine go_ ?_
 refine ch_n fun hU => ?_
 refine sr_ 144 208 hU ?_
 refine go_ ?_
 obtain ⟨y_2, hy_2, hg⟩ := bind_some hg
 refine ca_ (w_exception_Sign _ _ _ hy_2) ?_
 refine go_ ?_
 refine ch_n fun hU => ?_
 refine sr_ 208 456 hU ?_
 refine go_ ?_
 rcases bc_ hg with ⟨h6, hg⟩ | ⟨h6, hg⟩
 ·refine go_ ?_
  rcases bc_ hg with ⟨h7, hg⟩ | ⟨h7, hg⟩
  ·refine go_ ?_
   obtain ⟨y_3, hy_3, hg⟩ := bind_some hg
   refine cb_ [48] [] [] true (w_exception_Valid _ _ _ hy_3) ?_
   refine go_ ?_
   rcases bc_ hg with ⟨h8, hg⟩ | ⟨h8, hg⟩
   ·refine go_ ?_
    obtain ⟨y_4, hy_4, hg⟩ := bind_some hg
    refine cb_ [48] [] [] true (w_exception_Valid _ _ _ hy_4) ?_
    refine go_ ?_
    rcases bc_ hg with ⟨h9, hg⟩ | ⟨h9, hg⟩
    ·refine go_ ?_
     obtain ⟨y_5, hy_5, hg⟩ := bind_some hg
     refine ca_ (w_exception_Covers _ _ _ _ _ _ hy_5) ?_
     refine go_ ?_
     rcases bc_ hg with ⟨h10, hg⟩ | ⟨h10, hg⟩
     ·refine go_ ?_
      obtain ⟨y_6, hy_6, hg⟩ := bind_some hg
      refine ca_ (w_exception_Covers _ _ _ _ _ _ hy_6) ?_
      refine go_ ?_
      refine ch_n fun hU => ?_
      refine aw_r ?_
      obtain rfl := Option.some.inj hg
      exact fin_ [] ⟨rfl, rfl⟩
     ·refine go_ ?_
      refine ch_n fun hU => ?_
      refine aw_r ?_
      obtain rfl := Option.some.inj hg
      exact fin_ [] ⟨rfl, rfl⟩
    ·refine go_ ?_
     refine ch_n fun hU => ?_
     refine aw_r ?_
     obtain rfl := Option.some.inj hg
     exact fin_ [] ⟨rfl, rfl⟩
   ·refine go_ ?_
    refine ch_n fun hU => ?_
    refine aw_r ?_
    obtain rfl := Option.some.inj hg
    exact fin_ [] ⟨rfl, rfl⟩
  ·refine go_ ?_
   refine ch_n fun hU => ?_
   refine aw_r ?_
   obtain rfl := Option.some.inj hg
   exact fin_ [] ⟨rfl, rfl⟩
 ·refine go_ ?_
  refine ch_n fun hU => ?_
  refine aw_r ?_
  obtain rfl := Option.some.inj hg
  exact fin_ [] ⟨rfl, rfl⟩
theorem w_make_Roll (l : (List Int)) (r : cipherplanmake_Dice) (hg : g_make_Roll l = some r) : Fn Tryz.prog 7 0 [.sl 1 (encL eI l)] [] (fun d' b' => d' = .ptr 0 0 ∧ b' = [.box [.sl 1 (encL eI r.L), .val (.int .i64 r.At)] 66]) := by
 unfold g_make_Roll at hg
 refine Fn.of Tryz.func7 rfl rfl rfl fun w0 I ρ0 => ?_
 show awp _ ⟨w0, I, ρ0, 0, 0, 6, none⟩ _ _ _
 refine sr_ 0 8 mk_U ?_
 refine go_ ?_
 refine ch_n fun hU => ?_
 refine sr_ 8 40 hU ?_
 refine go_ ?_
 refine c0_ rfl rfl (.build (r := [.sl 1 (encL eI l), .val (.int .i64 0)]) und66 pl66 z66 (by kernel_rfl) rfl) rfl rfl ?_
 refine go_ ?_
 refine ch_n fun hU => ?_
 refine aw_r ?_
 obtain rfl := Option.some.inj hg
 exact fin_ [(0, 24)] ⟨rfl, rfl⟩
theorem w_make_Mod (n : Int) (k : Int) (r : Int) (hg : g_make_Mod n k = some r) : Fn Tryz.prog 27 0 [.val (.int .i64 n), .val (.int .i64 k)] [] (fun d' b' => d' = .val (.int .i64 r) ∧ b' = []) := by
 unfold g_make_Mod at hg
 refine Fn.of Tryz.func27 rfl rfl rfl fun w0 I ρ0 => ?_
 show awp _ ⟨w0, I, ρ0, 0, 0, 14, none⟩ _ _ _
 refine sr_ 0 8 mk_U ?_
 refine go_ ?_
 refine ch_n fun hU => ?_
 refine awp_seq ?_
 refine sr_ 8 24 hU ?_
 refine go_ ?_
 refine ch_n fun hU => ?_
 refine cg_ rfl hg (fun h3 hg => ?_) fun h3 hg => ?_
 ·refine awp_seq ?_
  refine awp_region (sys _ _ []) 24 32 hU rfl rfl ?_
  refine go_ ?_
  refine ch_n fun hU => ?_
  refine aw_r ?_
  obtain rfl := Option.some.inj hg
  exact fin_ [] ⟨rfl, rfl⟩
 ·refine awp_skip ?_
  repeat first | refine st_ ?_ | refine sn_ ?_
  refine sr_ 24 88 hU ?_
  refine go_ ?_
  obtain ⟨q, hq, hg⟩ := bind_some hg
  refine c0_ rfl rfl (r_rem hq) rfl rfl ?_
  refine go_ ?_
  obtain ⟨q_2, hq_2, hg⟩ := bind_some hg
  refine c0_ rfl rfl (r_rem hq_2) rfl rfl ?_
  refine go_ ?_
  refine ch_n fun hU => ?_
  refine aw_r ?_
  obtain rfl := Option.some.inj hg
  exact fin_ [] ⟨rfl, rfl⟩
theorem w_make_Dice_Next (d : cipherplanmake_Dice) (n : Int) (r : Int × cipherplanmake_Dice) (hg : g_make_Dice_Next d n = some r) : Fn Tryz.prog 12 1 [.ptr 0 0, .val (.int .i64 n)] [.box [.sl 1 (encL eI d.L), .val (.int .i64 d.At)] 66] (fun d' b' => d' = .val (.int .i64 r.1) ∧ b' = [.box [.sl 1 (encL eI r.2.L), .val (.int .i64 r.2.At)] 66]) := by
 unfold g_make_Dice_Next at hg
 refine Fn.of Tryz.func12 rfl rfl rfl fun w0 I ρ0 => ?_
 show awp _ ⟨w0, I, ρ0, 1, 1, 35, none⟩ _ _ _
 refine sr_ 1 9 mk_U ?_
 refine go_ ?_
 refine ch_n fun hU => ?_
 refine awp_seq ?_
 refine awp_seq ?_
 refine awp_draw (sys _ _ []) (by kernel_rfl) [0, 1, 3, 7, 0, 16, 48, 112, 240, 511] 9 89 hU rfl rfl (by kernel_rfl) ?_
 refine go_ ?_
 refine ch_n fun hU => ?_
 refine cg_ rfl hg (fun h3 hg => ?_) fun h3 hg => ?_
 ·refine awp_seq ?_
  refine awp_region (sys _ _ []) 89 97 hU rfl rfl ?_
  refine go_ ?_
  refine ch_n fun hU => ?_
  refine aw_r ?_
  obtain rfl := Option.some.inj hg
  exact fin_ [(0, 0)] ⟨rfl, rfl⟩
 ·refine awp_skip ?_
  repeat first | refine st_ ?_ | refine sn_ ?_
  refine sr_ 89 153 hU ?_
  refine go_ ?_
  refine ch_n fun hU => ?_
  refine awp_seq ?_
  refine awp_draw (sys _ _ []) (by kernel_rfl) [0, 1, 3, 7, 0, 16, 48, 112, 240, 511, 1023, 0, 4095, 8191] 153 265 hU rfl rfl (by kernel_rfl) ?_
  refine go_ ?_
  obtain ⟨e, he, hg⟩ := bind_some hg
  refine go_ ?_
  refine c0_ rfl rfl (r_loadE1 ty3 (enc_cell eI_len (getI_at he) (o := 0) (c := .int .i64 e) rfl rfl)) rfl rfl ?_
  refine go_ ?_
  obtain ⟨y, hy, hg⟩ := bind_some hg
  refine ca_ (w_make_Mod _ _ _ hy) ?_
  refine go_ ?_
  refine ch_n fun hU => ?_
  refine aw_r ?_
  obtain rfl := Option.some.inj hg
  exact fin_ [(0, 0)] ⟨rfl, rfl⟩
theorem w_make_Dice_One (d : cipherplanmake_Dice) (n : Int) (r : Bool × cipherplanmake_Dice) (hg : g_make_Dice_One d n = some r) : Fn Tryz.prog 23 1 [.ptr 0 0, .val (.int .i64 n)] [.box [.sl 1 (encL eI d.L), .val (.int .i64 d.At)] 66] (fun d' b' => d' = .val (.bool r.1) ∧ b' = [.box [.sl 1 (encL eI r.2.L), .val (.int .i64 r.2.At)] 66]) := by
 unfold g_make_Dice_One at hg
 refine Fn.of Tryz.func23 rfl rfl rfl fun w0 I ρ0 => ?_
 show awp _ ⟨w0, I, ρ0, 1, 1, 11, none⟩ _ _ _
 refine sr_ 1 9 mk_U ?_
 refine go_ ?_
 refine ch_n fun hU => ?_
 refine sr_ 9 65 hU ?_
 refine go_ ?_
 obtain ⟨y, hy, hg⟩ := bind_some hg
 refine cb_ [0] [0] [] false (w_make_Dice_Next _ _ _ hy) ?_
 refine go_ ?_
 refine ch_n fun hU => ?_
 refine aw_r ?_
 obtain rfl := Option.some.inj hg
 exact fin_ [(0, 0)] ⟨rfl, rfl⟩
theorem w_make_Dice_Of (d : cipherplanmake_Dice) (l : (List Int)) (r : Int × cipherplanmake_Dice) (hg : g_make_Dice_Of d l = some r) : Fn Tryz.prog 15 1 [.ptr 0 0, .sl 1 (encL eI l)] [.box [.sl 1 (encL eI d.L), .val (.int .i64 d.At)] 66] (fun d' b' => d' = .val (.int .i64 r.1) ∧ b' = [.box [.sl 1 (encL eI r.2.L), .val (.int .i64 r.2.At)] 66]) := by
 unfold g_make_Dice_Of at hg
 refine Fn.of Tryz.func15 rfl rfl rfl fun w0 I ρ0 => ?_
 show awp _ ⟨w0, I, ρ0, 1, 1, 12, none⟩ _ _ _
 refine sr_ 1 9 mk_U ?_
 refine go_ ?_
 refine ch_n fun hU => ?_
 refine sr_ 9 73 hU ?_
 refine go_ ?_
 obtain ⟨y, hy, hg⟩ := bind_some hg
 refine cb_ [0] [0] [] false (w_make_Dice_Next _ _ _ hy) ?_
 obtain ⟨e, he, hg⟩ := bind_some hg
 refine go_ ?_
 refine c0_ rfl rfl (r_loadE1 ty3 (enc_cell eI_len (getI_at he) (o := 0) (c := .int .i64 e) rfl rfl)) rfl rfl ?_
 refine go_ ?_
 refine ch_n fun hU => ?_
 refine aw_r ?_
 obtain rfl := Option.some.inj hg
 exact fin_ [(0, 0)] ⟨rfl, rfl⟩
theorem w_make_Policy (d : cipherplanmake_Dice) (r : api_Policy × cipherplanmake_Dice) (hg : g_make_Policy d = some r) : Fn Tryz.prog 8 1 [.ptr 0 0] [.box [.sl 1 (encL eI d.L), .val (.int .i64 d.At)] 66] (fun d' b' => d' = .agg [.row 1, .sl 2 (encL api_Keep.enc r.1.Keeps)] ∧ b' = [.box [.sl 1 (encL eI r.2.L), .val (.int .i64 r.2.At)] 66, .row 57 6 (encL api_Rule.enc r.1.Rules)]) := by
 unfold g_make_Policy at hg
 refine Fn.of Tryz.func8 rfl rfl rfl fun w0 I ρ0 => ?_
 show awp _ ⟨w0, I, ρ0, 1, 1, 71, none⟩ _ _ _
 refine sr_ 1 9 mk_U ?_
 refine go_ ?_
 refine ch_n fun hU => ?_
 refine sr_ 9 17 hU ?_
 refine go_ ?_
 refine ch_n fun hU => ?_
 refine awp_seq ?_
 refine sr_ 17 41 hU ?_
 refine go_ ?_
 obtain ⟨y, hy, hg⟩ := bind_some hg
 refine cb_ [0] [0] [] false (w_make_Dice_Next _ _ _ hy) ?_
 refine go_ ?_
 refine ch_n fun hU => ?_
 refine awp_block ?_
 refine lp_ (fun ((i_1, d_1, l_1) : Int × cipherplanmake_Dice × List api_Rule) => mk [(0, .ptr 0 0), (2, .ptr 1 0), (3, .ptr 2 0), (4, .val (.int .i64 i_1))] [(0, .box [.sl 1 (encL eI d_1.L), .val (.int .i64 d_1.At)] 66), (1, .box [.val (.slice none 0 0), .val (.slice none 0 0)] 30), (2, .box [.row 3, .val (.slice none 0 0)] 30), (3, .row 57 6 (encL api_Rule.enc l_1))] 4) hg (sub_ [(0, 0), (1, 1), (2, 9)]) ?_
 rintro ⟨i_1, d_1, l_1⟩ m1 o1 hg hn1
 replace hg : g_make_Policy.l1 i_1 d_1 l_1 = some o1 := hg
 show awp _ _ _ _ (mk _ _ _)
 unfold g_make_Policy.l1 at hg
 refine awp_seq ?_
 refine sr_ 4 20 mk_U ?_
 refine go_ ?_
 refine ch_n fun hU => ?_
 refine cg_ rfl hg (fun h5 hg => ?_) fun h5 hg => ?_
 ·refine awp_skip ?_
  repeat first | refine st_ ?_ | refine sn_ ?_
  refine awp_seq ?_
  refine awp_block ?_
  refine awp_seq ?_
  refine awp_region (sys _ _ [44]) 20 84 hU rfl rfl ?_
  refine go_ ?_
  obtain ⟨y_2, hy_2, hg⟩ := bind_some hg
  refine cb_ [0] [0] [] false (w_make_Dice_One _ _ _ hy_2) ?_
  refine go_ ?_
  refine ch_z (rd := []) rfl rfl (r_buildFull sl22 z3 (by decide) rfl rfl rfl rfl ck3 (cs := [.int .i64 14, .int .i64 1, .int .i64 2, .int .i64 5, .int .i64 15, .int .i64 0, .int .i64 16, .int .i64 10, .int .i64 20, .int .i64 7]) (.cons .int (.cons .int (.cons .int (.cons .int (.cons .int (.cons .int (.cons .int (.cons .int (.cons .int (.cons .int .nil)))))))))) rfl (l := ([14, 1, 2, 5, 15, 0, 16, 10, 20, 7] : List Int)) (f := eI) rfl) rfl rfl rfl ?_
  obtain ⟨y_3, hy_3, hg⟩ := bind_some hg
  refine cb_ [0] [0] [] false (w_make_Dice_Of _ _ _ hy_3) ?_
  refine c0_ rfl rfl (.build (r := [.val (.bool y_2.1), .val (.int .i64 y_3.1), .val (.int .i64 0), .val (.int .i64 0), .val (.int .i64 0), .val (.int .i64 40001)]) und57 pl57 z57 (by kernel_rfl) rfl) rfl rfl ?_
  refine go_ ?_
  refine ch_n fun hU => ?_
  refine awp_cut (ι := cipherplanmake_Dice × Int) (fun ((d_2, r_2) : cipherplanmake_Dice × Int) => mk [(0, .ptr 0 0), (2, .ptr 1 0), (3, .ptr 2 0), (4, .val (.int .i64 i_1)), (5, .ptr 3 0)] [(0, .box [.sl 1 (encL eI d_2.L), .val (.int .i64 d_2.At)] 66), (1, .box [.val (.slice none 0 0), .val (.slice none 0 0)] 30), (2, .box [.row 4, .val (.slice none 0 0)] 30), (3, .box [.val (.bool y_2.1), .val (.int .i64 y_3.1), .val (.int .i64 r_2), .val (.int .i64 0), .val (.int .i64 0), .val (.int .i64 40001)] 57), (4, .row 57 6 (encL api_Rule.enc l_1))] 5) (fun ((d_2, r_2) : cipherplanmake_Dice × Int) => g_make_Policy.j2 i_1 l_1 y_2 y_3 d_2 r_2 = some o1) ?_ ?_
  ·refine awp_seq ?_
   refine awp_region (sys _ _ []) 84 100 hU rfl rfl ?_
   refine go_ ?_
   obtain ⟨y_4, hy_4, hg⟩ := bind_some hg
   refine cb_ [0] [0] [] false (w_make_Dice_One _ _ _ hy_4) ?_
   refine ch_n fun hU => ?_
   refine cg_ rfl hg (fun h8 hg => ?_) fun h8 hg => ?_
   ·refine awp_region (sys _ _ [108]) 100 140 hU rfl rfl ?_
    refine go_ ?_
    refine ch_z (rd := []) rfl rfl (r_buildFull sl22 z3 (by decide) rfl rfl rfl rfl ck3 (cs := [.int .i64 2048, .int .i64 256, .int .i64 1024, .int .i64 3072, .int .i64 129]) (.cons .int (.cons .int (.cons .int (.cons .int (.cons .int .nil))))) rfl (l := ([2048, 256, 1024, 3072, 129] : List Int)) (f := eI) rfl) rfl rfl rfl ?_
    obtain ⟨y_5, hy_5, hg⟩ := bind_some hg
    refine cb_ [0] [0] [] false (w_make_Dice_Of _ _ _ hy_5) ?_
    refine go_ ?_
    refine ch_n fun hU => ?_
    exact ⟨(y_5.2, y_5.1), hg, sub_ [(0, 0), (1, 1), (2, 2), (3, 68), (4, 3)]⟩
   ·refine awp_skip ?_
    repeat first | refine st_ ?_ | refine sn_ ?_
    exact ⟨(y_4.2, 0), hg, sub_ [(0, 0), (1, 1), (2, 2), (3, 68), (4, 3)]⟩
  ·rintro ⟨d_2, r_2⟩ hg
   replace hg : g_make_Policy.j2 i_1 l_1 y_2 y_3 d_2 r_2 = some o1 := hg
   show awp _ _ _ _ (mk _ _ _)
   unfold g_make_Policy.j2 at hg
   refine awp_cut (ι := cipherplanmake_Dice × Int) (fun ((d_3, r_3) : cipherplanmake_Dice × Int) => mk [(0, .ptr 0 0), (2, .ptr 1 0), (3, .ptr 2 0), (4, .val (.int .i64 i_1)), (5, .ptr 3 0)] [(0, .box [.sl 1 (encL eI d_3.L), .val (.int .i64 d_3.At)] 66), (1, .box [.val (.slice none 0 0), .val (.slice none 0 0)] 30), (2, .box [.row 4, .val (.slice none 0 0)] 30), (3, .box [.val (.bool y_2.1), .val (.int .i64 y_3.1), .val (.int .i64 r_2), .val (.int .i64 r_3), .val (.int .i64 0), .val (.int .i64 40001)] 57), (4, .row 57 6 (encL api_Rule.enc l_1))] 5) (fun ((d_3, r_3) : cipherplanmake_Dice × Int) => g_make_Policy.j3 i_1 l_1 y_2 y_3 r_2 d_3 r_3 = some o1) ?_ ?_
   ·refine awp_seq ?_
    refine awp_region (sys _ _ []) 5 21 mk_U rfl rfl ?_
    refine go_ ?_
    obtain ⟨y_6, hy_6, hg⟩ := bind_some hg
    refine cb_ [0] [0] [] false (w_make_Dice_One _ _ _ hy_6) ?_
    refine ch_n fun hU => ?_
    refine cg_ rfl hg (fun h11 hg => ?_) fun h11 hg => ?_
    ·refine awp_region (sys _ _ []) 21 61 hU rfl rfl ?_
     refine go_ ?_
     obtain ⟨y_7, hy_7, hg⟩ := bind_some hg
     refine cb_ [0] [0] [] false (w_make_Dice_Next _ _ _ hy_7) ?_
     refine go_ ?_
     refine ch_n fun hU => ?_
     exact ⟨(y_7.2, W (1 + y_7.1)), hg, sub_ [(0, 0), (1, 1), (2, 2), (3, 3), (4, 4)]⟩
    ·refine awp_skip ?_
     repeat first | refine st_ ?_ | refine sn_ ?_
     exact ⟨(y_6.2, 0), hg, sub_ [(0, 0), (1, 1), (2, 2), (3, 3), (4, 4)]⟩
   ·rintro ⟨d_3, r_3⟩ hg
    replace hg : g_make_Policy.j3 i_1 l_1 y_2 y_3 r_2 d_3 r_3 = some o1 := hg
    show awp _ _ _ _ (mk _ _ _)
    unfold g_make_Policy.j3 at hg
    refine awp_cut (ι := cipherplanmake_Dice × Int) (fun ((d_4, r_4) : cipherplanmake_Dice × Int) => mk [(0, .ptr 0 0), (2, .ptr 1 0), (3, .ptr 2 0), (4, .val (.int .i64 i_1)), (5, .ptr 3 0)] [(0, .box [.sl 1 (encL eI d_4.L), .val (.int .i64 d_4.At)] 66), (1, .box [.val (.slice none 0 0), .val (.slice none 0 0)] 30), (2, .box [.row 4, .val (.slice none 0 0)] 30), (3, .box [.val (.bool y_2.1), .val (.int .i64 y_3.1), .val (.int .i64 r_2), .val (.int .i64 r_3), .val (.int .i64 r_4), .val (.int .i64 40001)] 57), (4, .row 57 6 (encL api_Rule.enc l_1))] 5) (fun ((d_4, r_4) : cipherplanmake_Dice × Int) => g_make_Policy.j4 i_1 l_1 y_2 y_3 r_2 r_3 d_4 r_4 = some o1) ?_ ?_
    ·refine awp_seq ?_
     refine awp_region (sys _ _ []) 5 21 mk_U rfl rfl ?_
     refine go_ ?_
     obtain ⟨y_8, hy_8, hg⟩ := bind_some hg
     refine cb_ [0] [0] [] false (w_make_Dice_One _ _ _ hy_8) ?_
     refine ch_n fun hU => ?_
     refine cg_ rfl hg (fun h14 hg => ?_) fun h14 hg => ?_
     ·refine awp_region (sys _ _ [29]) 21 61 hU rfl rfl ?_
      refine go_ ?_
      refine ch_z (rd := []) rfl rfl (r_buildFull sl22 z3 (by decide) rfl rfl rfl rfl ck3 (cs := [.int .i64 10, .int .i64 30, .int .i64 100, .int .i64 7]) (.cons .int (.cons .int (.cons .int (.cons .int .nil)))) rfl (l := ([10, 30, 100, 7] : List Int)) (f := eI) rfl) rfl rfl rfl ?_
      obtain ⟨y_9, hy_9, hg⟩ := bind_some hg
      refine cb_ [0] [0] [] false (w_make_Dice_Of _ _ _ hy_9) ?_
      refine go_ ?_
      refine ch_n fun hU => ?_
      exact ⟨(y_9.2, y_9.1), hg, sub_ [(0, 0), (1, 1), (2, 2), (3, 3), (4, 4)]⟩
     ·refine awp_skip ?_
      repeat first | refine st_ ?_ | refine sn_ ?_
      exact ⟨(y_8.2, 0), hg, sub_ [(0, 0), (1, 1), (2, 2), (3, 3), (4, 4)]⟩
    ·rintro ⟨d_4, r_4⟩ hg
     replace hg : g_make_Policy.j4 i_1 l_1 y_2 y_3 r_2 r_3 d_4 r_4 = some o1 := hg
     show awp _ _ _ _ (mk _ _ _)
     unfold g_make_Policy.j4 at hg
     refine awp_cut (ι := cipherplanmake_Dice × Int) (fun ((d_5, r_5) : cipherplanmake_Dice × Int) => mk [(0, .ptr 0 0), (2, .ptr 1 0), (3, .ptr 2 0), (4, .val (.int .i64 i_1)), (5, .ptr 3 0)] [(0, .box [.sl 1 (encL eI d_5.L), .val (.int .i64 d_5.At)] 66), (1, .box [.val (.slice none 0 0), .val (.slice none 0 0)] 30), (2, .box [.row 4, .val (.slice none 0 0)] 30), (3, .box [.val (.bool y_2.1), .val (.int .i64 y_3.1), .val (.int .i64 r_2), .val (.int .i64 r_3), .val (.int .i64 r_4), .val (.int .i64 r_5)] 57), (4, .row 57 6 (encL api_Rule.enc l_1))] 5) (fun ((d_5, r_5) : cipherplanmake_Dice × Int) => g_make_Policy.j5 i_1 l_1 y_2 y_3 r_2 r_3 r_4 d_5 r_5 = some o1) ?_ ?_
     ·refine awp_seq ?_
      refine awp_region (sys _ _ []) 5 21 mk_U rfl rfl ?_
      refine go_ ?_
      obtain ⟨y_10, hy_10, hg⟩ := bind_some hg
      refine cb_ [0] [0] [] false (w_make_Dice_One _ _ _ hy_10) ?_
      refine ch_n fun hU => ?_
      refine cg_ rfl hg (fun h17 hg => ?_) fun h17 hg => ?_
      ·refine awp_draw (sys _ _ [45]) (by kernel_rfl) [0, 1, 0, 0, 12, 31, 63, 127] 21 85 hU rfl rfl (by kernel_rfl) ?_
       refine go_ ?_
       refine ch_z (rd := []) rfl rfl (r_buildFull sl22 z3 (by decide) rfl rfl rfl rfl ck3 (cs := [.int .i64 20, .int .i64 1, .int .i64 200]) (.cons .int (.cons .int (.cons .int .nil))) rfl (l := ([20, 1, 200] : List Int)) (f := eI) rfl) rfl rfl rfl ?_
       obtain ⟨y_11, hy_11, hg⟩ := bind_some hg
       refine cb_ [0] [0] [] false (w_make_Dice_Of _ _ _ hy_11) ?_
       refine go_ ?_
       refine ch_n fun hU => ?_
       exact ⟨(y_11.2, W (r_4 + y_11.1)), hg, sub_ [(0, 0), (1, 1), (2, 2), (3, 3), (4, 4)]⟩
      ·refine awp_skip ?_
       repeat first | refine st_ ?_ | refine sn_ ?_
       exact ⟨(y_10.2, 40001), hg, sub_ [(0, 0), (1, 1), (2, 2), (3, 3), (4, 4)]⟩
     ·rintro ⟨d_5, r_5⟩ hg
      replace hg : g_make_Policy.j5 i_1 l_1 y_2 y_3 r_2 r_3 r_4 d_5 r_5 = some o1 := hg
      show awp _ _ _ _ (mk _ _ _)
      unfold g_make_Policy.j5 at hg
      refine awp_region (sys _ _ []) 5 61 mk_U rfl rfl ?_
      refine go_ ?_
      refine c0_ rfl rfl (r_buildFull sl27 z57 (by decide) rfl rfl rfl rfl ck57 (cs := [.bool y_2.1, .int .i64 y_3.1, .int .i64 r_2, .int .i64 r_3, .int .i64 r_4, .int .i64 r_5]) (.cons .bool (.cons .int (.cons .int (.cons .int (.cons .int (.cons .int .nil)))))) rfl (l := ([(api_Rule.mk y_2.1 y_3.1 r_2 r_3 r_4 r_5)] : List api_Rule)) (f := api_Rule.enc) rfl) rfl rfl ?_
      obtain ⟨l, hl, hg⟩ := bind_some hg
      refine ch_s (rd := [4, 29]) rfl rfl (r_append sl27 api_Rule.enc_len .row rfl .row rfl hl rfl) rfl rfl ?_
      refine go_ ?_
      refine ch_n fun hU => ?_
      refine awp_region (sys _ _ []) 61 85 hU rfl rfl ?_
      refine go_ ?_
      refine ch_n fun hU => ?_
      obtain rfl := Option.some.inj hg
      exact ⟨((W (i_1 - 1), d_5, l), m1), Nat.lt_succ_self _, hn1, sub_ [(0, 0), (1, 1), (2, 2), (3, 37)]⟩
 ·refine awp_exit ?_
  repeat first | refine st_ ?_ | refine sn_ ?_
  replace hg := leave hg hn1
  refine awp_seq ?_
  refine sr_ 20 44 hU ?_
  refine go_ ?_
  obtain ⟨y_12, hy_12, hg⟩ := bind_some hg
  refine cb_ [0] [0] [] false (w_make_Dice_Next _ _ _ hy_12) ?_
  refine go_ ?_
  refine ch_n fun hU => ?_
  refine awp_block ?_
  refine lp_ (fun ((i_6, d_6, l_6) : Int × cipherplanmake_Dice × List api_Keep) => mk [(0, .ptr 0 0), (2, .ptr 1 0), (3, .ptr 2 0), (6, .val (.int .i64 i_6))] [(0, .box [.sl 1 (encL eI d_6.L), .val (.int .i64 d_6.At)] 66), (1, .box [.val (.slice none 0 0), .val (.slice none 0 0)] 30), (2, .box [.row 3, .row 4] 30), (3, .row 57 6 (encL api_Rule.enc l_1)), (4, .row 69 2 (encL api_Keep.enc l_6))] 5) hg (sub_ [(0, 0), (1, 1), (2, 2), (3, 3)]) ?_
  rintro ⟨i_6, d_6, l_6⟩ m6 o6 hg hn6
  replace hg : g_make_Policy.l6 l_1 i_6 d_6 l_6 = some o6 := hg
  show awp _ _ _ _ (mk _ _ _)
  unfold g_make_Policy.l6 at hg
  refine awp_seq ?_
  refine sr_ 5 21 mk_U ?_
  refine go_ ?_
  refine ch_n fun hU => ?_
  refine cg_ rfl hg (fun h23 hg => ?_) fun h23 hg => ?_
  ·refine awp_skip ?_
   repeat first | refine st_ ?_ | refine sn_ ?_
   refine awp_seq ?_
   refine awp_block ?_
   refine awp_draw (sys _ _ [69]) (by kernel_rfl) [0, 1, 0, 4, 12, 0, 0, 108, 252, 508, 1023, 2047, 4095] 21 125 hU rfl rfl (by kernel_rfl) ?_
   refine go_ ?_
   obtain ⟨y_13, hy_13, hg⟩ := bind_some hg
   refine cb_ [0] [0] [] false (w_make_Dice_Next _ _ _ hy_13) ?_
   refine go_ ?_
   refine ch_z (rd := []) rfl rfl (r_buildFull sl22 z3 (by decide) rfl rfl rfl rfl ck3 (cs := [.int .i64 10, .int .i64 100, .int .i64 3000]) (.cons .int (.cons .int (.cons .int .nil))) rfl (l := ([10, 100, 3000] : List Int)) (f := eI) rfl) rfl rfl rfl ?_
   obtain ⟨y_14, hy_14, hg⟩ := bind_some hg
   refine cb_ [0] [0] [] false (w_make_Dice_Of _ _ _ hy_14) ?_
   refine c0_ rfl rfl (.build (r := [.val (.int .i64 (W (1 + y_13.1))), .val (.int .i64 y_14.1)]) und69 pl69 z69 (by kernel_rfl) rfl) rfl rfl ?_
   refine c0_ rfl rfl (r_buildFull sl28 z69 (by decide) rfl rfl rfl rfl ck69 (cs := [.int .i64 (W (1 + y_13.1)), .int .i64 y_14.1]) (.cons .int (.cons .int .nil)) rfl (l := ([(api_Keep.mk (W (1 + y_13.1)) y_14.1)] : List api_Keep)) (f := api_Keep.enc) rfl) rfl rfl ?_
   obtain ⟨l_2, hl_2, hg⟩ := bind_some hg
   refine ch_s (rd := [4, 93]) rfl rfl (r_append sl28 api_Keep.enc_len .row rfl .row rfl hl_2 rfl) rfl rfl ?_
   refine go_ ?_
   refine ch_n fun hU => ?_
   refine awp_region (sys _ _ []) 125 149 hU rfl rfl ?_
   refine go_ ?_
   refine ch_n fun hU => ?_
   obtain rfl := Option.some.inj hg
   exact ⟨((W (i_6 - 1), y_14.2, l_2), m6), Nat.lt_succ_self _, hn6, sub_ [(0, 0), (1, 1), (2, 2), (3, 3), (4, 101)]⟩
  ·refine awp_exit ?_
   repeat first | refine st_ ?_ | refine sn_ ?_
   replace hg := leave hg hn6
   refine sr_ 21 37 hU ?_
   refine go_ ?_
   refine ch_n fun hU => ?_
   refine aw_r ?_
   obtain rfl := Option.some.inj hg
   exact fin_ [(0, 0), (1, 3)] ⟨rfl, rfl⟩
theorem w_make_Owners (d : cipherplanmake_Dice) (r : api_Owners × cipherplanmake_Dice) (hg : g_make_Owners d = some r) : Fn Tryz.prog 9 1 [.ptr 0 0] [.box [.sl 1 (encL eI d.L), .val (.int .i64 d.At)] 66] (fun d' b' => d' = .agg [.sl 1 (encL eI r.1.Keys), .val (.int .i64 r.1.Need)] ∧ b' = [.box [.sl 1 (encL eI r.2.L), .val (.int .i64 r.2.At)] 66]) := by
 unfold g_make_Owners at hg
 refine Fn.of Tryz.func9 rfl rfl rfl fun w0 I ρ0 => ?_
 show awp _ ⟨w0, I, ρ0, 1, 1, 8, none⟩ _ _ _
 refine sr_ 1 9 mk_U ?_
 refine go_ ?_
 refine ch_n fun hU => ?_
 refine sr_ 9 57 hU ?_
 refine c0_ rfl rfl (r_buildFull sl22 z3 (by decide) rfl rfl rfl rfl ck3 (cs := [.int .i64 51, .int .i64 52, .int .i64 53]) (.cons .int (.cons .int (.cons .int .nil))) rfl (l := ([51, 52, 53] : List Int)) (f := eI) rfl) rfl rfl ?_
 refine go_ ?_
 obtain ⟨y, hy, hg⟩ := bind_some hg
 refine cb_ [0] [0] [] false (w_make_Dice_Next _ _ _ hy) ?_
 refine go_ ?_
 refine c0_ rfl rfl (.build (r := [.row 9, .val (.int .i64 (W (1 + y.1)))]) und33 pl33 z33 (by kernel_rfl) rfl) rfl rfl ?_
 refine go_ ?_
 refine ch_n fun hU => ?_
 refine aw_r ?_
 obtain rfl := Option.some.inj hg
 exact fin_ [(0, 0)] ⟨rfl, rfl⟩
theorem w_make_size (d : cipherplanmake_Dice) (a : Int) (r : Int × cipherplanmake_Dice) (hg : g_make_size d a = some r) : Fn Tryz.prog 24 1 [.ptr 0 0, .val (.int .i64 a)] [.box [.sl 1 (encL eI d.L), .val (.int .i64 d.At)] 66] (fun d' b' => d' = .val (.int .i64 r.1) ∧ b' = [.box [.sl 1 (encL eI r.2.L), .val (.int .i64 r.2.At)] 66]) := by
 unfold g_make_size at hg
 refine Fn.of Tryz.func24 rfl rfl rfl fun w0 I ρ0 => ?_
 show awp _ ⟨w0, I, ρ0, 1, 1, 46, none⟩ _ _ _
 refine sr_ 1 9 mk_U ?_
 refine go_ ?_
 refine ch_n fun hU => ?_
 refine awp_seq ?_
 refine sr_ 9 17 hU ?_
 refine go_ ?_
 refine ch_n fun hU => ?_
 refine awp_block ?_
 refine awp_cut (ι := Bool) (fun (x6_1 : Bool) => mk [(0, .ptr 0 0), (5, .val (.int .i64 a)), (6, .val (.bool x6_1))] [(0, .box [.sl 1 (encL eI d.L), .val (.int .i64 d.At)] 66)] 1) (fun (x6_1 : Bool) => g_make_size.j1 d a x6_1 = some r) ?_ ?_
 ·refine awp_seq ?_
  refine awp_region (sys _ _ []) 17 33 hU rfl rfl ?_
  refine go_ ?_
  refine ch_n fun hU => ?_
  refine cg_ rfl hg (fun h4 hg => ?_) fun h4 hg => ?_
  ·refine awp_skip ?_
   repeat first | refine st_ ?_ | refine sn_ ?_
   exact ⟨decide (a = 5), hg, sub_ [(0, 0)]⟩
  ·refine awp_seq ?_
   refine awp_region (sys _ _ []) 33 49 hU rfl rfl ?_
   refine go_ ?_
   refine ch_n fun hU => ?_
   refine cg_ rfl hg (fun h6 hg => ?_) fun h6 hg => ?_
   ·refine awp_skip ?_
    repeat first | refine st_ ?_ | refine sn_ ?_
    exact ⟨decide (a = 6), hg, sub_ [(0, 0)]⟩
   ·refine awp_seq ?_
    refine awp_region (sys _ _ []) 49 65 hU rfl rfl ?_
    refine go_ ?_
    refine ch_n fun hU => ?_
    refine cg_ rfl hg (fun h8 hg => ?_) fun h8 hg => ?_
    ·refine awp_skip ?_
     repeat first | refine st_ ?_ | refine sn_ ?_
     exact ⟨decide (a = 10), hg, sub_ [(0, 0)]⟩
    ·refine awp_region (sys _ _ []) 65 81 hU rfl rfl ?_
     refine go_ ?_
     refine ch_n fun hU => ?_
     exact ⟨decide (a = 11), hg, sub_ [(0, 0)]⟩
 ·rintro x6_1 hg
  replace hg : g_make_size.j1 d a x6_1 = some r := hg
  show awp _ _ _ _ (mk _ _ _)
  unfold g_make_size.j1 at hg
  refine cg_ rfl hg (fun h10 hg => ?_) fun h10 hg => ?_
  ·refine awp_seq ?_
   refine awp_region (sys _ _ [9]) 1 33 mk_U rfl rfl ?_
   refine go_ ?_
   refine ch_z (rd := []) rfl rfl (r_buildFull sl22 z3 (by decide) rfl rfl rfl rfl ck3 (cs := [.int .i64 2048, .int .i64 1024, .int .i64 512, .int .i64 3072, .int .i64 1023, .int .i64 4096, .int .i64 16384]) (.cons .int (.cons .int (.cons .int (.cons .int (.cons .int (.cons .int (.cons .int .nil))))))) rfl (l := ([2048, 1024, 512, 3072, 1023, 4096, 16384] : List Int)) (f := eI) rfl) rfl rfl rfl ?_
   obtain ⟨y, hy, hg⟩ := bind_some hg
   refine cb_ [0] [0] [] false (w_make_Dice_Of _ _ _ hy) ?_
   refine go_ ?_
   refine ch_n fun hU => ?_
   refine aw_r ?_
   obtain rfl := Option.some.inj hg
   exact fin_ [(0, 0)] ⟨rfl, rfl⟩
  ·refine awp_cut (ι := Bool) (fun (x14_2 : Bool) => mk [(0, .ptr 0 0), (5, .val (.int .i64 a)), (14, .val (.bool x14_2))] [(0, .box [.sl 1 (encL eI d.L), .val (.int .i64 d.At)] 66)] 1) (fun (x14_2 : Bool) => g_make_size.j2 d a x14_2 = some r) ?_ ?_
   ·refine awp_seq ?_
    refine awp_region (sys _ _ []) 1 17 mk_U rfl rfl ?_
    refine go_ ?_
    refine ch_n fun hU => ?_
    refine cg_ rfl hg (fun h13 hg => ?_) fun h13 hg => ?_
    ·refine awp_skip ?_
     repeat first | refine st_ ?_ | refine sn_ ?_
     exact ⟨decide (a = 7), hg, sub_ [(0, 0)]⟩
    ·refine awp_region (sys _ _ []) 17 33 hU rfl rfl ?_
     refine go_ ?_
     refine ch_n fun hU => ?_
     exact ⟨decide (a = 12), hg, sub_ [(0, 0)]⟩
   ·rintro x14_2 hg
    replace hg : g_make_size.j2 d a x14_2 = some r := hg
    show awp _ _ _ _ (mk _ _ _)
    unfold g_make_size.j2 at hg
    refine cg_ rfl hg (fun h15 hg => ?_) fun h15 hg => ?_
    ·refine awp_seq ?_
     refine awp_region (sys _ _ [9]) 1 33 mk_U rfl rfl ?_
     refine go_ ?_
     refine ch_z (rd := []) rfl rfl (r_buildFull sl22 z3 (by decide) rfl rfl rfl rfl ck3 (cs := [.int .i64 256, .int .i64 160, .int .i64 224, .int .i64 384, .int .i64 521]) (.cons .int (.cons .int (.cons .int (.cons .int (.cons .int .nil))))) rfl (l := ([256, 160, 224, 384, 521] : List Int)) (f := eI) rfl) rfl rfl rfl ?_
     obtain ⟨y_2, hy_2, hg⟩ := bind_some hg
     refine cb_ [0] [0] [] false (w_make_Dice_Of _ _ _ hy_2) ?_
     refine go_ ?_
     refine ch_n fun hU => ?_
     refine aw_r ?_
     obtain rfl := Option.some.inj hg
     exact fin_ [(0, 0)] ⟨rfl, rfl⟩
    ·refine awp_seq ?_
     refine awp_region (sys _ _ []) 1 17 mk_U rfl rfl ?_
     refine go_ ?_
     refine ch_n fun hU => ?_
     refine cg_ rfl hg (fun h18 hg => ?_) fun h18 hg => ?_
     ·refine awp_seq ?_
      refine awp_region (sys _ _ [25]) 17 49 hU rfl rfl ?_
      refine go_ ?_
      refine ch_z (rd := []) rfl rfl (r_buildFull sl22 z3 (by decide) rfl rfl rfl rfl ck3 (cs := [.int .i64 65, .int .i64 44, .int .i64 87]) (.cons .int (.cons .int (.cons .int .nil))) rfl (l := ([65, 44, 87] : List Int)) (f := eI) rfl) rfl rfl rfl ?_
      obtain ⟨y_3, hy_3, hg⟩ := bind_some hg
      refine cb_ [0] [0] [] false (w_make_Dice_Of _ _ _ hy_3) ?_
      refine go_ ?_
      refine ch_n fun hU => ?_
      refine aw_r ?_
      obtain rfl := Option.some.inj hg
      exact fin_ [(0, 0)] ⟨rfl, rfl⟩
     ·refine awp_seq ?_
      refine awp_region (sys _ _ []) 17 33 hU rfl rfl ?_
      refine go_ ?_
      refine ch_n fun hU => ?_
      refine cg_ rfl hg (fun h21 hg => ?_) fun h21 hg => ?_
      ·refine awp_seq ?_
       refine awp_region (sys _ _ [41]) 33 65 hU rfl rfl ?_
       refine go_ ?_
       refine ch_z (rd := []) rfl rfl (r_buildFull sl22 z3 (by decide) rfl rfl rfl rfl ck3 (cs := [.int .i64 768, .int .i64 512, .int .i64 1024]) (.cons .int (.cons .int (.cons .int .nil))) rfl (l := ([768, 512, 1024] : List Int)) (f := eI) rfl) rfl rfl rfl ?_
       obtain ⟨y_4, hy_4, hg⟩ := bind_some hg
       refine cb_ [0] [0] [] false (w_make_Dice_Of _ _ _ hy_4) ?_
       refine go_ ?_
       refine ch_n fun hU => ?_
       refine aw_r ?_
       obtain rfl := Option.some.inj hg
       exact fin_ [(0, 0)] ⟨rfl, rfl⟩
      ·refine awp_seq ?_
       refine awp_region (sys _ _ []) 33 49 hU rfl rfl ?_
       refine go_ ?_
       refine ch_n fun hU => ?_
       refine cg_ rfl hg (fun h24 hg => ?_) fun h24 hg => ?_
       ·refine awp_seq ?_
        refine awp_region (sys _ _ [57]) 49 81 hU rfl rfl ?_
        refine go_ ?_
        refine ch_z (rd := []) rfl rfl (r_buildFull sl22 z3 (by decide) rfl rfl rfl rfl ck3 (cs := [.int .i64 128, .int .i64 40]) (.cons .int (.cons .int .nil)) rfl (l := ([128, 40] : List Int)) (f := eI) rfl) rfl rfl rfl ?_
        obtain ⟨y_5, hy_5, hg⟩ := bind_some hg
        refine cb_ [0] [0] [] false (w_make_Dice_Of _ _ _ hy_5) ?_
        refine go_ ?_
        refine ch_n fun hU => ?_
        refine aw_r ?_
        obtain rfl := Option.some.inj hg
        exact fin_ [(0, 0)] ⟨rfl, rfl⟩
       ·refine awp_seq ?_
        refine awp_region (sys _ _ []) 49 65 hU rfl rfl ?_
        refine go_ ?_
        refine ch_n fun hU => ?_
        refine cg_ rfl hg (fun h27 hg => ?_) fun h27 hg => ?_
        ·refine awp_seq ?_
         refine awp_region (sys _ _ [73]) 65 97 hU rfl rfl ?_
         refine go_ ?_
         refine ch_z (rd := []) rfl rfl (r_buildFull sl22 z3 (by decide) rfl rfl rfl rfl ck3 (cs := [.int .i64 168, .int .i64 112]) (.cons .int (.cons .int .nil)) rfl (l := ([168, 112] : List Int)) (f := eI) rfl) rfl rfl rfl ?_
         obtain ⟨y_6, hy_6, hg⟩ := bind_some hg
         refine cb_ [0] [0] [] false (w_make_Dice_Of _ _ _ hy_6) ?_
         refine go_ ?_
         refine ch_n fun hU => ?_
         refine aw_r ?_
         obtain rfl := Option.some.inj hg
         exact fin_ [(0, 0)] ⟨rfl, rfl⟩
        ·refine awp_cut (ι := Bool) (fun (x40_3 : Bool) => mk [(0, .ptr 0 0), (40, .val (.bool x40_3))] [(0, .box [.sl 1 (encL eI d.L), .val (.int .i64 d.At)] 66)] 1) (fun (x40_3 : Bool) => g_make_size.j3 d x40_3 = some r) ?_ ?_
         ·refine awp_seq ?_
          refine awp_region (sys _ _ []) 65 81 hU rfl rfl ?_
          refine go_ ?_
          refine ch_n fun hU => ?_
          refine cg_ rfl hg (fun h30 hg => ?_) fun h30 hg => ?_
          ·refine awp_skip ?_
           repeat first | refine st_ ?_ | refine sn_ ?_
           exact ⟨decide (a = 16), hg, sub_ [(0, 0)]⟩
          ·refine awp_region (sys _ _ []) 81 97 hU rfl rfl ?_
           refine go_ ?_
           refine ch_n fun hU => ?_
           exact ⟨decide (a = 17), hg, sub_ [(0, 0)]⟩
         ·rintro x40_3 hg
          replace hg : g_make_size.j3 d x40_3 = some r := hg
          show awp _ _ _ _ (mk _ _ _)
          unfold g_make_size.j3 at hg
          refine cg_ rfl hg (fun h32 hg => ?_) fun h32 hg => ?_
          ·refine awp_seq ?_
           refine awp_region (sys _ _ [9]) 1 33 mk_U rfl rfl ?_
           refine go_ ?_
           refine ch_z (rd := []) rfl rfl (r_buildFull sl22 z3 (by decide) rfl rfl rfl rfl ck3 (cs := [.int .i64 128, .int .i64 256]) (.cons .int (.cons .int .nil)) rfl (l := ([128, 256] : List Int)) (f := eI) rfl) rfl rfl rfl ?_
           obtain ⟨y_7, hy_7, hg⟩ := bind_some hg
           refine cb_ [0] [0] [] false (w_make_Dice_Of _ _ _ hy_7) ?_
           refine go_ ?_
           refine ch_n fun hU => ?_
           refine aw_r ?_
           obtain rfl := Option.some.inj hg
           exact fin_ [(0, 0)] ⟨rfl, rfl⟩
          ·refine awp_skip ?_
           repeat first | refine st_ ?_ | refine sn_ ?_
           refine sr_ 1 9 mk_U ?_
           refine go_ ?_
           refine ch_n fun hU => ?_
           refine aw_r ?_
           obtain rfl := Option.some.inj hg
           exact fin_ [(0, 0)] ⟨rfl, rfl⟩
theorem w_make_Use (d : cipherplanmake_Dice) (r : api_Use × cipherplanmake_Dice) (hg : g_make_Use d = some r) : Fn Tryz.prog 10 1 [.ptr 0 0] [.box [.sl 1 (encL eI d.L), .val (.int .i64 d.At)] 66] (fun d' b' => d' = .agg [.val (.int .i64 r.1.Alg), .val (.int .i64 r.1.Bits)] ∧ b' = [.box [.sl 1 (encL eI r.2.L), .val (.int .i64 r.2.At)] 66]) := by
 unfold g_make_Use at hg
 refine Fn.of Tryz.func10 rfl rfl rfl fun w0 I ρ0 => ?_
 show awp _ ⟨w0, I, ρ0, 1, 1, 12, none⟩ _ _ _
 refine sr_ 1 9 mk_U ?_
 refine go_ ?_
 refine ch_n fun hU => ?_
 refine sr_ 9 41 hU ?_
 refine go_ ?_
 obtain ⟨y, hy, hg⟩ := bind_some hg
 refine cb_ [0] [0] [] false (w_make_Dice_Next _ _ _ hy) ?_
 refine go_ ?_
 refine ch_n fun hU => ?_
 refine sr_ 41 89 hU ?_
 refine go_ ?_
 obtain ⟨y_2, hy_2, hg⟩ := bind_some hg
 refine cb_ [0] [0] [] false (w_make_size _ _ _ hy_2) ?_
 refine c0_ rfl rfl (.build (r := [.val (.int .i64 (W (1 + y.1))), .val (.int .i64 y_2.1)]) und36 pl36 z36 (by kernel_rfl) rfl) rfl rfl ?_
 refine go_ ?_
 refine ch_n fun hU => ?_
 refine aw_r ?_
 obtain rfl := Option.some.inj hg
 exact fin_ [(0, 0)] ⟨rfl, rfl⟩
theorem w_make_Dice_Word (d : cipherplanmake_Dice) (l : (List ByteArray)) (r : ByteArray × cipherplanmake_Dice) (hg : g_make_Dice_Word d l = some r) : Fn Tryz.prog 16 1 [.ptr 0 0, .sl 1 (encL eS l)] [.box [.sl 1 (encL eI d.L), .val (.int .i64 d.At)] 66] (fun d' b' => d' = .val (.string r.1) ∧ b' = [.box [.sl 1 (encL eI r.2.L), .val (.int .i64 r.2.At)] 66]) := by
 unfold g_make_Dice_Word at hg
 refine Fn.of Tryz.func16 rfl rfl rfl fun w0 I ρ0 => ?_
 show awp _ ⟨w0, I, ρ0, 1, 1, 12, none⟩ _ _ _
 refine sr_ 1 9 mk_U ?_
 refine go_ ?_
 refine ch_n fun hU => ?_
 refine sr_ 9 73 hU ?_
 refine go_ ?_
 obtain ⟨y, hy, hg⟩ := bind_some hg
 refine cb_ [0] [0] [] false (w_make_Dice_Next _ _ _ hy) ?_
 obtain ⟨e, he, hg⟩ := bind_some hg
 refine go_ ?_
 refine c0_ rfl rfl (r_loadE1 ty9 (enc_cell eS_len (getI_at he) (o := 0) (c := .str e) rfl rfl)) rfl rfl ?_
 refine go_ ?_
 refine ch_n fun hU => ?_
 refine aw_r ?_
 obtain rfl := Option.some.inj hg
 exact fin_ [(0, 0)] ⟨rfl, rfl⟩
theorem w_ref02_modulus (b : Int) (r : Int) (hg : g_ref02_modulus b = some r) : Fn Tryz.prog 97 0 [.val (.int .i64 b)] [] (fun d' b' => d' = .val (.int .i64 r) ∧ b' = []) := by
 unfold g_ref02_modulus at hg
 refine Fn.of Tryz.func97 rfl rfl rfl fun w0 I ρ0 => ?_
 show awp _ ⟨w0, I, ρ0, 0, 0, 25, none⟩ _ _ _
 refine sr_ 0 8 mk_U ?_
 refine go_ ?_
 refine ch_n fun hU => ?_
 refine awp_seq ?_
 refine awp_block ?_
 refine awp_cut (ι := Bool) (fun (x3_1 : Bool) => mk [(0, .val (.int .i64 b)), (3, .val (.bool x3_1))] [] 0) (fun (x3_1 : Bool) => g_ref02_modulus.j1 b x3_1 = some r) ?_ ?_
 ·refine awp_region (sys _ _ []) 8 64 hU rfl rfl ?_
  refine go_ ?_
  rcases bc_ hg with ⟨h2, hg⟩ | ⟨h2, hg⟩
  ·refine go_ ?_
   refine ch_n fun hU => ?_
   exact ⟨true, hg, sub_ []⟩
  ·refine go_ ?_
   refine ch_n fun hU => ?_
   exact ⟨decide (16384 < b), hg, sub_ []⟩
 ·rintro x3_1 hg
  replace hg : g_ref02_modulus.j1 b x3_1 = some r := hg
  show awp _ _ _ _ (mk _ _ _)
  unfold g_ref02_modulus.j1 at hg
  refine cg_ rfl hg (fun h5 hg => ?_) fun h5 hg => ?_
  ·refine awp_seq ?_
   refine awp_region (sys _ _ []) 0 8 mk_U rfl rfl ?_
   refine go_ ?_
   refine ch_n fun hU => ?_
   refine aw_r ?_
   obtain rfl := Option.some.inj hg
   exact fin_ [] ⟨rfl, rfl⟩
  ·refine awp_seq ?_
   refine awp_region (sys _ _ []) 0 24 mk_U rfl rfl ?_
   refine go_ ?_
   refine ch_n fun hU => ?_
   refine cg_ rfl hg (fun h8 hg => ?_) fun h8 hg => ?_
   ·refine awp_seq ?_
    refine awp_region (sys _ _ []) 24 32 hU rfl rfl ?_
    refine go_ ?_
    refine ch_n fun hU => ?_
    refine aw_r ?_
    obtain rfl := Option.some.inj hg
    exact fin_ [] ⟨rfl, rfl⟩
   ·refine awp_seq ?_
    refine awp_region (sys _ _ []) 24 48 hU rfl rfl ?_
    refine go_ ?_
    refine ch_n fun hU => ?_
    refine cg_ rfl hg (fun h11 hg => ?_) fun h11 hg => ?_
    ·refine awp_seq ?_
     refine awp_region (sys _ _ []) 48 56 hU rfl rfl ?_
     refine go_ ?_
     refine ch_n fun hU => ?_
     refine aw_r ?_
     obtain rfl := Option.some.inj hg
     exact fin_ [] ⟨rfl, rfl⟩
    ·refine awp_seq ?_
     refine awp_region (sys _ _ []) 48 72 hU rfl rfl ?_
     refine go_ ?_
     refine ch_n fun hU => ?_
     refine cg_ rfl hg (fun h14 hg => ?_) fun h14 hg => ?_
     ·refine awp_seq ?_
      refine awp_region (sys _ _ []) 72 80 hU rfl rfl ?_
      refine go_ ?_
      refine ch_n fun hU => ?_
      refine aw_r ?_
      obtain rfl := Option.some.inj hg
      exact fin_ [] ⟨rfl, rfl⟩
     ·refine awp_seq ?_
      refine awp_region (sys _ _ []) 72 96 hU rfl rfl ?_
      refine go_ ?_
      refine ch_n fun hU => ?_
      refine cg_ rfl hg (fun h17 hg => ?_) fun h17 hg => ?_
      ·refine awp_seq ?_
       refine awp_region (sys _ _ []) 96 104 hU rfl rfl ?_
       refine go_ ?_
       refine ch_n fun hU => ?_
       refine aw_r ?_
       obtain rfl := Option.some.inj hg
       exact fin_ [] ⟨rfl, rfl⟩
      ·refine awp_seq ?_
       refine awp_region (sys _ _ []) 96 120 hU rfl rfl ?_
       refine go_ ?_
       refine ch_n fun hU => ?_
       refine cg_ rfl hg (fun h20 hg => ?_) fun h20 hg => ?_
       ·refine awp_seq ?_
        refine awp_region (sys _ _ []) 120 128 hU rfl rfl ?_
        refine go_ ?_
        refine ch_n fun hU => ?_
        refine aw_r ?_
        obtain rfl := Option.some.inj hg
        exact fin_ [] ⟨rfl, rfl⟩
       ·refine awp_skip ?_
        repeat first | refine st_ ?_ | refine sn_ ?_
        refine sr_ 120 128 hU ?_
        refine go_ ?_
        refine ch_n fun hU => ?_
        refine aw_r ?_
        obtain rfl := Option.some.inj hg
        exact fin_ [] ⟨rfl, rfl⟩
theorem w_ref02_among (b : Int) (sizes : (List Int)) (strengths : (List Int)) (r : Int) (hg : g_ref02_among b sizes strengths = some r) : Fn Tryz.prog 98 0 [.val (.int .i64 b), .sl 1 (encL eI sizes), .sl 1 (encL eI strengths)] [] (fun d' b' => d' = .val (.int .i64 r) ∧ b' = []) := by
 unfold g_ref02_among at hg
 refine Fn.of Tryz.func98 rfl rfl rfl fun w0 I ρ0 => ?_
 show awp _ ⟨w0, I, ρ0, 0, 0, 24, none⟩ _ _ _
 refine sr_ 0 8 mk_U ?_
 refine go_ ?_
 refine ch_n fun hU => ?_
 refine awp_seq ?_
 refine sr_ 8 16 hU ?_
 refine go_ ?_
 refine ch_n fun hU => ?_
 refine awp_block ?_
 refine lp_ (fun (i_1 : Int) => mk [(0, .val (.int .i64 b)), (1, .sl 1 (encL eI sizes)), (2, .sl 1 (encL eI strengths)), (7, .val (.int .i64 i_1))] [] 0) hg (sub_ []) ?_
 rintro i_1 m1 o1 hg hn1
 replace hg : g_ref02_among.l1 b sizes strengths i_1 = some o1 := hg
 show awp _ _ _ _ (mk _ _ _)
 unfold g_ref02_among.l1 at hg
 refine awp_seq ?_
 refine sr_ 0 32 mk_U ?_
 refine go_ ?_
 refine ch_n fun hU => ?_
 refine cg_ rfl hg (fun h4 hg => ?_) fun h4 hg => ?_
 ·refine awp_skip ?_
  repeat first | refine st_ ?_ | refine sn_ ?_
  refine awp_seq ?_
  refine awp_block ?_
  refine sr_ 32 80 hU ?_
  refine go_ ?_
  obtain ⟨e, he, hg⟩ := bind_some hg
  refine go_ ?_
  refine c0_ rfl rfl (r_loadE1 ty3 (enc_cell eI_len (getI_at he) (o := 0) (c := .int .i64 e) rfl rfl)) rfl rfl ?_
  refine go_ ?_
  refine ch_n fun hU => ?_
  refine cg_ rfl hg (fun h6 hg => ?_) fun h6 hg => ?_
  ·refine awp_seq ?_
   refine awp_region (sys _ _ []) 80 120 hU rfl rfl ?_
   refine go_ ?_
   obtain ⟨e_2, he_2, hg⟩ := bind_some hg
   refine go_ ?_
   refine c0_ rfl rfl (r_loadE1 ty3 (enc_cell eI_len (getI_at he_2) (o := 0) (c := .int .i64 e_2) rfl rfl)) rfl rfl ?_
   refine go_ ?_
   refine ch_n fun hU => ?_
   refine aw_r ?_
   replace hg := leave hg hn1
   obtain rfl := Option.some.inj hg
   exact fin_ [] ⟨rfl, rfl⟩
  ·refine awp_skip ?_
   repeat first | refine st_ ?_ | refine sn_ ?_
   refine awp_region (sys _ _ []) 80 104 hU rfl rfl ?_
   refine go_ ?_
   refine ch_n fun hU => ?_
   obtain rfl := Option.some.inj hg
   exact ⟨(W (i_1 + 1), m1), Nat.lt_succ_self _, hn1, sub_ []⟩
 ·refine awp_exit ?_
  repeat first | refine st_ ?_ | refine sn_ ?_
  replace hg := leave hg hn1
  refine sr_ 32 40 hU ?_
  refine go_ ?_
  refine ch_n fun hU => ?_
  refine aw_r ?_
  obtain rfl := Option.some.inj hg
  exact fin_ [] ⟨rfl, rfl⟩
theorem w_ref02_single (alg : Int) (r : Int) (hg : g_ref02_single alg = some r) : Fn Tryz.prog 99 0 [.val (.int .i64 alg)] [] (fun d' b' => d' = .val (.int .i64 r) ∧ b' = []) := by
 unfold g_ref02_single at hg
 refine Fn.of Tryz.func99 rfl rfl rfl fun w0 I ρ0 => ?_
 show awp _ ⟨w0, I, ρ0, 0, 0, 21, none⟩ _ _ _
 refine sr_ 0 8 mk_U ?_
 refine go_ ?_
 refine ch_n fun hU => ?_
 refine awp_seq ?_
 refine sr_ 8 16 hU ?_
 refine go_ ?_
 refine ch_n fun hU => ?_
 refine awp_block ?_
 refine sr_ 16 32 hU ?_
 refine go_ ?_
 refine ch_n fun hU => ?_
 refine cg_ rfl hg (fun h4 hg => ?_) fun h4 hg => ?_
 ·refine awp_seq ?_
  refine awp_region (sys _ _ []) 32 40 hU rfl rfl ?_
  refine go_ ?_
  refine ch_n fun hU => ?_
  refine aw_r ?_
  obtain rfl := Option.some.inj hg
  exact fin_ [] ⟨rfl, rfl⟩
 ·refine awp_seq ?_
  refine awp_region (sys _ _ []) 32 48 hU rfl rfl ?_
  refine go_ ?_
  refine ch_n fun hU => ?_
  refine cg_ rfl hg (fun h7 hg => ?_) fun h7 hg => ?_
  ·refine awp_seq ?_
   refine awp_region (sys _ _ []) 48 56 hU rfl rfl ?_
   refine go_ ?_
   refine ch_n fun hU => ?_
   refine aw_r ?_
   obtain rfl := Option.some.inj hg
   exact fin_ [] ⟨rfl, rfl⟩
  ·refine awp_cut (ι := Bool) (fun (x8_1 : Bool) => mk [(3, .val (.int .i64 alg)), (8, .val (.bool x8_1))] [] 0) (fun (x8_1 : Bool) => g_ref02_single.j1 alg x8_1 = some r) ?_ ?_
   ·refine awp_seq ?_
    refine awp_region (sys _ _ []) 48 64 hU rfl rfl ?_
    refine go_ ?_
    refine ch_n fun hU => ?_
    refine cg_ rfl hg (fun h10 hg => ?_) fun h10 hg => ?_
    ·refine awp_skip ?_
     repeat first | refine st_ ?_ | refine sn_ ?_
     exact ⟨decide (alg = 3), hg, sub_ []⟩
    ·refine awp_seq ?_
     refine awp_region (sys _ _ []) 64 80 hU rfl rfl ?_
     refine go_ ?_
     refine ch_n fun hU => ?_
     refine cg_ rfl hg (fun h12 hg => ?_) fun h12 hg => ?_
     ·refine awp_skip ?_
      repeat first | refine st_ ?_ | refine sn_ ?_
      exact ⟨decide (alg = 8), hg, sub_ []⟩
     ·refine awp_region (sys _ _ []) 80 96 hU rfl rfl ?_
      refine go_ ?_
      refine ch_n fun hU => ?_
      exact ⟨decide (alg = 21), hg, sub_ []⟩
   ·rintro x8_1 hg
    replace hg : g_ref02_single.j1 alg x8_1 = some r := hg
    show awp _ _ _ _ (mk _ _ _)
    unfold g_ref02_single.j1 at hg
    refine cg_ rfl hg (fun h14 hg => ?_) fun h14 hg => ?_
    ·refine awp_seq ?_
     refine awp_region (sys _ _ []) 0 8 mk_U rfl rfl ?_
     refine go_ ?_
     refine ch_n fun hU => ?_
     refine aw_r ?_
     obtain rfl := Option.some.inj hg
     exact fin_ [] ⟨rfl, rfl⟩
    ·refine awp_seq ?_
     refine awp_region (sys _ _ []) 0 16 mk_U rfl rfl ?_
     refine go_ ?_
     refine ch_n fun hU => ?_
     refine cg_ rfl hg (fun h17 hg => ?_) fun h17 hg => ?_
     ·refine awp_seq ?_
      refine awp_region (sys _ _ []) 16 24 hU rfl rfl ?_
      refine go_ ?_
      refine ch_n fun hU => ?_
      refine aw_r ?_
      obtain rfl := Option.some.inj hg
      exact fin_ [] ⟨rfl, rfl⟩
     ·refine awp_cut (ι := Bool) (fun (x14_2 : Bool) => mk [(3, .val (.int .i64 alg)), (14, .val (.bool x14_2))] [] 0) (fun (x14_2 : Bool) => g_ref02_single.j2 alg x14_2 = some r) ?_ ?_
      ·refine awp_seq ?_
       refine awp_region (sys _ _ []) 16 32 hU rfl rfl ?_
       refine go_ ?_
       refine ch_n fun hU => ?_
       refine cg_ rfl hg (fun h20 hg => ?_) fun h20 hg => ?_
       ·refine awp_skip ?_
        repeat first | refine st_ ?_ | refine sn_ ?_
        exact ⟨decide (alg = 18), hg, sub_ []⟩
       ·refine awp_region (sys _ _ []) 32 48 hU rfl rfl ?_
        refine go_ ?_
        refine ch_n fun hU => ?_
        exact ⟨decide (alg = 22), hg, sub_ []⟩
      ·rintro x14_2 hg
       replace hg : g_ref02_single.j2 alg x14_2 = some r := hg
       show awp _ _ _ _ (mk _ _ _)
       unfold g_ref02_single.j2 at hg
       refine cg_ rfl hg (fun h22 hg => ?_) fun h22 hg => ?_
       ·refine awp_seq ?_
        refine awp_region (sys _ _ []) 0 8 mk_U rfl rfl ?_
        refine go_ ?_
        refine ch_n fun hU => ?_
        refine aw_r ?_
        obtain rfl := Option.some.inj hg
        exact fin_ [] ⟨rfl, rfl⟩
       ·refine awp_seq ?_
        refine awp_region (sys _ _ []) 0 16 mk_U rfl rfl ?_
        refine go_ ?_
        refine ch_n fun hU => ?_
        refine cg_ rfl hg (fun h25 hg => ?_) fun h25 hg => ?_
        ·refine awp_seq ?_
         refine awp_region (sys _ _ []) 16 24 hU rfl rfl ?_
         refine go_ ?_
         refine ch_n fun hU => ?_
         refine aw_r ?_
         obtain rfl := Option.some.inj hg
         exact fin_ [] ⟨rfl, rfl⟩
        ·refine awp_seq ?_
         refine awp_region (sys _ _ []) 16 32 hU rfl rfl ?_
         refine go_ ?_
         refine ch_n fun hU => ?_
         refine cg_ rfl hg (fun h28 hg => ?_) fun h28 hg => ?_
         ·refine awp_seq ?_
          refine awp_region (sys _ _ []) 32 40 hU rfl rfl ?_
          refine go_ ?_
          refine ch_n fun hU => ?_
          refine aw_r ?_
          obtain rfl := Option.some.inj hg
          exact fin_ [] ⟨rfl, rfl⟩
         ·refine awp_skip ?_
          repeat first | refine st_ ?_ | refine sn_ ?_
          refine sr_ 32 40 hU ?_
          refine go_ ?_
          refine ch_n fun hU => ?_
          refine aw_r ?_
          obtain rfl := Option.some.inj hg
          exact fin_ [] ⟨rfl, rfl⟩
end Go.Proofs.YtmbhoimeiahbaaaGreat
