/- The program computes the plain functions. -/
import Derived.Test.YtadjcdhcdmiifaaGreatT1
import Derived.Test.YtadjcdhcdmiifaaGreatA1
import Derived.Test.YtadjcdhcdmiifaaGreatA5
import Derived.Test.YtadjcdhcdmiifaaGreatA6
set_option linter.unusedVariables false
set_option linter.unusedSimpArgs false
set_option maxRecDepth 100000
set_option maxHeartbeats 1600000
namespace Go.Proofs.YtadjcdhcdmiifaaGreat
open Go.RowKit

theorem w_ref03_CopyChain (l : (List api_Certificate)) (r : (List api_Certificate)) (hg : g_ref03_CopyChain l = some r) : Fn Tryz.prog 32 0 [.sl 15 (encL api_Certificate.enc l)] [] (fun d b => d = .sl 15 (encL api_Certificate.enc r) ∧ b = []) := by
 unfold g_ref03_CopyChain at hg
 refine Fn.of Tryz.func32 rfl rfl rfl fun w0 I ρ0 => ?_
 show awp _ ⟨w0, I, ρ0, 0, 0, 20⟩ _ _ _
 refine sr_ 0 8 mk_U ?_
 refine go_ ?_
 refine ch_n fun hU => ?_
 refine sr_ 8 16 hU ?_
 refine go_ ?_
 refine ch_n fun hU => ?_
 refine awp_seq ?_
 refine sr_ 16 24 hU ?_
 refine go_ ?_
 refine ch_n fun hU => ?_
 refine awp_block ?_
 refine lp_ (fun ((i_1, out_1) : Int × List api_Certificate) => mk [(0, .sl 15 (encL api_Certificate.enc l)), (3, .row 0), (4, .val (.int .i64 i_1))] [(0, .row 35 15 (encL api_Certificate.enc out_1))] 1) hg (sub_ []) ?_
 rintro ⟨i_1, out_1⟩ m1 o1 hg hn1
 replace hg : g_ref03_CopyChain.l1 l i_1 out_1 = some o1 := hg
 show awp _ _ _ _ (mk _ _ _)
 unfold g_ref03_CopyChain.l1 at hg
 refine awp_seq ?_
 refine sr_ 1 33 mk_U ?_
 refine go_ ?_
 refine ch_n fun hU => ?_
 refine cg_ rfl hg (fun h5 hg => ?_) fun h5 hg => ?_
 ·refine awp_skip ?_
  repeat first | refine st_ ?_ | refine sn_ ?_
  refine awp_seq ?_
  refine awp_block ?_
  refine awp_region (sys _ _ []) 33 105 hU rfl rfl ?_
  refine go_ ?_
  obtain ⟨e, he, hg⟩ := bind_some hg
  refine go_ ?_
  refine c0_ rfl rfl (r_loadEA ty35 (enc_cells api_Certificate.enc_len (getI_at he) (o := 0) (m := 15) (cs := [.int .i64 e.Serial, .str e.Issuer, .str e.Subject, .int .i64 e.Key.Alg, .int .i64 e.Key.Bits, .int .i64 e.KeyId, .int .i64 e.Hash.Alg, .int .i64 e.Hash.Bits, .int .i64 e.From, .int .i64 e.To, .bool e.Authority, .int .i64 e.Path, .sl 1 (encL eS e.Names), .int .i64 e.Seal.Key, .int .i64 e.Seal.Sum]) rfl (by decide) rfl) (enc_cells_le api_Certificate.enc_len (getI_at he) (o := 0) (m := 15) (by decide) rfl)) rfl rfl ?_
  obtain ⟨y, hy, hg⟩ := bind_some hg
  refine ca_ (w_ref03_Copy _ _ hy) ?_
  refine c0_ rfl rfl (r_buildFull sl27 z35 (by decide) rfl rfl rfl rfl ck35 (cs := [.int .i64 y.Serial, .str y.Issuer, .str y.Subject, .int .i64 y.Key.Alg, .int .i64 y.Key.Bits, .int .i64 y.KeyId, .int .i64 y.Hash.Alg, .int .i64 y.Hash.Bits, .int .i64 y.From, .int .i64 y.To, .bool y.Authority, .int .i64 y.Path, .sl 1 (encL eS y.Names), .int .i64 y.Seal.Key, .int .i64 y.Seal.Sum]) (.cons .int (.cons .str (.cons .str (.cons .int (.cons .int (.cons .int (.cons .int (.cons .int (.cons .int (.cons .int (.cons .bool (.cons .int (.cons .sl (.cons .int (.cons .int .nil))))))))))))))) rfl (l := ([y] : List api_Certificate)) (f := api_Certificate.enc) rfl) rfl rfl ?_
  obtain ⟨l_2, hl_2, hg⟩ := bind_some hg
  refine ch_s (rd := [0, 81]) rfl rfl (r_append sl27 api_Certificate.enc_len .row rfl .row rfl hl_2 rfl) rfl rfl ?_
  refine go_ ?_
  refine ch_n fun hU => ?_
  refine awp_region (sys _ _ []) 105 129 hU rfl rfl ?_
  refine go_ ?_
  refine ch_n fun hU => ?_
  obtain rfl := Option.some.inj hg
  exact ⟨((W (i_1 + 1), l_2), m1), Nat.lt_succ_self _, hn1, sub_ [(0, 89)]⟩
 ·refine awp_exit ?_
  repeat first | refine st_ ?_ | refine sn_ ?_
  replace hg := leave hg hn1
  refine sr_ 33 49 hU ?_
  refine go_ ?_
  refine ch_n fun hU => ?_
  refine aw_r ?_
  obtain rfl := Option.some.inj hg
  exact fin_ [] ⟨rfl, rfl⟩
theorem w_ref04_Build (leaf : api_Certificate) (pool : (List api_Certificate)) (anchors : (List Int)) (hashes : (List Int)) (day : Int) (name : ByteArray) (r : (List api_Certificate) × Int) (hg : g_ref04_Build leaf pool anchors hashes day name = some r) : Fn Tryz.prog 14 0 [.agg (api_Certificate.dv leaf), .sl 15 (encL api_Certificate.enc pool), .sl 1 (encL eI anchors), .sl 1 (encL eI hashes), .val (.int .i64 day), .val (.string name)] [] (fun d b => d = .tup [.sl 15 (encL api_Certificate.enc r.1), .val (.int .i64 r.2)] ∧ b = []) := by
 unfold g_ref04_Build at hg
 refine Fn.of Tryz.func14 rfl rfl rfl fun w0 I ρ0 => ?_
 show awp _ ⟨w0, I, ρ0, 0, 0, 45⟩ _ _ _
 refine sr_ 0 24 mk_U ?_
 refine go_ ?_
 refine ch_n fun hU => ?_
 refine awp_seq ?_
 refine sr_ 24 48 hU ?_
 refine go_ ?_
 refine ch_n fun hU => ?_
 refine cg_ rfl hg (fun h3 hg => ?_) fun h3 hg => ?_
 ·refine awp_seq ?_
  refine awp_region (sys _ _ []) 48 64 hU rfl rfl ?_
  refine go_ ?_
  refine ch_n fun hU => ?_
  refine aw_r ?_
  obtain rfl := Option.some.inj hg
  exact fin_ [] ⟨rfl, rfl⟩
 ·refine awp_skip ?_
  repeat first | refine st_ ?_ | refine sn_ ?_
  refine awp_seq ?_
  refine sr_ 48 56 hU ?_
  refine go_ ?_
  refine ch_n fun hU => ?_
  refine awp_block ?_
  refine lp_ (fun (n_1 : Int) => mk [(1, .sl 15 (encL api_Certificate.enc pool)), (2, .sl 1 (encL eI anchors)), (3, .sl 1 (encL eI hashes)), (4, .val (.int .i64 day)), (5, .val (.string name)), (6, .ptr 0 0), (14, .val (.int .i64 n_1))] [(0, .box (api_Certificate.dv leaf) 35)] 1) hg (sub_ [(0, 0)]) ?_
  rintro n_1 m1 o1 hg hn1
  replace hg : g_ref04_Build.l1 leaf pool anchors hashes day name n_1 = some o1 := hg
  show awp _ _ _ _ (mk _ _ _)
  unfold g_ref04_Build.l1 at hg
  refine awp_seq ?_
  refine awp_cut (ι := Bool) (fun (x27_2 : Bool) => mk [(1, .sl 15 (encL api_Certificate.enc pool)), (2, .sl 1 (encL eI anchors)), (3, .sl 1 (encL eI hashes)), (4, .val (.int .i64 day)), (5, .val (.string name)), (6, .ptr 0 0), (14, .val (.int .i64 n_1)), (27, .val (.bool x27_2))] [(0, .box (api_Certificate.dv leaf) 35)] 1) (fun (x27_2 : Bool) => g_ref04_Build.j2 leaf pool anchors hashes day name n_1 x27_2 = some o1) ?_ ?_
  ·refine awp_region (sys _ _ []) 1 65 mk_U rfl rfl ?_
   refine go_ ?_
   rcases bc_ hg with ⟨h6, hg⟩ | ⟨h6, hg⟩
   ·refine go_ ?_
    refine ch_n fun hU => ?_
    exact ⟨decide (n_1 < 8), hg, sub_ [(0, 0)]⟩
   ·refine go_ ?_
    refine ch_n fun hU => ?_
    exact ⟨false, hg, sub_ [(0, 0)]⟩
  ·rintro x27_2 hg
   replace hg : g_ref04_Build.j2 leaf pool anchors hashes day name n_1 x27_2 = some o1 := hg
   show awp _ _ _ _ (mk _ _ _)
   unfold g_ref04_Build.j2 at hg
   refine cg_ rfl hg (fun h9 hg => ?_) fun h9 hg => ?_
   ·refine awp_skip ?_
    repeat first | refine st_ ?_ | refine sn_ ?_
    refine awp_seq ?_
    refine awp_block ?_
    refine awp_seq ?_
    refine awp_region (sys _ _ [9]) 1 113 mk_U rfl rfl ?_
    refine go_ ?_
    refine ch_z (rd := []) rfl rfl (r_buildFull sl27 z35 (by decide) rfl rfl rfl rfl ck35 (cs := [.int .i64 leaf.Serial, .str leaf.Issuer, .str leaf.Subject, .int .i64 leaf.Key.Alg, .int .i64 leaf.Key.Bits, .int .i64 leaf.KeyId, .int .i64 leaf.Hash.Alg, .int .i64 leaf.Hash.Bits, .int .i64 leaf.From, .int .i64 leaf.To, .bool leaf.Authority, .int .i64 leaf.Path, .sl 1 (encL eS leaf.Names), .int .i64 leaf.Seal.Key, .int .i64 leaf.Seal.Sum]) (.cons .int (.cons .str (.cons .str (.cons .int (.cons .int (.cons .int (.cons .int (.cons .int (.cons .int (.cons .int (.cons .bool (.cons .int (.cons .sl (.cons .int (.cons .int .nil))))))))))))))) rfl (l := ([leaf] : List api_Certificate)) (f := api_Certificate.enc) rfl) rfl rfl rfl ?_
    refine go_ ?_
    obtain ⟨y, hy, hg⟩ := bind_some hg
    refine ca_ (w_ref04_extend _ _ _ _ _ _ _ _ _ hy) ?_
    refine go_ ?_
    refine ch_n fun hU => ?_
    refine sr_ 113 121 hU ?_
    refine go_ ?_
    refine ch_n fun hU => ?_
    refine cg_ rfl hg (fun h12 hg => ?_) fun h12 hg => ?_
    ·refine awp_seq ?_
     refine awp_region (sys _ _ []) 121 153 hU rfl rfl ?_
     refine go_ ?_
     obtain ⟨y_2, hy_2, hg⟩ := bind_some hg
     refine ca_ (w_ref03_CopyChain _ _ hy_2) ?_
     refine go_ ?_
     refine ch_n fun hU => ?_
     refine aw_r ?_
     replace hg := leave hg hn1
     obtain rfl := Option.some.inj hg
     exact fin_ [] ⟨rfl, rfl⟩
    ·refine awp_skip ?_
     repeat first | refine st_ ?_ | refine sn_ ?_
     refine awp_region (sys _ _ []) 121 145 hU rfl rfl ?_
     refine go_ ?_
     refine ch_n fun hU => ?_
     obtain rfl := Option.some.inj hg
     exact ⟨(W (n_1 + 1), m1), Nat.lt_succ_self _, hn1, sub_ [(0, 0)]⟩
   ·refine awp_exit ?_
    repeat first | refine st_ ?_ | refine sn_ ?_
    replace hg := leave hg hn1
    refine sr_ 1 17 mk_U ?_
    refine go_ ?_
    refine ch_n fun hU => ?_
    refine aw_r ?_
    obtain rfl := Option.some.inj hg
    exact fin_ [] ⟨rfl, rfl⟩
theorem w_ref02_SameTexts (a : (List ByteArray)) (b : (List ByteArray)) (r : Bool) (hg : g_ref02_SameTexts a b = some r) : Fn Tryz.prog 65 0 [.sl 1 (encL eS a), .sl 1 (encL eS b)] [] (fun d b => d = .val (.bool r) ∧ b = []) := by
 unfold g_ref02_SameTexts at hg
 refine Fn.of Tryz.func65 rfl rfl rfl fun w0 I ρ0 => ?_
 show awp _ ⟨w0, I, ρ0, 0, 0, 26⟩ _ _ _
 refine sr_ 0 8 mk_U ?_
 refine go_ ?_
 refine ch_n fun hU => ?_
 refine awp_seq ?_
 refine sr_ 8 48 hU ?_
 refine go_ ?_
 refine ch_n fun hU => ?_
 refine cg_ rfl hg (fun h3 hg => ?_) fun h3 hg => ?_
 ·refine awp_seq ?_
  refine awp_region (sys _ _ []) 48 56 hU rfl rfl ?_
  refine go_ ?_
  refine ch_n fun hU => ?_
  refine aw_r ?_
  obtain rfl := Option.some.inj hg
  exact fin_ [] ⟨rfl, rfl⟩
 ·refine awp_skip ?_
  repeat first | refine st_ ?_ | refine sn_ ?_
  refine awp_seq ?_
  refine sr_ 48 56 hU ?_
  refine go_ ?_
  refine ch_n fun hU => ?_
  refine awp_block ?_
  refine lp_ (fun (i_1 : Int) => mk [(0, .sl 1 (encL eS a)), (1, .sl 1 (encL eS b)), (5, .val (.int .i64 i_1))] [] 0) hg (sub_ []) ?_
  rintro i_1 m1 o1 hg hn1
  replace hg : g_ref02_SameTexts.l1 a b i_1 = some o1 := hg
  show awp _ _ _ _ (mk _ _ _)
  unfold g_ref02_SameTexts.l1 at hg
  refine awp_seq ?_
  refine sr_ 0 32 mk_U ?_
  refine go_ ?_
  refine ch_n fun hU => ?_
  refine cg_ rfl hg (fun h7 hg => ?_) fun h7 hg => ?_
  ·refine awp_skip ?_
   repeat first | refine st_ ?_ | refine sn_ ?_
   refine awp_seq ?_
   refine awp_block ?_
   refine awp_seq ?_
   refine awp_draw (sys _ _ []) (by kernel_rfl) [0, 0, 3, 7, 0, 0, 48, 112, 255] 32 104 hU rfl rfl (by kernel_rfl) ?_
   refine go_ ?_
   obtain ⟨e, he, hg⟩ := bind_some hg
   refine go_ ?_
   refine c0_ rfl rfl (r_loadE1 ty9 (enc_cell eS_len (getI_at he) (o := 0) (c := .str e) rfl rfl)) rfl rfl ?_
   refine go_ ?_
   obtain ⟨e_2, he_2, hg⟩ := bind_some hg
   refine go_ ?_
   refine c0_ rfl rfl (r_loadE1 ty9 (enc_cell eS_len (getI_at he_2) (o := 0) (c := .str e_2) rfl rfl)) rfl rfl ?_
   refine go_ ?_
   refine ch_n fun hU => ?_
   refine cg_ rfl hg (fun h9 hg => ?_) fun h9 hg => ?_
   ·refine awp_seq ?_
    refine awp_region (sys _ _ []) 104 112 hU rfl rfl ?_
    refine go_ ?_
    refine ch_n fun hU => ?_
    refine aw_r ?_
    replace hg := leave hg hn1
    obtain rfl := Option.some.inj hg
    exact fin_ [] ⟨rfl, rfl⟩
   ·refine awp_skip ?_
    repeat first | refine st_ ?_ | refine sn_ ?_
    refine awp_region (sys _ _ []) 104 128 hU rfl rfl ?_
    refine go_ ?_
    refine ch_n fun hU => ?_
    obtain rfl := Option.some.inj hg
    exact ⟨(W (i_1 + 1), m1), Nat.lt_succ_self _, hn1, sub_ []⟩
  ·refine awp_exit ?_
   repeat first | refine st_ ?_ | refine sn_ ?_
   replace hg := leave hg hn1
   refine sr_ 32 40 hU ?_
   refine go_ ?_
   refine ch_n fun hU => ?_
   refine aw_r ?_
   obtain rfl := Option.some.inj hg
   exact fin_ [] ⟨rfl, rfl⟩
theorem w_ref03_Same (a : api_Certificate) (b : api_Certificate) (r : Bool) (hg : g_ref03_Same a b = some r) : Fn Tryz.prog 33 0 [.agg (api_Certificate.dv a), .agg (api_Certificate.dv b)] [] (fun d b => d = .val (.bool r) ∧ b = []) := by
 unfold g_ref03_Same at hg
 refine Fn.of Tryz.func33 rfl rfl rfl fun w0 I ρ0 => ?_
 show awp _ ⟨w0, I, ρ0, 0, 0, 87⟩ _ _ _
 refine sr_ 0 24 mk_U ?_
 refine go_ ?_
 refine ch_n fun hU => ?_
 refine sr_ 24 688 hU ?_
 refine go_ ?_
 rcases bc_ hg with ⟨h2, hg⟩ | ⟨h2, hg⟩
 ·refine go_ ?_
  rcases bc_ hg with ⟨h3, hg⟩ | ⟨h3, hg⟩
  ·refine go_ ?_
   rcases bc_ hg with ⟨h4, hg⟩ | ⟨h4, hg⟩
   ·refine go_ ?_
    refine c0_ (gdv_t rfl rfl h4) rfl (steq30_eql a.Key b.Key) rfl rfl ?_
    refine go_ ?_
    rcases bc_ hg with ⟨h5, hg⟩ | ⟨h5, hg⟩
    ·refine go_ ?_
     rcases bc_ hg with ⟨h6, hg⟩ | ⟨h6, hg⟩
     ·refine go_ ?_
      refine c0_ (gdv_t rfl rfl h6) rfl (steq30_eql a.Hash b.Hash) rfl rfl ?_
      refine go_ ?_
      rcases bc_ hg with ⟨h7, hg⟩ | ⟨h7, hg⟩
      ·refine go_ ?_
       rcases bc_ hg with ⟨h8, hg⟩ | ⟨h8, hg⟩
       ·refine go_ ?_
        rcases bc_ hg with ⟨h9, hg⟩ | ⟨h9, hg⟩
        ·refine go_ ?_
         refine c0_ (gdv_t rfl rfl h9) rfl (r_beql und4) rfl rfl ?_
         refine go_ ?_
         rcases bc_ hg with ⟨h10, hg⟩ | ⟨h10, hg⟩
         ·refine go_ ?_
          rcases bc_ hg with ⟨h11, hg⟩ | ⟨h11, hg⟩
          ·refine go_ ?_
           obtain ⟨y, hy, hg⟩ := bind_some hg
           refine ca_ (w_ref02_SameTexts _ _ _ hy) ?_
           refine go_ ?_
           rcases bc_ hg with ⟨h12, hg⟩ | ⟨h12, hg⟩
           ·refine go_ ?_
            refine c0_ (gdv_t rfl rfl h12) rfl (steq33_eql a.Seal b.Seal) rfl rfl ?_
            refine go_ ?_
            refine ch_n fun hU => ?_
            refine aw_r ?_
            obtain rfl := Option.some.inj hg
            exact fin_ [] ⟨rfl, rfl⟩
           ·refine go_ ?_
            refine ch_n fun hU => ?_
            refine aw_r ?_
            obtain rfl := Option.some.inj hg
            exact fin_ [] ⟨rfl, rfl⟩
          ·refine go_ ?_
           refine ch_n fun hU => ?_
           refine aw_r ?_
           obtain rfl := Option.some.inj hg
           exact fin_ [] ⟨rfl, rfl⟩
         ·refine go_ ?_
          refine ch_n fun hU => ?_
          refine aw_r ?_
          obtain rfl := Option.some.inj hg
          exact fin_ [] ⟨rfl, rfl⟩
        ·refine go_ ?_
         refine ch_n fun hU => ?_
         refine aw_r ?_
         obtain rfl := Option.some.inj hg
         exact fin_ [] ⟨rfl, rfl⟩
       ·refine go_ ?_
        refine ch_n fun hU => ?_
        refine aw_r ?_
        obtain rfl := Option.some.inj hg
        exact fin_ [] ⟨rfl, rfl⟩
      ·refine go_ ?_
       refine ch_n fun hU => ?_
       refine aw_r ?_
       obtain rfl := Option.some.inj hg
       exact fin_ [] ⟨rfl, rfl⟩
     ·refine go_ ?_
      refine ch_n fun hU => ?_
      refine aw_r ?_
      obtain rfl := Option.some.inj hg
      exact fin_ [] ⟨rfl, rfl⟩
    ·refine go_ ?_
     refine ch_n fun hU => ?_
     refine aw_r ?_
     obtain rfl := Option.some.inj hg
     exact fin_ [] ⟨rfl, rfl⟩
   ·refine go_ ?_
    refine ch_n fun hU => ?_
    refine aw_r ?_
    obtain rfl := Option.some.inj hg
    exact fin_ [] ⟨rfl, rfl⟩
  ·refine go_ ?_
   refine ch_n fun hU => ?_
   refine aw_r ?_
   obtain rfl := Option.some.inj hg
   exact fin_ [] ⟨rfl, rfl⟩
 ·refine go_ ?_
  refine ch_n fun hU => ?_
  refine aw_r ?_
  obtain rfl := Option.some.inj hg
  exact fin_ [] ⟨rfl, rfl⟩
theorem w_ref03_SameChain (a : (List api_Certificate)) (b : (List api_Certificate)) (r : Bool) (hg : g_ref03_SameChain a b = some r) : Fn Tryz.prog 15 0 [.sl 15 (encL api_Certificate.enc a), .sl 15 (encL api_Certificate.enc b)] [] (fun d b => d = .val (.bool r) ∧ b = []) := by
 unfold g_ref03_SameChain at hg
 refine Fn.of Tryz.func15 rfl rfl rfl fun w0 I ρ0 => ?_
 show awp _ ⟨w0, I, ρ0, 0, 0, 27⟩ _ _ _
 refine sr_ 0 8 mk_U ?_
 refine go_ ?_
 refine ch_n fun hU => ?_
 refine awp_seq ?_
 refine sr_ 8 48 hU ?_
 refine go_ ?_
 refine ch_n fun hU => ?_
 refine cg_ rfl hg (fun h3 hg => ?_) fun h3 hg => ?_
 ·refine awp_seq ?_
  refine awp_region (sys _ _ []) 48 56 hU rfl rfl ?_
  refine go_ ?_
  refine ch_n fun hU => ?_
  refine aw_r ?_
  obtain rfl := Option.some.inj hg
  exact fin_ [] ⟨rfl, rfl⟩
 ·refine awp_skip ?_
  repeat first | refine st_ ?_ | refine sn_ ?_
  refine awp_seq ?_
  refine sr_ 48 56 hU ?_
  refine go_ ?_
  refine ch_n fun hU => ?_
  refine awp_block ?_
  refine lp_ (fun (i_1 : Int) => mk [(0, .sl 15 (encL api_Certificate.enc a)), (1, .sl 15 (encL api_Certificate.enc b)), (5, .val (.int .i64 i_1))] [] 0) hg (sub_ []) ?_
  rintro i_1 m1 o1 hg hn1
  replace hg : g_ref03_SameChain.l1 a b i_1 = some o1 := hg
  show awp _ _ _ _ (mk _ _ _)
  unfold g_ref03_SameChain.l1 at hg
  refine awp_seq ?_
  refine sr_ 0 32 mk_U ?_
  refine go_ ?_
  refine ch_n fun hU => ?_
  refine cg_ rfl hg (fun h7 hg => ?_) fun h7 hg => ?_
  ·refine awp_skip ?_
   repeat first | refine st_ ?_ | refine sn_ ?_
   refine awp_seq ?_
   refine awp_block ?_
   refine awp_seq ?_
   refine awp_draw (sys _ _ []) (by kernel_rfl) [0, 0, 3, 7, 0, 0, 48, 112, 255, 511] 32 112 hU rfl rfl (by kernel_rfl) ?_
   refine go_ ?_
   obtain ⟨e, he, hg⟩ := bind_some hg
   refine go_ ?_
   refine c0_ rfl rfl (r_loadEA ty35 (enc_cells api_Certificate.enc_len (getI_at he) (o := 0) (m := 15) (cs := [.int .i64 e.Serial, .str e.Issuer, .str e.Subject, .int .i64 e.Key.Alg, .int .i64 e.Key.Bits, .int .i64 e.KeyId, .int .i64 e.Hash.Alg, .int .i64 e.Hash.Bits, .int .i64 e.From, .int .i64 e.To, .bool e.Authority, .int .i64 e.Path, .sl 1 (encL eS e.Names), .int .i64 e.Seal.Key, .int .i64 e.Seal.Sum]) rfl (by decide) rfl) (enc_cells_le api_Certificate.enc_len (getI_at he) (o := 0) (m := 15) (by decide) rfl)) rfl rfl ?_
   refine go_ ?_
   obtain ⟨e_2, he_2, hg⟩ := bind_some hg
   refine go_ ?_
   refine c0_ rfl rfl (r_loadEA ty35 (enc_cells api_Certificate.enc_len (getI_at he_2) (o := 0) (m := 15) (cs := [.int .i64 e_2.Serial, .str e_2.Issuer, .str e_2.Subject, .int .i64 e_2.Key.Alg, .int .i64 e_2.Key.Bits, .int .i64 e_2.KeyId, .int .i64 e_2.Hash.Alg, .int .i64 e_2.Hash.Bits, .int .i64 e_2.From, .int .i64 e_2.To, .bool e_2.Authority, .int .i64 e_2.Path, .sl 1 (encL eS e_2.Names), .int .i64 e_2.Seal.Key, .int .i64 e_2.Seal.Sum]) rfl (by decide) rfl) (enc_cells_le api_Certificate.enc_len (getI_at he_2) (o := 0) (m := 15) (by decide) rfl)) rfl rfl ?_
   obtain ⟨y, hy, hg⟩ := bind_some hg
   refine ca_ (w_ref03_Same _ _ _ hy) ?_
   refine go_ ?_
   refine ch_n fun hU => ?_
   refine cg_ rfl hg (fun h9 hg => ?_) fun h9 hg => ?_
   ·refine awp_seq ?_
    refine awp_region (sys _ _ []) 112 120 hU rfl rfl ?_
    refine go_ ?_
    refine ch_n fun hU => ?_
    refine aw_r ?_
    replace hg := leave hg hn1
    obtain rfl := Option.some.inj hg
    exact fin_ [] ⟨rfl, rfl⟩
   ·refine awp_skip ?_
    repeat first | refine st_ ?_ | refine sn_ ?_
    refine awp_region (sys _ _ []) 112 136 hU rfl rfl ?_
    refine go_ ?_
    refine ch_n fun hU => ?_
    obtain rfl := Option.some.inj hg
    exact ⟨(W (i_1 + 1), m1), Nat.lt_succ_self _, hn1, sub_ []⟩
  ·refine awp_exit ?_
   repeat first | refine st_ ?_ | refine sn_ ?_
   replace hg := leave hg hn1
   refine sr_ 32 40 hU ?_
   refine go_ ?_
   refine ch_n fun hU => ?_
   refine aw_r ?_
   obtain rfl := Option.some.inj hg
   exact fin_ [] ⟨rfl, rfl⟩
theorem w_law04_ChainBuilds (l : (List Int)) (odd : UInt8) (r : Bool) (hg : g_law04_ChainBuilds l odd = some r) : Fn Tryz.prog 3 0 [.sl 1 (encL eI l), .val (.int .u8 (odd.toNat : Int))] [] (fun d b => d = .val (.bool r) ∧ b = []) := by
 unfold g_law04_ChainBuilds at hg
 refine Fn.of Tryz.func3 rfl rfl rfl fun w0 I ρ0 => ?_
 show awp _ ⟨w0, I, ρ0, 0, 0, 108⟩ _ _ _
 refine sr_ 0 8 mk_U ?_
 refine go_ ?_
 refine ch_n fun hU => ?_
 refine awp_seq ?_
 refine sr_ 8 32 hU ?_
 refine go_ ?_
 obtain ⟨y, hy, hg⟩ := bind_some hg
 refine ca_ (w_make_Light _ _ hy) ?_
 refine go_ ?_
 refine ch_n fun hU => ?_
 refine cg_ rfl hg (fun h3 hg => ?_) fun h3 hg => ?_
 ·refine awp_seq ?_
  refine awp_region (sys _ _ []) 32 48 hU rfl rfl ?_
  obtain ⟨y_2, hy_2, hg⟩ := bind_some hg
  refine ca_ (w_law04_awake _ hy_2) ?_
  refine go_ ?_
  refine ch_n fun hU => ?_
  refine aw_r ?_
  obtain rfl := Option.some.inj hg
  exact fin_ [] ⟨rfl, rfl⟩
 ·refine awp_skip ?_
  repeat first | refine st_ ?_ | refine sn_ ?_
  refine sr_ 32 56 hU ?_
  refine go_ ?_
  obtain ⟨y_3, hy_3, hg⟩ := bind_some hg
  refine ch_call (rd := []) (ps := []) (gs := []) false rfl (w_make_Roll _ _ hy_3) rfl rfl (.cons .sl .nil) rfl rfl (by intro h; cases h) rfl (by intro h; first | (cases h; done) | exact ⟨_, _, ⟨rfl, rfl⟩, by simp, by simp⟩) ?_
  rintro _ _ ⟨rfl, rfl⟩
  refine go_ ?_
  refine ch_n fun hU => ?_
  refine sr_ 56 80 hU ?_
  refine go_ ?_
  obtain ⟨y_4, hy_4, hg⟩ := bind_some hg
  refine cb_ [40] [40] [] false (w_law04_made _ _ hy_4) ?_
  refine go_ ?_
  refine ch_n fun hU => ?_
  refine awp_seq ?_
  refine sr_ 80 104 hU ?_
  refine go_ ?_
  refine ch_n fun hU => ?_
  refine cg_ rfl hg (fun h8 hg => ?_) fun h8 hg => ?_
  ·refine awp_seq ?_
   refine awp_region (sys _ _ []) 104 120 hU rfl rfl ?_
   obtain ⟨y_5, hy_5, hg⟩ := bind_some hg
   refine ca_ (w_law04_awake _ hy_5) ?_
   refine go_ ?_
   refine ch_n fun hU => ?_
   refine aw_r ?_
   obtain rfl := Option.some.inj hg
   exact fin_ [] ⟨rfl, rfl⟩
  ·refine awp_skip ?_
   repeat first | refine st_ ?_ | refine sn_ ?_
   refine sr_ 104 112 hU ?_
   refine go_ ?_
   refine ch_n fun hU => ?_
   refine awp_seq ?_
   refine sr_ 112 144 hU ?_
   refine go_ ?_
   refine ch_n fun hU => ?_
   refine awp_block ?_
   refine lp_ (fun ((i_1, pool_1) : Int × List api_Certificate) => mk [(1, .val (.int .u8 (odd.toNat : Int))), (5, .ptr 0 0), (6, .sl 15 (encL api_Certificate.enc y_4.1)), (7, .row 1), (8, .val (.int .i64 i_1))] [(0, .box [.sl 1 (encL eI y_4.2.L), .val (.int .i64 y_4.2.At)] 69), (1, .row 35 15 (encL api_Certificate.enc pool_1))] 2) hg (sub_ [(0, 40)]) ?_
   rintro ⟨i_1, pool_1⟩ m1 o1 hg hn1
   replace hg : g_law04_ChainBuilds.l1 odd y_4 i_1 pool_1 = some o1 := hg
   show awp _ _ _ _ (mk _ _ _)
   unfold g_law04_ChainBuilds.l1 at hg
   refine awp_seq ?_
   refine sr_ 2 18 mk_U ?_
   refine go_ ?_
   refine ch_n fun hU => ?_
   refine cg_ rfl hg (fun h13 hg => ?_) fun h13 hg => ?_
   ·refine awp_skip ?_
    repeat first | refine st_ ?_ | refine sn_ ?_
    refine awp_seq ?_
    refine awp_block ?_
    refine awp_region (sys _ _ []) 18 82 hU rfl rfl ?_
    refine go_ ?_
    obtain ⟨e, he, hg⟩ := bind_some hg
    refine go_ ?_
    refine c0_ rfl rfl (r_loadEA ty35 (enc_cells api_Certificate.enc_len (getI_at he) (o := 0) (m := 15) (cs := [.int .i64 e.Serial, .str e.Issuer, .str e.Subject, .int .i64 e.Key.Alg, .int .i64 e.Key.Bits, .int .i64 e.KeyId, .int .i64 e.Hash.Alg, .int .i64 e.Hash.Bits, .int .i64 e.From, .int .i64 e.To, .bool e.Authority, .int .i64 e.Path, .sl 1 (encL eS e.Names), .int .i64 e.Seal.Key, .int .i64 e.Seal.Sum]) rfl (by decide) rfl) (enc_cells_le api_Certificate.enc_len (getI_at he) (o := 0) (m := 15) (by decide) rfl)) rfl rfl ?_
    refine c0_ rfl rfl (r_buildFull sl27 z35 (by decide) rfl rfl rfl rfl ck35 (cs := [.int .i64 e.Serial, .str e.Issuer, .str e.Subject, .int .i64 e.Key.Alg, .int .i64 e.Key.Bits, .int .i64 e.KeyId, .int .i64 e.Hash.Alg, .int .i64 e.Hash.Bits, .int .i64 e.From, .int .i64 e.To, .bool e.Authority, .int .i64 e.Path, .sl 1 (encL eS e.Names), .int .i64 e.Seal.Key, .int .i64 e.Seal.Sum]) (.cons .int (.cons .str (.cons .str (.cons .int (.cons .int (.cons .int (.cons .int (.cons .int (.cons .int (.cons .int (.cons .bool (.cons .int (.cons .sl (.cons .int (.cons .int .nil))))))))))))))) rfl (l := ([e] : List api_Certificate)) (f := api_Certificate.enc) rfl) rfl rfl ?_
    obtain ⟨l_2, hl_2, hg⟩ := bind_some hg
    refine ch_s (rd := [1, 58]) rfl rfl (r_append sl27 api_Certificate.enc_len .row rfl .row rfl hl_2 rfl) rfl rfl ?_
    refine go_ ?_
    refine ch_n fun hU => ?_
    refine awp_region (sys _ _ []) 82 106 hU rfl rfl ?_
    refine go_ ?_
    refine ch_n fun hU => ?_
    obtain rfl := Option.some.inj hg
    exact ⟨((W (i_1 - 1), l_2), m1), Nat.lt_succ_self _, hn1, sub_ [(0, 0), (1, 66)]⟩
   ·refine awp_exit ?_
    repeat first | refine st_ ?_ | refine sn_ ?_
    replace hg := leave hg hn1
    refine awp_cut (ι := cipherplanmake_Dice × List api_Certificate) (fun ((d_2, pool_2) : cipherplanmake_Dice × List api_Certificate) => mk [(1, .val (.int .u8 (odd.toNat : Int))), (5, .ptr 0 0), (6, .sl 15 (encL api_Certificate.enc y_4.1)), (7, .row 1)] [(0, .box [.sl 1 (encL eI d_2.L), .val (.int .i64 d_2.At)] 69), (1, .row 35 15 (encL api_Certificate.enc pool_2))] 2) (fun ((d_2, pool_2) : cipherplanmake_Dice × List api_Certificate) => g_law04_ChainBuilds.j2 odd y_4 d_2 pool_2 = some r) ?_ ?_
    ·refine awp_seq ?_
     refine awp_region (sys _ _ []) 18 34 hU rfl rfl ?_
     refine go_ ?_
     obtain ⟨y_6, hy_6, hg⟩ := bind_some hg
     refine cb_ [0] [0] [] false (w_make_Dice_One _ _ _ hy_6) ?_
     refine ch_n fun hU => ?_
     refine cg_ rfl hg (fun h17 hg => ?_) fun h17 hg => ?_
     ·refine awp_region (sys _ _ []) 34 74 hU rfl rfl ?_
      refine go_ ?_
      obtain ⟨y_7, hy_7, hg⟩ := bind_some hg
      refine cb_ [0] [0] [] false (w_law04_made _ _ hy_7) ?_
      obtain ⟨l_3, hl_3, hg⟩ := bind_some hg
      refine ch_s (rd := [1]) rfl rfl (r_append sl27 api_Certificate.enc_len .row rfl .sl rfl hl_3 rfl) rfl rfl ?_
      refine go_ ?_
      refine ch_n fun hU => ?_
      exact ⟨(y_7.2, l_3), hg, sub_ [(0, 0), (1, 58)]⟩
     ·refine awp_skip ?_
      repeat first | refine st_ ?_ | refine sn_ ?_
      exact ⟨(y_6.2, pool_1), hg, sub_ [(0, 0), (1, 1)]⟩
    ·rintro ⟨d_2, pool_2⟩ hg
     replace hg : g_law04_ChainBuilds.j2 odd y_4 d_2 pool_2 = some r := hg
     show awp _ _ _ _ (mk _ _ _)
     unfold g_law04_ChainBuilds.j2 at hg
     refine sr_ 2 50 mk_U ?_
     refine go_ ?_
     refine c0_ rfl rfl r_min rfl rfl ?_
     obtain ⟨l_4, hl_4, hg⟩ := bind_some hg
     refine ch_s (rd := [1]) rfl rfl (r_sliR_hi sl27 api_Certificate.enc_len hl_4) rfl rfl ?_
     refine go_ ?_
     refine ch_n fun hU => ?_
     refine awp_cut (ι := List api_Certificate) (fun (pool_5 : List api_Certificate) => mk [(5, .ptr 0 0), (6, .sl 15 (encL api_Certificate.enc y_4.1)), (7, .row 1)] [(0, .box [.sl 1 (encL eI d_2.L), .val (.int .i64 d_2.At)] 69), (1, .row 35 15 (encL api_Certificate.enc pool_5))] 2) (fun (pool_5 : List api_Certificate) => g_law04_ChainBuilds.j5 y_4 d_2 pool_5 = some r) ?_ ?_
     ·refine awp_seq ?_
      refine awp_sub (σ' := mk [(1, .val (.int .u8 (odd.toNat : Int))), (5, .ptr 0 0), (6, .sl 15 (encL api_Certificate.enc y_4.1)), (7, .part 1 (((0 : Int).toNat) * 15) ((min (pool_2.length : Int) 5 : Int).toNat - (0 : Int).toNat))] [(0, .box [.sl 1 (encL eI d_2.L), .val (.int .i64 d_2.At)] 69), (1, .row 35 15 (encL api_Certificate.enc pool_2))] 2) (sub_ [(0, 0), (1, 1)]) ?_
      refine awp_sub (σ' := mk [(1, .val (.int .u8 (odd.toNat : Int))), (5, .ptr 0 0), (6, .sl 15 (encL api_Certificate.enc y_4.1)), (7, .row 1)] [(0, .box [.sl 1 (encL eI d_2.L), .val (.int .i64 d_2.At)] 69), (1, .row 35 15 (encL api_Certificate.enc (pool_2.take ((min (pool_2.length : Int) 5 : Int).toNat - (0 : Int).toNat))))] 2) (cut_ 7 1 api_Certificate.enc_len (Nat.le_trans (Nat.le_add_left _ _) (slI_le hl_4)) rfl rfl rfl rfl) ?_
      refine awp_region (sys _ _ []) 2 26 mk_U rfl rfl ?_
      refine go_ ?_
      obtain ⟨q, hq, hg⟩ := bind_some hg
      refine c0_ rfl rfl (r_rem8 (a := odd) (b := (40 : UInt8)) hq) rfl rfl ?_
      refine go_ ?_
      refine ch_n fun hU => ?_
      refine cg_ rfl hg (fun h21 hg => ?_) fun h21 hg => ?_
      ·refine awp_block ?_
       refine lp_ (fun (pool_4 : List api_Certificate) => mk [(5, .ptr 0 0), (6, .sl 15 (encL api_Certificate.enc y_4.1)), (7, .row 1)] [(0, .box [.sl 1 (encL eI d_2.L), .val (.int .i64 d_2.At)] 69), (1, .row 35 15 (encL api_Certificate.enc pool_4))] 2) hg (sub_ [(0, 0), (1, 1)]) ?_
       rintro pool_4 m4 o4 hg hn4
       replace hg : g_law04_ChainBuilds.l4 y_4 d_2 pool_4 = some o4 := hg
       show awp _ _ _ _ (mk _ _ _)
       unfold g_law04_ChainBuilds.l4 at hg
       refine awp_seq ?_
       refine sr_ 2 26 mk_U ?_
       refine go_ ?_
       refine ch_n fun hU => ?_
       refine cg_ rfl hg (fun h23 hg => ?_) fun h23 hg => ?_
       ·refine awp_skip ?_
        repeat first | refine st_ ?_ | refine sn_ ?_
        refine awp_block ?_
        refine awp_region (sys _ _ []) 26 82 hU rfl rfl ?_
        refine go_ ?_
        obtain ⟨e_2, he_2, hg⟩ := bind_some hg
        refine go_ ?_
        refine c0_ rfl rfl (r_loadEA ty35 (enc_cells api_Certificate.enc_len (getI_at he_2) (o := 0) (m := 15) (cs := [.int .i64 e_2.Serial, .str e_2.Issuer, .str e_2.Subject, .int .i64 e_2.Key.Alg, .int .i64 e_2.Key.Bits, .int .i64 e_2.KeyId, .int .i64 e_2.Hash.Alg, .int .i64 e_2.Hash.Bits, .int .i64 e_2.From, .int .i64 e_2.To, .bool e_2.Authority, .int .i64 e_2.Path, .sl 1 (encL eS e_2.Names), .int .i64 e_2.Seal.Key, .int .i64 e_2.Seal.Sum]) rfl (by decide) rfl) (enc_cells_le api_Certificate.enc_len (getI_at he_2) (o := 0) (m := 15) (by decide) rfl)) rfl rfl ?_
        refine c0_ rfl rfl (r_buildFull sl27 z35 (by decide) rfl rfl rfl rfl ck35 (cs := [.int .i64 e_2.Serial, .str e_2.Issuer, .str e_2.Subject, .int .i64 e_2.Key.Alg, .int .i64 e_2.Key.Bits, .int .i64 e_2.KeyId, .int .i64 e_2.Hash.Alg, .int .i64 e_2.Hash.Bits, .int .i64 e_2.From, .int .i64 e_2.To, .bool e_2.Authority, .int .i64 e_2.Path, .sl 1 (encL eS e_2.Names), .int .i64 e_2.Seal.Key, .int .i64 e_2.Seal.Sum]) (.cons .int (.cons .str (.cons .str (.cons .int (.cons .int (.cons .int (.cons .int (.cons .int (.cons .int (.cons .int (.cons .bool (.cons .int (.cons .sl (.cons .int (.cons .int .nil))))))))))))))) rfl (l := ([e_2] : List api_Certificate)) (f := api_Certificate.enc) rfl) rfl rfl ?_
        obtain ⟨l_5, hl_5, hg⟩ := bind_some hg
        refine ch_s (rd := [1, 58]) rfl rfl (r_append sl27 api_Certificate.enc_len .row rfl .row rfl hl_5 rfl) rfl rfl ?_
        refine go_ ?_
        refine ch_n fun hU => ?_
        obtain rfl := Option.some.inj hg
        exact ⟨(l_5, m4), Nat.lt_succ_self _, hn4, sub_ [(0, 0), (1, 66)]⟩
       ·refine awp_exit ?_
        repeat first | refine st_ ?_ | refine sn_ ?_
        replace hg := leave hg hn4
        exact ⟨pool_4, hg, sub_ [(0, 0), (1, 1)]⟩
      ·refine awp_skip ?_
       repeat first | refine st_ ?_ | refine sn_ ?_
       exact ⟨(pool_2.take ((min (pool_2.length : Int) 5 : Int).toNat - (0 : Int).toNat)), hg, sub_ [(0, 0), (1, 1)]⟩
     ·rintro pool_5 hg
      replace hg : g_law04_ChainBuilds.j5 y_4 d_2 pool_5 = some r := hg
      show awp _ _ _ _ (mk _ _ _)
      unfold g_law04_ChainBuilds.j5 at hg
      refine awp_seq ?_
      refine awp_region (sys _ _ [2, 10, 18]) 2 74 mk_U rfl rfl ?_
      refine ch_z (rd := []) rfl rfl (r_buildFull sl22 z3 (by decide) rfl rfl rfl rfl ck3 (cs := [.int .i64 1, .int .i64 2]) (.cons .int (.cons .int .nil)) rfl (l := ([1, 2] : List Int)) (f := eI) rfl) rfl rfl rfl ?_
      refine ch_z (rd := []) rfl rfl (r_buildFull sl22 z3 (by decide) rfl rfl rfl rfl ck3 (cs := [.int .i64 1]) (.cons .int .nil) rfl (l := ([1] : List Int)) (f := eI) rfl) rfl rfl rfl ?_
      refine ch_z (rd := []) rfl rfl (r_buildFull sl22 z3 (by decide) rfl rfl rfl rfl ck3 (cs := [.int .i64 2, .int .i64 11, .int .i64 12]) (.cons .int (.cons .int (.cons .int .nil))) rfl (l := ([2, 11, 12] : List Int)) (f := eI) rfl) rfl rfl rfl ?_
      refine c0_ rfl rfl (r_buildFull sl37 z22 (by decide) rfl rfl rfl rfl ck22 (cs := [.sl 1 (encL eI ([1, 2] : List Int)), .sl 1 (encL eI ([1] : List Int)), .sl 1 (encL eI ([2, 11, 12] : List Int))]) (.cons .sl (.cons .sl (.cons .sl .nil))) rfl (l := ([([1, 2] : List Int), ([1] : List Int), ([2, 11, 12] : List Int)] : List (List Int))) (f := (eL 1 eI)) rfl) rfl rfl ?_
      refine go_ ?_
      obtain ⟨y_8, hy_8, hg⟩ := bind_some hg
      refine cb_ [0] [0] [] false (w_make_Dice_Next _ _ _ hy_8) ?_
      obtain ⟨e_3, he_3, hg⟩ := bind_some hg
      refine go_ ?_
      refine ch_s (rd := [26]) rfl rfl (.loadR1 ty22 (enc_cell (eL_len _ _) (getI_at he_3) (o := 0) (c := .sl 1 (encL eI e_3)) rfl rfl)) rfl rfl ?_
      refine go_ ?_
      refine ch_n fun hU => ?_
      refine awp_seq ?_
      refine awp_region (sys _ _ [82]) 74 106 hU rfl rfl ?_
      refine go_ ?_
      refine ch_z (rd := []) rfl rfl (r_buildFull sl22 z3 (by decide) rfl rfl rfl rfl ck3 (cs := [.int .i64 15, .int .i64 5, .int .i64 60]) (.cons .int (.cons .int (.cons .int .nil))) rfl (l := ([15, 5, 60] : List Int)) (f := eI) rfl) rfl rfl rfl ?_
      obtain ⟨y_9, hy_9, hg⟩ := bind_some hg
      refine cb_ [0] [0] [] false (w_make_Dice_Of _ _ _ hy_9) ?_
      refine go_ ?_
      refine ch_n fun hU => ?_
      refine awp_seq ?_
      refine awp_sub (σ' := mk [(6, .sl 15 (encL api_Certificate.enc y_4.1)), (7, .sl 15 (encL api_Certificate.enc pool_5)), (9, .sl 1 (encL eI e_3)), (10, .val (.int .i64 y_9.1))] [] 0) (sub_ []) ?_
      refine awp_draw (sys _ _ []) (by kernel_rfl) [0, 1, 3, 0, 0, 0, 0, 127, 255, 511, 511, 1023, 4095] 0 104 mk_U rfl rfl (by kernel_rfl) ?_
      refine go_ ?_
      obtain ⟨e_5, he_5, hg⟩ := bind_some hg
      refine go_ ?_
      refine c0_ rfl rfl (r_loadEA ty35 (enc_cells api_Certificate.enc_len (getI_at he_5) (o := 0) (m := 15) (cs := [.int .i64 e_5.Serial, .str e_5.Issuer, .str e_5.Subject, .int .i64 e_5.Key.Alg, .int .i64 e_5.Key.Bits, .int .i64 e_5.KeyId, .int .i64 e_5.Hash.Alg, .int .i64 e_5.Hash.Bits, .int .i64 e_5.From, .int .i64 e_5.To, .bool e_5.Authority, .int .i64 e_5.Path, .sl 1 (encL eS e_5.Names), .int .i64 e_5.Seal.Key, .int .i64 e_5.Seal.Sum]) rfl (by decide) rfl) (enc_cells_le api_Certificate.enc_len (getI_at he_5) (o := 0) (m := 15) (by decide) rfl)) rfl rfl ?_
      refine go_ ?_
      obtain ⟨y_11, hy_11, hg⟩ := bind_some hg
      refine ca_ (w_law04_hashes _ hy_11) ?_
      refine go_ ?_
      obtain ⟨y_12, hy_12, hg⟩ := bind_some hg
      refine ca_ (w_chain_Build _ _ _ _ _ _ _ hy_12) ?_
      refine go_ ?_
      refine ch_n fun hU => ?_
      refine awp_seq ?_
      refine awp_draw (sys _ _ []) (by kernel_rfl) [0, 1, 3, 0, 0, 0, 0, 127, 255, 511, 511, 1023, 4095] 104 208 hU rfl rfl (by kernel_rfl) ?_
      refine go_ ?_
      refine c0_ rfl rfl (r_loadEA ty35 (enc_cells api_Certificate.enc_len (getI_at he_5) (o := 0) (m := 15) (cs := [.int .i64 e_5.Serial, .str e_5.Issuer, .str e_5.Subject, .int .i64 e_5.Key.Alg, .int .i64 e_5.Key.Bits, .int .i64 e_5.KeyId, .int .i64 e_5.Hash.Alg, .int .i64 e_5.Hash.Bits, .int .i64 e_5.From, .int .i64 e_5.To, .bool e_5.Authority, .int .i64 e_5.Path, .sl 1 (encL eS e_5.Names), .int .i64 e_5.Seal.Key, .int .i64 e_5.Seal.Sum]) rfl (by decide) rfl) (enc_cells_le api_Certificate.enc_len (getI_at he_5) (o := 0) (m := 15) (by decide) rfl)) rfl rfl ?_
      refine go_ ?_
      obtain ⟨y_13, hy_13, hg⟩ := bind_some hg
      refine ca_ (w_law04_hashes _ hy_13) ?_
      refine go_ ?_
      obtain ⟨y_14, hy_14, hg⟩ := bind_some hg
      refine ca_ (w_ref04_Build _ _ _ _ _ _ _ hy_14) ?_
      refine go_ ?_
      refine ch_n fun hU => ?_
      refine sr_ 208 304 hU ?_
      refine go_ ?_
      rcases bc_ hg with ⟨h29, hg⟩ | ⟨h29, hg⟩
      ·refine go_ ?_
       obtain ⟨y_15, hy_15, hg⟩ := bind_some hg
       refine ca_ (w_ref03_SameChain _ _ _ hy_15) ?_
       refine go_ ?_
       rcases bc_ hg with ⟨h30, hg⟩ | ⟨h30, hg⟩
       ·obtain ⟨y_16, hy_16, hg⟩ := bind_some hg
        refine ca_ (w_law04_awake _ hy_16) ?_
        refine go_ ?_
        refine ch_n fun hU => ?_
        refine aw_r ?_
        obtain rfl := Option.some.inj hg
        exact fin_ [] ⟨rfl, rfl⟩
       ·refine go_ ?_
        refine ch_n fun hU => ?_
        refine aw_r ?_
        obtain rfl := Option.some.inj hg
        exact fin_ [] ⟨rfl, rfl⟩
      ·refine go_ ?_
       refine ch_n fun hU => ?_
       refine aw_r ?_
       obtain rfl := Option.some.inj hg
       exact fin_ [] ⟨rfl, rfl⟩
end Go.Proofs.YtadjcdhcdmiifaaGreat
