/- The program computes the plain functions. -/
import Derived.Test.YtmbhoimeiahbaaaGreatT1
import Derived.Test.YtmbhoimeiahbaaaGreatA1
import Derived.Test.YtmbhoimeiahbaaaGreatA3
import Derived.Test.YtmbhoimeiahbaaaGreatA5
import Derived.Test.YtmbhoimeiahbaaaGreatA6
set_option linter.unusedVariables false
set_option linter.unusedSimpArgs false
set_option maxRecDepth 100000
set_option maxHeartbeats 1600000
namespace Go.Proofs.YtmbhoimeiahbaaaGreat
open Go.RowKit
theorem w_slices_ContainsFunc_api_Keep_clo_104_0_ (s : (List api_Keep)) (f : api_Keep → Option (Bool)) (hf_f : ∀ (x0 : api_Keep) (y : Bool), f x0 = some y → Fn Tryz.prog 104 0 [.agg [.val (.int .i64 x0.Purpose), .val (.int .i64 x0.Days)]] [] (fun d' b' => d' = .val (.bool y) ∧ b' = [])) (r : Bool) (hg : g_slices_ContainsFunc_api_Keep s f = some r) : Fn Tryz.prog 103 0 [.sl 2 (encL api_Keep.enc s), .clo 104 0 []] [] (fun d' b' => d' = .val (.bool r) ∧ b' = []) := by
 unfold g_slices_ContainsFunc_api_Keep at hg
 refine Fn.of Tryz.func103 rfl rfl rfl fun w0 I ρ0 => ?_
 show awp _ ⟨w0, I, ρ0, 0, 0, 9, none⟩ _ _ _
 refine sr_ 0 8 mk_U ?_
 refine go_ ?_
 refine ch_n fun hU => ?_
 refine sr_ 8 48 hU ?_
 refine go_ ?_
 obtain ⟨y, hy, hg⟩ := bind_some hg
 refine ca_ (w_slices_IndexFunc_api_Keep_clo_104_0_ s f hf_f _ hy) ?_
 refine go_ ?_
 refine ch_n fun hU => ?_
 refine aw_r ?_
 obtain rfl := Option.some.inj hg
 exact fin_ [] ⟨rfl, rfl⟩
theorem w_rule_Check (p : api_Policy) (r : Int) (hg : g_rule_Check p = some r) : Fn Tryz.prog 74 0 [.agg [.sl 6 (encL api_Rule.enc p.Rules), .sl 2 (encL api_Keep.enc p.Keeps)]] [] (fun d' b' => d' = .val (.int .i64 r) ∧ b' = []) := by
 unfold g_rule_Check at hg
 refine Fn.of Tryz.func74 rfl rfl rfl fun w0 I ρ0 => ?_
 show awp _ ⟨w0, I, ρ0, 0, 0, 25, none⟩ _ _ _
 refine sr_ 0 16 mk_U ?_
 refine go_ ?_
 refine ch_n fun hU => ?_
 refine awp_cut (ι := Bool) (fun (wrong_1 : Bool) => mk [(1, .ptr 0 0), (3, .val (.bool wrong_1))] [(0, .box [.sl 6 (encL api_Rule.enc p.Rules), .sl 2 (encL api_Keep.enc p.Keeps)] 30)] 1) (fun (wrong_1 : Bool) => g_rule_Check.j1 p wrong_1 = some r) ?_ ?_
 ·refine awp_region (sys _ _ []) 16 88 hU rfl rfl ?_
  refine go_ ?_
  obtain ⟨y, hy, hg⟩ := bind_some hg
  refine ca_ (w_slices_ContainsFunc_api_Rule_clo_101_0_ p.Rules (fun x0 => g_rule_Check_c1 x0) (fun x0 y h => w_rule_Check_c1 x0 y h) _ hy) ?_
  refine go_ ?_
  rcases bc_ hg with ⟨h2, hg⟩ | ⟨h2, hg⟩
  ·refine go_ ?_
   refine ch_n fun hU => ?_
   exact ⟨true, hg, sub_ [(0, 0)]⟩
  ·refine go_ ?_
   obtain ⟨y_2, hy_2, hg⟩ := bind_some hg
   refine ca_ (w_slices_ContainsFunc_api_Keep_clo_104_0_ p.Keeps (fun x0 => g_rule_Check_c2 x0) (fun x0 y h => w_rule_Check_c2 x0 y h) _ hy_2) ?_
   refine go_ ?_
   refine ch_n fun hU => ?_
   exact ⟨y_2, hg, sub_ [(0, 0)]⟩
 ·rintro wrong_1 hg
  replace hg : g_rule_Check.j1 p wrong_1 = some r := hg
  show awp _ _ _ _ (mk _ _ _)
  unfold g_rule_Check.j1 at hg
  refine awp_seq ?_
  refine awp_cut (ι := Bool) (fun (x24_2 : Bool) => mk [(24, .val (.bool x24_2))] [] 0) (fun (x24_2 : Bool) => g_rule_Check.j2 x24_2 = some r) ?_ ?_
  ·refine awp_region (sys _ _ []) 1 105 mk_U rfl rfl ?_
   refine go_ ?_
   rcases bc_ hg with ⟨h5, hg⟩ | ⟨h5, hg⟩
   ·refine go_ ?_
    refine ch_n fun hU => ?_
    exact ⟨true, hg, sub_ []⟩
   ·refine go_ ?_
    rcases bc_ hg with ⟨h7, hg⟩ | ⟨h7, hg⟩
    ·refine go_ ?_
     refine ch_n fun hU => ?_
     exact ⟨true, hg, sub_ []⟩
    ·refine go_ ?_
     refine ch_n fun hU => ?_
     exact ⟨decide (60 < (p.Keeps.length : Int)), hg, sub_ []⟩
  ·rintro x24_2 hg
   replace hg : g_rule_Check.j2 x24_2 = some r := hg
   show awp _ _ _ _ (mk _ _ _)
   unfold g_rule_Check.j2 at hg
   refine cg_ rfl hg (fun h10 hg => ?_) fun h10 hg => ?_
   ·refine awp_seq ?_
    refine awp_region (sys _ _ []) 0 8 mk_U rfl rfl ?_
    refine go_ ?_
    refine ch_n fun hU => ?_
    refine aw_r ?_
    obtain rfl := Option.some.inj hg
    exact fin_ [] ⟨rfl, rfl⟩
   ·refine awp_skip ?_
    repeat first | refine st_ ?_ | refine sn_ ?_
    refine sr_ 0 8 mk_U ?_
    refine go_ ?_
    refine ch_n fun hU => ?_
    refine aw_r ?_
    obtain rfl := Option.some.inj hg
    exact fin_ [] ⟨rfl, rfl⟩
theorem w_verdict_early (p : api_Policy) (u : api_Use) (purpose : Int) (day : Int) (r : Int) (hg : g_verdict_early p u purpose day = some r) : Fn Tryz.prog 53 0 [.agg [.sl 6 (encL api_Rule.enc p.Rules), .sl 2 (encL api_Keep.enc p.Keeps)], .agg [.val (.int .i64 u.Alg), .val (.int .i64 u.Bits)], .val (.int .i64 purpose), .val (.int .i64 day)] [] (fun d' b' => d' = .val (.int .i64 r) ∧ b' = []) := by
 unfold g_verdict_early at hg
 refine Fn.of Tryz.func53 rfl rfl rfl fun w0 I ρ0 => ?_
 show awp _ ⟨w0, I, ρ0, 0, 0, 34, none⟩ _ _ _
 refine sr_ 0 24 mk_U ?_
 refine go_ ?_
 refine ch_n fun hU => ?_
 refine awp_seq ?_
 refine sr_ 24 48 hU ?_
 refine go_ ?_
 obtain ⟨y, hy, hg⟩ := bind_some hg
 refine ca_ (w_rule_Check _ _ hy) ?_
 refine go_ ?_
 refine ch_n fun hU => ?_
 refine sr_ 48 64 hU ?_
 refine go_ ?_
 refine ch_n fun hU => ?_
 refine cg_ rfl hg (fun h4 hg => ?_) fun h4 hg => ?_
 ·refine awp_seq ?_
  refine awp_region (sys _ _ []) 64 80 hU rfl rfl ?_
  refine go_ ?_
  refine ch_n fun hU => ?_
  refine aw_r ?_
  obtain rfl := Option.some.inj hg
  exact fin_ [] ⟨rfl, rfl⟩
 ·refine awp_skip ?_
  repeat first | refine st_ ?_ | refine sn_ ?_
  refine awp_seq ?_
  refine awp_block ?_
  refine sr_ 64 96 hU ?_
  refine go_ ?_
  obtain ⟨y_2, hy_2, hg⟩ := bind_some hg
  refine ca_ (w_catalog_Valid _ _ hy_2) ?_
  refine go_ ?_
  refine ch_n fun hU => ?_
  refine cg_ rfl hg (fun h7 hg => ?_) fun h7 hg => ?_
  ·refine awp_seq ?_
   refine awp_region (sys _ _ []) 96 104 hU rfl rfl ?_
   refine go_ ?_
   refine ch_n fun hU => ?_
   refine aw_r ?_
   obtain rfl := Option.some.inj hg
   exact fin_ [] ⟨rfl, rfl⟩
  ·refine awp_cut (ι := Bool) (fun (x19_1 : Bool) => mk [(19, .val (.bool x19_1))] [] 0) (fun (x19_1 : Bool) => g_verdict_early.j1 x19_1 = some r) ?_ ?_
   ·refine awp_region (sys _ _ []) 96 216 hU rfl rfl ?_
    refine go_ ?_
    rcases bc_ hg with ⟨h9, hg⟩ | ⟨h9, hg⟩
    ·refine go_ ?_
     refine ch_n fun hU => ?_
     exact ⟨true, hg, sub_ []⟩
    ·refine go_ ?_
     rcases bc_ hg with ⟨h11, hg⟩ | ⟨h11, hg⟩
     ·refine go_ ?_
      refine ch_n fun hU => ?_
      exact ⟨true, hg, sub_ []⟩
     ·refine go_ ?_
      rcases bc_ hg with ⟨h13, hg⟩ | ⟨h13, hg⟩
      ·refine go_ ?_
       refine ch_n fun hU => ?_
       exact ⟨true, hg, sub_ []⟩
      ·refine go_ ?_
       refine ch_n fun hU => ?_
       exact ⟨decide (40000 < day), hg, sub_ []⟩
   ·rintro x19_1 hg
    replace hg : g_verdict_early.j1 x19_1 = some r := hg
    show awp _ _ _ _ (mk _ _ _)
    unfold g_verdict_early.j1 at hg
    refine cg_ rfl hg (fun h16 hg => ?_) fun h16 hg => ?_
    ·refine awp_seq ?_
     refine awp_region (sys _ _ []) 0 8 mk_U rfl rfl ?_
     refine go_ ?_
     refine ch_n fun hU => ?_
     refine aw_r ?_
     obtain rfl := Option.some.inj hg
     exact fin_ [] ⟨rfl, rfl⟩
    ·refine awp_skip ?_
     repeat first | refine st_ ?_ | refine sn_ ?_
     refine sr_ 0 8 mk_U ?_
     refine go_ ?_
     refine ch_n fun hU => ?_
     refine aw_r ?_
     obtain rfl := Option.some.inj hg
     exact fin_ [] ⟨rfl, rfl⟩
theorem w_slices_Backward_api_Rule (s : (List api_Rule)) (r : (List api_Rule)) (hg : g_slices_Backward_api_Rule s = some r) : Fn Tryz.prog 75 0 [.sl 6 (encL api_Rule.enc s)] [] (fun d' b' => d' = .clo 106 0 [.elt (([.sl 6 (encL api_Rule.enc r)] : List C).drop 0)] ∧ b' = []) := by
 unfold g_slices_Backward_api_Rule at hg
 refine Fn.of Tryz.func75 rfl rfl rfl fun w0 I ρ0 => ?_
 show awp _ ⟨w0, I, ρ0, 0, 0, 4, none⟩ _ _ _
 refine sr_ 0 16 mk_U ?_
 refine go_ ?_
 refine ch_n fun hU => ?_
 refine awp_seq ?_
 refine awp_sub (σ' := mk [(1, .elt (([.sl 6 (encL api_Rule.enc s)] : List C).drop 0))] [] 0) ((by exact Sub.lists [] rfl rfl ⟨⟨_, rfl, .frzb (ks := [some 6]) rfl (.cons .sl .nil) (look_ne rfl)⟩, trivial⟩ trivial)) ?_
 refine awp_region (sys _ _ []) 0 16 mk_U rfl rfl ?_
 refine go_ ?_
 refine ch_n fun hU => ?_
 refine aw_r ?_
 obtain rfl := Option.some.inj hg
 exact fin_ [] ⟨rfl, rfl⟩
theorem w_verdict_concerns (r' : api_Rule) (u : api_Use) (purpose : Int) (r : Bool) (hg : g_verdict_concerns r' u purpose = some r) : Fn Tryz.prog 76 0 [.agg (api_Rule.dv r'), .agg [.val (.int .i64 u.Alg), .val (.int .i64 u.Bits)], .val (.int .i64 purpose)] [] (fun d' b' => d' = .val (.bool r) ∧ b' = []) := by
 unfold g_verdict_concerns at hg
 refine Fn.of Tryz.func76 rfl rfl rfl fun w0 I ρ0 => ?_
 show awp _ ⟨w0, I, ρ0, 0, 0, 43, none⟩ _ _ _
 refine sr_ 0 24 mk_U ?_
 refine go_ ?_
 refine ch_n fun hU => ?_
 refine awp_seq ?_
 refine awp_cut (ι := Bool) (fun (x27_1 : Bool) => mk [(3, .ptr 0 0), (4, .ptr 1 0), (27, .val (.bool x27_1))] [(0, .box (api_Rule.dv r') 57), (1, .box [.val (.int .i64 u.Alg), .val (.int .i64 u.Bits)] 36)] 2) (fun (x27_1 : Bool) => g_verdict_concerns.j1 r' u x27_1 = some r) ?_ ?_
 ·refine awp_region (sys _ _ []) 24 192 hU rfl rfl ?_
  refine go_ ?_
  rcases bc_ hg with ⟨h2, hg⟩ | ⟨h2, hg⟩
  ·refine go_ ?_
   rcases bc_ hg with ⟨h3, hg⟩ | ⟨h3, hg⟩
   ·refine go_ ?_
    refine ch_n fun hU => ?_
    exact ⟨true, hg, sub_ [(0, 0), (1, 8)]⟩
   ·refine go_ ?_
    rcases bc_ hg with ⟨h5, hg⟩ | ⟨h5, hg⟩
    ·refine go_ ?_
     refine ch_n fun hU => ?_
     exact ⟨!decide (r'.Purpose = purpose), hg, sub_ [(0, 0), (1, 8)]⟩
    ·refine go_ ?_
     refine ch_n fun hU => ?_
     exact ⟨false, hg, sub_ [(0, 0), (1, 8)]⟩
  ·refine go_ ?_
   rcases bc_ hg with ⟨h8, hg⟩ | ⟨h8, hg⟩
   ·refine go_ ?_
    refine ch_n fun hU => ?_
    exact ⟨!decide (r'.Purpose = purpose), hg, sub_ [(0, 0), (1, 8)]⟩
   ·refine go_ ?_
    refine ch_n fun hU => ?_
    exact ⟨false, hg, sub_ [(0, 0), (1, 8)]⟩
 ·rintro x27_1 hg
  replace hg : g_verdict_concerns.j1 r' u x27_1 = some r := hg
  show awp _ _ _ _ (mk _ _ _)
  unfold g_verdict_concerns.j1 at hg
  refine cg_ rfl hg (fun h11 hg => ?_) fun h11 hg => ?_
  ·refine awp_seq ?_
   refine awp_region (sys _ _ []) 2 10 mk_U rfl rfl ?_
   refine go_ ?_
   refine ch_n fun hU => ?_
   refine aw_r ?_
   obtain rfl := Option.some.inj hg
   exact fin_ [] ⟨rfl, rfl⟩
  ·refine awp_skip ?_
   repeat first | refine st_ ?_ | refine sn_ ?_
   refine sr_ 2 130 mk_U ?_
   refine go_ ?_
   rcases bc_ hg with ⟨h13, hg⟩ | ⟨h13, hg⟩
   ·refine go_ ?_
    refine ch_n fun hU => ?_
    refine aw_r ?_
    obtain rfl := Option.some.inj hg
    exact fin_ [] ⟨rfl, rfl⟩
   ·refine go_ ?_
    rcases bc_ hg with ⟨h15, hg⟩ | ⟨h15, hg⟩
    ·refine go_ ?_
     refine ch_n fun hU => ?_
     refine aw_r ?_
     obtain rfl := Option.some.inj hg
     exact fin_ [] ⟨rfl, rfl⟩
    ·refine go_ ?_
     refine ch_n fun hU => ?_
     refine aw_r ?_
     obtain rfl := Option.some.inj hg
     exact fin_ [] ⟨rfl, rfl⟩
theorem w_slices_Backward_api_Rule_api_Rule_c1_u55_1 (u : api_Use) (purpose : Int) (day : Int) (yield' : Int → api_Rule → (Nat × Int) → Option (Bool × (Nat × Int))) (c0 : (List api_Rule)) (q : (Nat × Int)) (r : (Nat × Int)) (hg : g_slices_Backward_api_Rule_api_Rule_c1 yield' c0 q = some r) (rc : Loop) (hR : ∀ (x0 : Int) (x1 : api_Rule) (q' : Nat × Int) (y' : Bool × (Nat × Int)), yield' x0 x1 q' = some y' → Rnd Tryz.prog [5, 6, 7, 8] [.ptr 0 0, .ptr 1 0, .ptr 2 0, .ptr 3 0] 33 (lpat rc 0) 4 5 [.val (.int .i64 x0), .agg (api_Rule.dv x1)] [.box [.val (.int .i64 u.Alg), .val (.int .i64 u.Bits)] 36, .box [.val (.int .i64 purpose)] 3, .box [.val (.int .i64 day)] 3, .box [.val (.int .i64 q'.2)] 3, .lop [5, 6, 7, 8] [.ptr 0 0, .ptr 1 0, .ptr 2 0, .ptr 3 0] 33 (lpat rc q'.1)] (fun b1 b2 => b1 = y'.1 ∧ b2 = [.box [.val (.int .i64 u.Alg), .val (.int .i64 u.Bits)] 36, .box [.val (.int .i64 purpose)] 3, .box [.val (.int .i64 day)] 3, .box [.val (.int .i64 y'.2.2)] 3, .lop [5, 6, 7, 8] [.ptr 0 0, .ptr 1 0, .ptr 2 0, .ptr 3 0] 33 (lpat rc y'.2.1)])) : Itr Tryz.prog 106 4 5 [.elt (([.sl 6 (encL api_Rule.enc c0)] : List C).drop 0)] [.box [.val (.int .i64 u.Alg), .val (.int .i64 u.Bits)] 36, .box [.val (.int .i64 purpose)] 3, .box [.val (.int .i64 day)] 3, .box [.val (.int .i64 q.2)] 3, .lop [5, 6, 7, 8] [.ptr 0 0, .ptr 1 0, .ptr 2 0, .ptr 3 0] 33 (lpat rc q.1)] (fun b' => b' = [.box [.val (.int .i64 u.Alg), .val (.int .i64 u.Bits)] 36, .box [.val (.int .i64 purpose)] 3, .box [.val (.int .i64 day)] 3, .box [.val (.int .i64 r.2)] 3, .lop [5, 6, 7, 8] [.ptr 0 0, .ptr 1 0, .ptr 2 0, .ptr 3 0] 33 (lpat rc r.1)]) := by
 unfold g_slices_Backward_api_Rule_api_Rule_c1 at hg
 refine Itr.of Tryz.func106 rfl rfl rfl rfl fun w0 I ρ0 l hl => ?_
 show awp _ ⟨w0, I, ρ0, 5, 5, 19, none⟩ _ _ _
 refine sr_ 5 37 mk_U ?_
 refine c0_ rfl rfl (r_loadE1 ty27 (c := .sl 6 (encL api_Rule.enc c0)) rfl) rfl rfl ?_
 refine go_ ?_
 refine ch_n fun hU => ?_
 refine awp_block ?_
 refine lp_ (fun ((i_1, q_1) : Int × (Nat × Int)) => mk [(0, .val (.func (.yield l) #[] #[])), (1, .elt (([.sl 6 (encL api_Rule.enc c0)] : List C).drop 0)), (3, .val (.int .i64 i_1))] [(0, .box [.val (.int .i64 u.Alg), .val (.int .i64 u.Bits)] 36), (1, .box [.val (.int .i64 purpose)] 3), (2, .box [.val (.int .i64 day)] 3), (3, .box [.val (.int .i64 q_1.2)] 3), (4, .lop [5, 6, 7, 8] [.ptr 0 0, .ptr 1 0, .ptr 2 0, .ptr 3 0] 33 (lpat rc q_1.1))] 5) hg (sub_ [(0, 0), (1, 1), (2, 2), (3, 3), (4, 4)]) ?_
 rintro ⟨i_1, q_1⟩ m1 o1 hg hn1
 replace hg : g_slices_Backward_api_Rule_api_Rule_c1.l1 yield' c0 i_1 q_1 = some o1 := hg
 show awp _ _ _ _ (mk _ _ _)
 unfold g_slices_Backward_api_Rule_api_Rule_c1.l1 at hg
 refine awp_seq ?_
 refine sr_ 5 21 mk_U ?_
 refine go_ ?_
 refine ch_n fun hU => ?_
 refine cg_ rfl hg (fun h3 hg => ?_) fun h3 hg => ?_
 ·refine awp_skip ?_
  repeat first | refine st_ ?_ | refine sn_ ?_
  refine awp_seq ?_
  refine awp_block ?_
  refine awp_seq ?_
  refine awp_regionL ?_
  refine AwpL.chain (sys _ _ []) 6 21 69 hU rfl rfl ?_
  show Chain _ _ _ _ (idx 0 [_, _, _, _, _, _]) _ _ _
  refine go_ ?_
  refine c0_ rfl rfl (r_loadE1 ty27 (c := .sl 6 (encL api_Rule.enc c0)) rfl) rfl rfl ?_
  refine go_ ?_
  obtain ⟨e, he, hg⟩ := bind_some hg
  refine go_ ?_
  refine c0_ rfl rfl (r_loadEA ty57 (enc_cells api_Rule.enc_len (getI_at he) (o := 0) (m := 6) (cs := [.bool e.Allow, .int .i64 e.Alg, .int .i64 e.Below, .int .i64 e.Purpose, .int .i64 e.From, .int .i64 e.To]) rfl (by decide) rfl) (enc_cells_le api_Rule.enc_len (getI_at he) (o := 0) (m := 6) (by decide) rfl)) rfl rfl ?_
  refine ch_l fun hU => ?_
  obtain ⟨y, hy, hg⟩ := bind_some hg
  refine yl_ 69 [0, 1, 2, 3, 4] [] [0, 1, 2, 3, 4] false hU hl (hR _ _ _ _ hy) (.cons .val (.cons (.agg (.cons .val (.cons .val (.cons .val (.cons .val (.cons .val (.cons .val .nil))))))) .nil)) ⟨_, _, _, rfl, .head _, ⟨_, rfl, (by repeat' (first | exact AgL.nil | apply AgL.cons | exact Ag.val | exact Ag.sl | exact Ag.nils | exact Ag.ptr rfl | exact Ag.rowK rfl | exact Ag.elt))⟩, ⟨_, _, _, rfl, .tail _ (.head _), ⟨_, rfl, (by repeat' (first | exact AgL.nil | apply AgL.cons | exact Ag.val | exact Ag.sl | exact Ag.nils | exact Ag.ptr rfl | exact Ag.rowK rfl | exact Ag.elt))⟩, ⟨_, _, _, rfl, .tail _ (.tail _ (.head _)), ⟨_, rfl, (by repeat' (first | exact AgL.nil | apply AgL.cons | exact Ag.val | exact Ag.sl | exact Ag.nils | exact Ag.ptr rfl | exact Ag.rowK rfl | exact Ag.elt))⟩, ⟨_, _, _, rfl, .tail _ (.tail _ (.tail _ (.head _))), ⟨_, rfl, (by repeat' (first | exact AgL.nil | apply AgL.cons | exact Ag.val | exact Ag.sl | exact Ag.nils | exact Ag.ptr rfl | exact Ag.rowK rfl | exact Ag.elt))⟩, ⟨_, _, _, rfl, .tail _ (.tail _ (.tail _ (.tail _ (.head _)))), ⟨_, rfl, (by repeat' (first | exact AgL.nil | apply AgL.cons | exact Ag.val | exact Ag.sl | exact Ag.nils | exact Ag.ptr rfl | exact Ag.rowK rfl | exact Ag.elt))⟩, rfl⟩⟩⟩⟩⟩ fun hU => ?_
  refine AwpL.chain (sys _ _ []) 1 77 85 hU rfl rfl ?_
  show Chain _ _ _ _ (idx 0 [_]) _ _ _
  refine go_ ?_
  refine ch_l fun hU => ?_
  refine AwpL.fin ?_
  repeat first | refine st_ ?_ | refine sn_ ?_
  refine cg_ rfl hg (fun h7 hg => ?_) fun h7 hg => ?_
  ·refine awp_ret ?_
   repeat first | refine st_ ?_ | refine sn_ ?_
   replace hg := leave hg hn1
   obtain rfl := Option.some.inj hg
   exact fin_ [(0, 0), (1, 1), (2, 2), (3, 3), (4, 4)] ⟨rfl, rfl⟩
  ·refine awp_skip ?_
   repeat first | refine st_ ?_ | refine sn_ ?_
   refine awp_region (sys _ _ []) 85 109 hU rfl rfl ?_
   refine go_ ?_
   refine ch_n fun hU => ?_
   obtain rfl := Option.some.inj hg
   exact ⟨((W (i_1 - 1), y.2), m1), Nat.lt_succ_self _, hn1, sub_ [(0, 0), (1, 1), (2, 2), (3, 3), (4, 4)]⟩
 ·refine awp_exit ?_
  repeat first | refine st_ ?_ | refine sn_ ?_
  replace hg := leave hg hn1
  obtain rfl := Option.some.inj hg
  exact fin_ [(0, 0), (1, 1), (2, 2), (3, 3), (4, 4)] ⟨rfl, rfl⟩
theorem w_verdict_decides (p : api_Policy) (u : api_Use) (purpose : Int) (day : Int) (r : Int) (hg : g_verdict_decides p u purpose day = some r) : Fn Tryz.prog 55 0 [.agg [.sl 6 (encL api_Rule.enc p.Rules), .sl 2 (encL api_Keep.enc p.Keeps)], .agg [.val (.int .i64 u.Alg), .val (.int .i64 u.Bits)], .val (.int .i64 purpose), .val (.int .i64 day)] [] (fun d' b' => d' = .val (.int .i64 r) ∧ b' = []) := by
 unfold g_verdict_decides at hg
 refine Fn.of Tryz.func55 rfl rfl rfl fun w0 I ρ0 => ?_
 show awp _ ⟨w0, I, ρ0, 0, 0, 33, none⟩ _ _ _
 refine sr_ 0 40 mk_U ?_
 refine go_ ?_
 refine ch_n fun hU => ?_
 refine awp_seq ?_
 refine sr_ 40 64 hU ?_
 refine go_ ?_
 obtain ⟨y, hy, hg⟩ := bind_some hg
 refine ca_ (w_slices_Backward_api_Rule _ _ hy) ?_
 refine ch_n fun hU => ?_
 refine awp_block ?_
 obtain ⟨y_3, hy_3, hg⟩ := bind_some hg
 refine awp_sub (σ' := mk [(5, .ptr 0 0), (6, .ptr 1 0), (7, .ptr 2 0), (8, .ptr 3 0), (13, .clo 106 0 [.elt (([.sl 6 (encL api_Rule.enc y)] : List C).drop 0)])] [(0, .box [.val (.int .i64 u.Alg), .val (.int .i64 u.Bits)] 36), (1, .box [.val (.int .i64 purpose)] 3), (2, .box [.val (.int .i64 day)] 3), (3, .box [.val (.int .i64 0)] 3)] 4) (sub_ [(0, 8), (1, 16), (2, 24), (3, 32)]) ?_
 refine rng_ (c := y_3.1) (ts := [5, 6, 7, 8]) (ds := [.ptr 0 0, .ptr 1 0, .ptr 2 0, .ptr 3 0]) 4 [0, 1, 2, 3, 4] [] [0, 1, 2, 3, 4] false mk_U (w_slices_Backward_api_Rule_api_Rule_c1_u55_1 u purpose day (fun a0' a1' q' => yld (fun s' => g_verdict_decides.r1 u purpose day a0' a1' s') q') y (0, 0) _ hy_3) (by repeat' first | exact trivial | refine And.intro rfl ?_) (fun _ _ => .cons .elt .nil) (fun _ _ => ⟨_, _, _, rfl, .head _, ⟨_, rfl, (by repeat' (first | exact AgL.nil | apply AgL.cons | exact Ag.val | exact Ag.sl | exact Ag.nils | exact Ag.ptr rfl | exact Ag.rowK rfl | exact Ag.elt))⟩, ⟨_, _, _, rfl, .tail _ (.head _), ⟨_, rfl, (by repeat' (first | exact AgL.nil | apply AgL.cons | exact Ag.val | exact Ag.sl | exact Ag.nils | exact Ag.ptr rfl | exact Ag.rowK rfl | exact Ag.elt))⟩, ⟨_, _, _, rfl, .tail _ (.tail _ (.head _)), ⟨_, rfl, (by repeat' (first | exact AgL.nil | apply AgL.cons | exact Ag.val | exact Ag.sl | exact Ag.nils | exact Ag.ptr rfl | exact Ag.rowK rfl | exact Ag.elt))⟩, ⟨_, _, _, rfl, .tail _ (.tail _ (.tail _ (.head _))), ⟨_, rfl, (by repeat' (first | exact AgL.nil | apply AgL.cons | exact Ag.val | exact Ag.sl | exact Ag.nils | exact Ag.ptr rfl | exact Ag.rowK rfl | exact Ag.elt))⟩, ⟨_, _, _, rfl, .tail _ (.tail _ (.tail _ (.tail _ (.head _)))), ⟨_, rfl, (by repeat' (first | exact AgL.nil | apply AgL.cons | exact Ag.val | exact Ag.sl | exact Ag.nils | exact Ag.ptr rfl | exact Ag.rowK rfl | exact Ag.elt))⟩, rfl⟩⟩⟩⟩⟩) ?_ ?_
 ·intro _ _ a a_2 _ _ hq
  obtain ⟨b_1, o1, rfl, rfl, hg⟩ := yld_some hq
  replace hg : g_verdict_decides.r1 u purpose day a a_2 b_1 = some o1 := hg
  unfold g_verdict_decides.r1 at hg
  refine Rnd.of rfl rfl (by kernel_rfl) fun w0 I ρ0 l hl => ?_
  show awp _ ⟨w0, I, ρ0, 5, 5, 33, some l⟩ _ _ _
  refine sr_ 5 13 mk_U ?_
  refine go_ ?_
  refine ch_n fun hU => ?_
  refine awp_region (sys _ _ []) 13 29 hU rfl rfl ?_
  refine go_ ?_
  refine ch_n fun hU => ?_
  refine ag_ hU rfl rfl fun rb1 hrb1 hU => ?_
  refine awp_block ?_
  refine awp_cut (ι := Bool) (fun (x31_2 : Bool) => mk [(8, .ptr 3 0), (9, .val (.int .i64 a)), (31, .val (.bool x31_2))] [(0, .box [.val (.int .i64 u.Alg), .val (.int .i64 u.Bits)] 36), (1, .box [.val (.int .i64 purpose)] 3), (2, .box [.val (.int .i64 day)] 3), (3, .box [.val (.int .i64 b_1)] 3), (4, .lop [5, 6, 7, 8] [.ptr 0 0, .ptr 1 0, .ptr 2 0, .ptr 3 0] 33 rb1)] 5) (fun (x31_2 : Bool) => g_verdict_decides.j2 b_1 a x31_2 = some o1) ?_ ?_
  ·refine awp_region (sys _ _ []) 29 157 hU rfl rfl ?_
   refine go_ ?_
   obtain ⟨y_2, hy_2, hg⟩ := bind_some hg
   refine ca_ (w_verdict_concerns _ _ _ _ hy_2) ?_
   refine go_ ?_
   rcases bc_ hg with ⟨h6, hg⟩ | ⟨h6, hg⟩
   ·refine go_ ?_
    rcases bc_ hg with ⟨h7, hg⟩ | ⟨h7, hg⟩
    ·refine go_ ?_
     refine ch_n fun hU => ?_
     exact ⟨decide (day < a_2.To), hg, sub_ [(0, 0), (1, 1), (2, 2), (3, 3), (4, 4)]⟩
    ·refine go_ ?_
     refine ch_n fun hU => ?_
     exact ⟨false, hg, sub_ [(0, 0), (1, 1), (2, 2), (3, 3), (4, 4)]⟩
   ·refine go_ ?_
    refine ch_n fun hU => ?_
    exact ⟨false, hg, sub_ [(0, 0), (1, 1), (2, 2), (3, 3), (4, 4)]⟩
  ·rintro x31_2 hg
   replace hg : g_verdict_decides.j2 b_1 a x31_2 = some o1 := hg
   show awp _ _ _ _ (mk _ _ _)
   unfold g_verdict_decides.j2 at hg
   refine cg_ rfl hg (fun h11 hg => ?_) fun h11 hg => ?_
   ·refine awp_seq ?_
    refine awp_region (sys _ _ []) 5 21 mk_U rfl rfl ?_
    refine go_ ?_
    refine ch_n fun hU => ?_
    refine aw_r ?_
    obtain rfl := Option.some.inj hg
    exact rr_ (rf_ 1 hrb1 [(0, 0), (1, 1), (2, 2), (3, 3), (4, 4)] rfl ⟨rfl, rfl⟩)
   ·refine awp_skip ?_
    repeat first | refine st_ ?_ | refine sn_ ?_
    obtain rfl := Option.some.inj hg
    exact rn_ (rf_ 0 hrb1 [(0, 0), (1, 1), (2, 2), (3, 3), (4, 4)] rfl ⟨rfl, rfl⟩)
 ·intro _ _ hU
  rcases jc_ hg with ⟨hj, hg⟩ | hg
  ·refine rk0 hj ?_
   repeat first | refine st_ ?_ | refine sn_ ?_
   refine sr_ 20 28 hU ?_
   refine go_ ?_
   refine ch_n fun hU => ?_
   refine aw_r ?_
   obtain rfl := Option.some.inj hg
   exact fin_ [] ⟨rfl, rfl⟩
  ·rcases jc_ hg with ⟨hj, hg⟩ | hg
   ·refine rk1 hj ?_
    repeat first | refine st_ ?_ | refine sn_ ?_
    obtain rfl := Option.some.inj hg
    exact fin_ [] ⟨rfl, rfl⟩
   ·cases hg
theorem w_verdict_allowed (p : api_Policy) (u : api_Use) (purpose : Int) (day : Int) (r : Bool) (hg : g_verdict_allowed p u purpose day = some r) : Fn Tryz.prog 54 0 [.agg [.sl 6 (encL api_Rule.enc p.Rules), .sl 2 (encL api_Keep.enc p.Keeps)], .agg [.val (.int .i64 u.Alg), .val (.int .i64 u.Bits)], .val (.int .i64 purpose), .val (.int .i64 day)] [] (fun d' b' => d' = .val (.bool r) ∧ b' = []) := by
 unfold g_verdict_allowed at hg
 refine Fn.of Tryz.func54 rfl rfl rfl fun w0 I ρ0 => ?_
 show awp _ ⟨w0, I, ρ0, 0, 0, 25, none⟩ _ _ _
 refine sr_ 0 24 mk_U ?_
 refine go_ ?_
 refine ch_n fun hU => ?_
 refine sr_ 24 72 hU ?_
 refine go_ ?_
 obtain ⟨y, hy, hg⟩ := bind_some hg
 refine ca_ (w_verdict_decides _ _ _ _ _ hy) ?_
 refine go_ ?_
 refine ch_n fun hU => ?_
 refine sr_ 72 160 hU ?_
 refine go_ ?_
 rcases bc_ hg with ⟨h3, hg⟩ | ⟨h3, hg⟩
 ·refine go_ ?_
  refine ch_n fun hU => ?_
  refine aw_r ?_
  obtain rfl := Option.some.inj hg
  exact fin_ [] ⟨rfl, rfl⟩
 ·refine go_ ?_
  obtain ⟨e, he, hg⟩ := bind_some hg
  refine go_ ?_
  refine c0_ (gdv_t rfl rfl h3) rfl (r_fieldE fd57_0 ty4 (by decide) (enc_lt api_Rule.enc_len (getI_at he) (o := 0) (by decide) rfl)) rfl rfl ?_
  refine c0_ (gdv_t rfl rfl h3) rfl (r_loadE1 ty4 (enc_cell api_Rule.enc_len (getI_at he) (o := 0) (c := .bool e.Allow) rfl rfl)) rfl rfl ?_
  refine go_ ?_
  refine ch_n fun hU => ?_
  refine aw_r ?_
  obtain rfl := Option.some.inj hg
  exact fin_ [] ⟨rfl, rfl⟩
theorem w_verdict_Allowed (p : api_Policy) (u : api_Use) (purpose : Int) (day : Int) (r : Bool × Int × Int) (hg : g_verdict_Allowed p u purpose day = some r) : Fn Tryz.prog 31 0 [.agg [.sl 6 (encL api_Rule.enc p.Rules), .sl 2 (encL api_Keep.enc p.Keeps)], .agg [.val (.int .i64 u.Alg), .val (.int .i64 u.Bits)], .val (.int .i64 purpose), .val (.int .i64 day)] [] (fun d' b' => d' = .tup [.val (.bool r.1), .val (.int .i64 r.2.1), .val (.int .i64 r.2.2)] ∧ b' = []) := by
 unfold g_verdict_Allowed at hg
 refine Fn.of Tryz.func31 rfl rfl rfl fun w0 I ρ0 => ?_
 show awp _ ⟨w0, I, ρ0, 0, 0, 30, none⟩ _ _ _
 refine sr_ 0 40 mk_U ?_
 refine go_ ?_
 refine ch_n fun hU => ?_
 refine awp_seq ?_
 refine sr_ 40 88 hU ?_
 refine go_ ?_
 obtain ⟨y, hy, hg⟩ := bind_some hg
 refine ca_ (w_verdict_early _ _ _ _ _ hy) ?_
 refine go_ ?_
 refine ch_n fun hU => ?_
 refine sr_ 88 104 hU ?_
 refine go_ ?_
 refine ch_n fun hU => ?_
 refine cg_ rfl hg (fun h4 hg => ?_) fun h4 hg => ?_
 ·refine awp_seq ?_
  refine awp_region (sys _ _ []) 104 136 hU rfl rfl ?_
  refine go_ ?_
  refine ch_n fun hU => ?_
  refine aw_r ?_
  obtain rfl := Option.some.inj hg
  exact fin_ [] ⟨rfl, rfl⟩
 ·refine awp_skip ?_
  repeat first | refine st_ ?_ | refine sn_ ?_
  refine awp_seq ?_
  refine awp_draw (sys _ _ []) (by kernel_rfl) [0, 0, 0, 0, 15, 0, 0, 0, 0, 511, 1023, 2047, 4095] 104 208 hU rfl rfl (by kernel_rfl) ?_
  refine go_ ?_
  obtain ⟨y_2, hy_2, hg⟩ := bind_some hg
  refine ca_ (w_verdict_allowed _ _ _ _ _ hy_2) ?_
  refine go_ ?_
  obtain ⟨y_3, hy_3, hg⟩ := bind_some hg
  refine ca_ (w_verdict_decides _ _ _ _ _ hy_3) ?_
  refine go_ ?_
  refine ch_n fun hU => ?_
  refine aw_r ?_
  obtain rfl := Option.some.inj hg
  exact fin_ [] ⟨rfl, rfl⟩
theorem w_exception_Allowed_c1 (x' : api_Exception) (r : Bool) (hg : g_exception_Allowed_c1 x' = some r) : Fn Tryz.prog 33 0 [.agg (api_Exception.dv x')] [] (fun d' b' => d' = .val (.bool r) ∧ b' = []) := by
 unfold g_exception_Allowed_c1 at hg
 refine Fn.of Tryz.func33 rfl rfl rfl fun w0 I ρ0 => ?_
 show awp _ ⟨w0, I, ρ0, 0, 0, 6, none⟩ _ _ _
 refine sr_ 0 16 mk_U ?_
 refine go_ ?_
 refine ch_n fun hU => ?_
 refine sr_ 16 48 hU ?_
 refine go_ ?_
 obtain ⟨y, hy, hg⟩ := bind_some hg
 refine ca_ (w_exception_Check _ _ hy) ?_
 refine go_ ?_
 refine ch_n fun hU => ?_
 refine aw_r ?_
 obtain rfl := Option.some.inj hg
 exact fin_ [] ⟨rfl, rfl⟩
theorem w_slices_IndexFunc_api_Exception_clo_33_0_ (s : (List api_Exception)) (f : api_Exception → Option (Bool)) (hf_f : ∀ (x0 : api_Exception) (y : Bool), f x0 = some y → Fn Tryz.prog 33 0 [.agg (api_Exception.dv x0)] [] (fun d' b' => d' = .val (.bool y) ∧ b' = [])) (r : Int) (hg : g_slices_IndexFunc_api_Exception s f = some r) : Fn Tryz.prog 56 0 [.sl 7 (encL api_Exception.enc s), .clo 33 0 []] [] (fun d' b' => d' = .val (.int .i64 r) ∧ b' = []) := by
 unfold g_slices_IndexFunc_api_Exception at hg
 refine Fn.of Tryz.func56 rfl rfl rfl fun w0 I ρ0 => ?_
 show awp _ ⟨w0, I, ρ0, 0, 0, 19, none⟩ _ _ _
 refine sr_ 0 8 mk_U ?_
 refine go_ ?_
 refine ch_n fun hU => ?_
 refine awp_seq ?_
 refine sr_ 8 32 hU ?_
 refine go_ ?_
 refine ch_n fun hU => ?_
 refine awp_block ?_
 refine lp_ (fun (x8_1 : Int) => mk [(0, .sl 7 (encL api_Exception.enc s)), (1, .clo 33 0 []), (7, .val (.int .i64 (s.length : Int))), (8, .val (.int .i64 x8_1))] [] 0) hg (sub_ []) ?_
 rintro x8_1 m1 o1 hg hn1
 replace hg : g_slices_IndexFunc_api_Exception.l1 s f x8_1 = some o1 := hg
 show awp _ _ _ _ (mk _ _ _)
 unfold g_slices_IndexFunc_api_Exception.l1 at hg
 refine sr_ 0 8 mk_U ?_
 refine go_ ?_
 refine ch_n fun hU => ?_
 refine awp_seq ?_
 refine cg_ rfl hg (fun h4 hg => ?_) fun h4 hg => ?_
 ·refine awp_skip ?_
  repeat first | refine st_ ?_ | refine sn_ ?_
  refine awp_seq ?_
  refine awp_block ?_
  refine sr_ 8 24 hU ?_
  refine go_ ?_
  refine ch_n fun hU => ?_
  refine sr_ 24 72 hU ?_
  refine go_ ?_
  obtain ⟨e, he, hg⟩ := bind_some hg
  refine go_ ?_
  refine c0_ rfl rfl (r_loadEA ty52 (enc_cells api_Exception.enc_len (getI_at he) (o := 0) (m := 7) (cs := [.int .i64 e.Use.Alg, .int .i64 e.Use.Bits, .int .i64 e.Purpose, .str e.Endpoint, .int .i64 e.Days.From, .int .i64 e.Days.To, .sl 2 (encL api_Seal.enc e.Seals)]) rfl (by decide) rfl) (enc_cells_le api_Exception.enc_len (getI_at he) (o := 0) (m := 7) (by decide) rfl)) rfl rfl ?_
  obtain ⟨y, hy, hg⟩ := bind_some hg
  refine ch_callCP (rd := []) (ps := []) (gs := []) false rfl rfl (hf_f e _ hy) rfl rfl (.cons (.agg (.cons .val (.cons .val (.cons .val (.cons .val (.cons .val (.cons .val (.cons .sl .nil)))))))) .nil) rfl rfl (by intro h; cases h) rfl rfl rfl rfl ?_
  refine ch_n fun hU => ?_
  refine cg_ rfl hg (fun h7 hg => ?_) fun h7 hg => ?_
  ·refine awp_seq ?_
   refine awp_region (sys _ _ []) 72 88 hU rfl rfl ?_
   refine go_ ?_
   refine ch_n fun hU => ?_
   refine aw_r ?_
   replace hg := leave hg hn1
   obtain rfl := Option.some.inj hg
   exact fin_ [] ⟨rfl, rfl⟩
  ·refine awp_skip ?_
   repeat first | refine st_ ?_ | refine sn_ ?_
   refine awp_region (sys _ _ []) 72 88 hU rfl rfl ?_
   refine go_ ?_
   refine ch_n fun hU => ?_
   obtain rfl := Option.some.inj hg
   exact ⟨(W (x8_1 + 1), m1), Nat.lt_succ_self _, hn1, sub_ []⟩
 ·refine awp_exit ?_
  repeat first | refine st_ ?_ | refine sn_ ?_
  replace hg := leave hg hn1
  refine sr_ 8 16 hU ?_
  refine go_ ?_
  refine ch_n fun hU => ?_
  refine aw_r ?_
  obtain rfl := Option.some.inj hg
  exact fin_ [] ⟨rfl, rfl⟩
theorem w_slices_ContainsFunc_api_Exception_clo_33_0_ (s : (List api_Exception)) (f : api_Exception → Option (Bool)) (hf_f : ∀ (x0 : api_Exception) (y : Bool), f x0 = some y → Fn Tryz.prog 33 0 [.agg (api_Exception.dv x0)] [] (fun d' b' => d' = .val (.bool y) ∧ b' = [])) (r : Bool) (hg : g_slices_ContainsFunc_api_Exception s f = some r) : Fn Tryz.prog 32 0 [.sl 7 (encL api_Exception.enc s), .clo 33 0 []] [] (fun d' b' => d' = .val (.bool r) ∧ b' = []) := by
 unfold g_slices_ContainsFunc_api_Exception at hg
 refine Fn.of Tryz.func32 rfl rfl rfl fun w0 I ρ0 => ?_
 show awp _ ⟨w0, I, ρ0, 0, 0, 9, none⟩ _ _ _
 refine sr_ 0 8 mk_U ?_
 refine go_ ?_
 refine ch_n fun hU => ?_
 refine sr_ 8 48 hU ?_
 refine go_ ?_
 obtain ⟨y, hy, hg⟩ := bind_some hg
 refine ca_ (w_slices_IndexFunc_api_Exception_clo_33_0_ s f hf_f _ hy) ?_
 refine go_ ?_
 refine ch_n fun hU => ?_
 refine aw_r ?_
 obtain rfl := Option.some.inj hg
 exact fin_ [] ⟨rfl, rfl⟩
theorem w_exception_ends (l : (List api_Exception)) (o : api_Owners) (u : api_Use) (purpose : Int) (endpoint : ByteArray) (day : Int) (r : Int × Bool) (hg : g_exception_ends l o u purpose endpoint day = some r) : Fn Tryz.prog 35 0 [.sl 7 (encL api_Exception.enc l), .agg [.sl 1 (encL eI o.Keys), .val (.int .i64 o.Need)], .agg [.val (.int .i64 u.Alg), .val (.int .i64 u.Bits)], .val (.int .i64 purpose), .val (.string endpoint), .val (.int .i64 day)] [] (fun d' b' => d' = .tup [.val (.int .i64 r.1), .val (.bool r.2)] ∧ b' = []) := by
 unfold g_exception_ends at hg
 refine Fn.of Tryz.func35 rfl rfl rfl fun w0 I ρ0 => ?_
 show awp _ ⟨w0, I, ρ0, 0, 0, 43, none⟩ _ _ _
 refine sr_ 0 32 mk_U ?_
 refine go_ ?_
 refine ch_n fun hU => ?_
 refine sr_ 32 48 hU ?_
 refine go_ ?_
 refine ch_n fun hU => ?_
 refine awp_seq ?_
 refine sr_ 48 72 hU ?_
 refine go_ ?_
 refine ch_n fun hU => ?_
 refine awp_block ?_
 refine lp_ (fun ((most_1, some_1, x20_1) : Int × Bool × Int) => mk [(3, .val (.int .i64 purpose)), (4, .val (.string endpoint)), (5, .val (.int .i64 day)), (7, .ptr 0 0), (8, .ptr 1 0), (14, .val (.int .i64 most_1)), (15, .val (.bool some_1)), (18, .sl 7 (encL api_Exception.enc l)), (19, .val (.int .i64 (l.length : Int))), (20, .val (.int .i64 x20_1))] [(0, .box [.sl 1 (encL eI o.Keys), .val (.int .i64 o.Need)] 33), (1, .box [.val (.int .i64 u.Alg), .val (.int .i64 u.Bits)] 36)] 2) hg (sub_ [(0, 0), (1, 8)]) ?_
 rintro ⟨most_1, some_1, x20_1⟩ m1 o1 hg hn1
 replace hg : g_exception_ends.l1 l o u purpose endpoint day most_1 some_1 x20_1 = some o1 := hg
 show awp _ _ _ _ (mk _ _ _)
 unfold g_exception_ends.l1 at hg
 refine sr_ 2 10 mk_U ?_
 refine go_ ?_
 refine ch_n fun hU => ?_
 refine awp_seq ?_
 refine cg_ rfl hg (fun h5 hg => ?_) fun h5 hg => ?_
 ·refine awp_skip ?_
  repeat first | refine st_ ?_ | refine sn_ ?_
  refine awp_cut (ι := Int × Bool) (fun ((most_3, some_3) : Int × Bool) => mk [(3, .val (.int .i64 purpose)), (4, .val (.string endpoint)), (5, .val (.int .i64 day)), (7, .ptr 0 0), (8, .ptr 1 0), (14, .val (.int .i64 most_3)), (15, .val (.bool some_3)), (18, .sl 7 (encL api_Exception.enc l)), (19, .val (.int .i64 (l.length : Int))), (20, .val (.int .i64 x20_1))] [(0, .box [.sl 1 (encL eI o.Keys), .val (.int .i64 o.Need)] 33), (1, .box [.val (.int .i64 u.Alg), .val (.int .i64 u.Bits)] 36)] 2) (fun ((most_3, some_3) : Int × Bool) => g_exception_ends.j3 x20_1 most_3 some_3 = some o1) ?_ ?_
  ·refine awp_block ?_
   refine sr_ 10 42 hU ?_
   obtain ⟨e, he, hg⟩ := bind_some hg
   refine go_ ?_
   refine c0_ rfl rfl (r_loadEA ty52 (enc_cells api_Exception.enc_len (getI_at he) (o := 0) (m := 7) (cs := [.int .i64 e.Use.Alg, .int .i64 e.Use.Bits, .int .i64 e.Purpose, .str e.Endpoint, .int .i64 e.Days.From, .int .i64 e.Days.To, .sl 2 (encL api_Seal.enc e.Seals)]) rfl (by decide) rfl) (enc_cells_le api_Exception.enc_len (getI_at he) (o := 0) (m := 7) (by decide) rfl)) rfl rfl ?_
   refine go_ ?_
   refine ch_n fun hU => ?_
   refine awp_cut (ι := Bool) (fun (x34_2 : Bool) => mk [(3, .val (.int .i64 purpose)), (4, .val (.string endpoint)), (5, .val (.int .i64 day)), (7, .ptr 0 0), (8, .ptr 1 0), (14, .val (.int .i64 most_1)), (15, .val (.bool some_1)), (17, .ptr 2 0), (18, .sl 7 (encL api_Exception.enc l)), (19, .val (.int .i64 (l.length : Int))), (20, .val (.int .i64 x20_1)), (34, .val (.bool x34_2))] [(0, .box [.sl 1 (encL eI o.Keys), .val (.int .i64 o.Need)] 33), (1, .box [.val (.int .i64 u.Alg), .val (.int .i64 u.Bits)] 36), (2, .box (api_Exception.dv e) 52)] 3) (fun (x34_2 : Bool) => g_exception_ends.j2 most_1 some_1 x20_1 e x34_2 = some o1) ?_ ?_
   ·refine awp_region (sys _ _ []) 42 130 hU rfl rfl ?_
    refine go_ ?_
    obtain ⟨y, hy, hg⟩ := bind_some hg
    refine ca_ (w_exception_Covers _ _ _ _ _ _ hy) ?_
    refine go_ ?_
    rcases bc_ hg with ⟨h7, hg⟩ | ⟨h7, hg⟩
    ·refine go_ ?_
     obtain ⟨y_2, hy_2, hg⟩ := bind_some hg
     refine ca_ (w_exception_Valid _ _ _ hy_2) ?_
     refine go_ ?_
     refine ch_n fun hU => ?_
     exact ⟨y_2, hg, sub_ [(0, 0), (1, 1), (2, 26)]⟩
    ·refine go_ ?_
     refine ch_n fun hU => ?_
     exact ⟨false, hg, sub_ [(0, 0), (1, 1), (2, 26)]⟩
   ·rintro x34_2 hg
    replace hg : g_exception_ends.j2 most_1 some_1 x20_1 e x34_2 = some o1 := hg
    show awp _ _ _ _ (mk _ _ _)
    unfold g_exception_ends.j2 at hg
    refine cg_ rfl hg (fun h10 hg => ?_) fun h10 hg => ?_
    ·refine awp_region (sys _ _ []) 3 59 mk_U rfl rfl ?_
     refine go_ ?_
     refine c0_ rfl rfl r_max rfl rfl ?_
     refine go_ ?_
     refine ch_n fun hU => ?_
     exact ⟨(max most_1 e.Days.To, true), hg, sub_ [(0, 0), (1, 1)]⟩
    ·refine awp_skip ?_
     repeat first | refine st_ ?_ | refine sn_ ?_
     exact ⟨(most_1, some_1), hg, sub_ [(0, 0), (1, 1)]⟩
  ·rintro ⟨most_3, some_3⟩ hg
   replace hg : g_exception_ends.j3 x20_1 most_3 some_3 = some o1 := hg
   show awp _ _ _ _ (mk _ _ _)
   unfold g_exception_ends.j3 at hg
   refine awp_region (sys _ _ []) 2 18 mk_U rfl rfl ?_
   refine go_ ?_
   refine ch_n fun hU => ?_
   obtain rfl := Option.some.inj hg
   exact ⟨((most_3, some_3, W (x20_1 + 1)), m1), Nat.lt_succ_self _, hn1, sub_ [(0, 0), (1, 1)]⟩
 ·refine awp_exit ?_
  repeat first | refine st_ ?_ | refine sn_ ?_
  replace hg := leave hg hn1
  refine sr_ 10 42 hU ?_
  refine go_ ?_
  refine ch_n fun hU => ?_
  refine aw_r ?_
  obtain rfl := Option.some.inj hg
  exact fin_ [] ⟨rfl, rfl⟩
theorem w_exception_Allowed (p : api_Policy) (l : (List api_Exception)) (o : api_Owners) (u : api_Use) (purpose : Int) (endpoint : ByteArray) (day : Int) (r : Bool × Int) (hg : g_exception_Allowed p l o u purpose endpoint day = some r) : Fn Tryz.prog 14 0 [.agg [.sl 6 (encL api_Rule.enc p.Rules), .sl 2 (encL api_Keep.enc p.Keeps)], .sl 7 (encL api_Exception.enc l), .agg [.sl 1 (encL eI o.Keys), .val (.int .i64 o.Need)], .agg [.val (.int .i64 u.Alg), .val (.int .i64 u.Bits)], .val (.int .i64 purpose), .val (.string endpoint), .val (.int .i64 day)] [] (fun d' b' => d' = .tup [.val (.bool r.1), .val (.int .i64 r.2)] ∧ b' = []) := by
 unfold g_exception_Allowed at hg
 refine Fn.of Tryz.func14 rfl rfl rfl fun w0 I ρ0 => ?_
 show awp _ ⟨w0, I, ρ0, 0, 0, 51, none⟩ _ _ _
 refine sr_ 0 40 mk_U ?_
 refine go_ ?_
 refine ch_n fun hU => ?_
 refine sr_ 40 136 hU ?_
 refine go_ ?_
 obtain ⟨y, hy, hg⟩ := bind_some hg
 refine ca_ (w_verdict_Allowed _ _ _ _ _ hy) ?_
 refine go_ ?_
 refine ch_n fun hU => ?_
 refine awp_seq ?_
 refine awp_block ?_
 refine sr_ 136 160 hU ?_
 refine go_ ?_
 refine ch_n fun hU => ?_
 refine cg_ rfl hg (fun h4 hg => ?_) fun h4 hg => ?_
 ·refine awp_seq ?_
  refine awp_region (sys _ _ []) 160 184 hU rfl rfl ?_
  refine go_ ?_
  refine ch_n fun hU => ?_
  refine aw_r ?_
  obtain rfl := Option.some.inj hg
  exact fin_ [] ⟨rfl, rfl⟩
 ·refine awp_seq ?_
  refine awp_region (sys _ _ []) 160 184 hU rfl rfl ?_
  refine go_ ?_
  obtain ⟨y_2, hy_2, hg⟩ := bind_some hg
  refine ca_ (w_slices_ContainsFunc_api_Exception_clo_33_0_ l (fun x0 => g_exception_Allowed_c1 x0) (fun x0 y h => w_exception_Allowed_c1 x0 y h) _ hy_2) ?_
  refine go_ ?_
  refine ch_n fun hU => ?_
  refine cg_ rfl hg (fun h7 hg => ?_) fun h7 hg => ?_
  ·refine awp_seq ?_
   refine awp_region (sys _ _ []) 184 200 hU rfl rfl ?_
   refine go_ ?_
   refine ch_n fun hU => ?_
   refine aw_r ?_
   obtain rfl := Option.some.inj hg
   exact fin_ [] ⟨rfl, rfl⟩
  ·refine awp_skip ?_
   repeat first | refine st_ ?_ | refine sn_ ?_
   refine sr_ 184 280 hU ?_
   refine go_ ?_
   obtain ⟨y_3, hy_3, hg⟩ := bind_some hg
   refine ca_ (w_exception_ends _ _ _ _ _ _ _ hy_3) ?_
   refine go_ ?_
   refine ch_n fun hU => ?_
   refine sr_ 280 328 hU ?_
   refine go_ ?_
   rcases bc_ hg with ⟨h10, hg⟩ | ⟨h10, hg⟩
   ·refine go_ ?_
    refine ch_n fun hU => ?_
    refine aw_r ?_
    obtain rfl := Option.some.inj hg
    exact fin_ [] ⟨rfl, rfl⟩
   ·refine go_ ?_
    refine ch_n fun hU => ?_
    refine aw_r ?_
    obtain rfl := Option.some.inj hg
    exact fin_ [] ⟨rfl, rfl⟩
theorem w_law19_ExceptionOnly (l : (List Int)) (day : UInt8) (r : Bool) (hg : g_law19_ExceptionOnly l day = some r) : Fn Tryz.prog 3 0 [.sl 1 (encL eI l), .val (.int .u8 (day.toNat : Int))] [] (fun d' b' => d' = .val (.bool r) ∧ b' = []) := by
 unfold g_law19_ExceptionOnly at hg
 refine Fn.of Tryz.func3 rfl rfl rfl fun w0 I ρ0 => ?_
 show awp _ ⟨w0, I, ρ0, 0, 0, 176, none⟩ _ _ _
 refine sr_ 0 8 mk_U ?_
 refine go_ ?_
 refine ch_n fun hU => ?_
 refine awp_seq ?_
 refine sr_ 8 32 hU ?_
 refine go_ ?_
 obtain ⟨y, hy, hg⟩ := bind_some hg
 refine ca_ (w_make_Light _ _ hy) ?_
 refine go_ ?_
 refine ch_n fun hU => ?_
 refine cg_ rfl hg (fun h3 hg => ?_) fun h3 hg => ?_
 ·refine awp_seq ?_
  refine awp_region (sys _ _ []) 32 48 hU rfl rfl ?_
  obtain ⟨y_2, hy_2, hg⟩ := bind_some hg
  refine ca_ (w_law19_awake _ hy_2) ?_
  refine go_ ?_
  refine ch_n fun hU => ?_
  refine aw_r ?_
  obtain rfl := Option.some.inj hg
  exact fin_ [] ⟨rfl, rfl⟩
 ·refine awp_skip ?_
  repeat first | refine st_ ?_ | refine sn_ ?_
  refine sr_ 32 56 hU ?_
  refine go_ ?_
  obtain ⟨y_3, hy_3, hg⟩ := bind_some hg
  refine ch_call (rd := []) (ps := []) (gs := []) false rfl (w_make_Roll _ _ hy_3) rfl rfl (.cons .sl .nil) rfl rfl (by intro h; cases h) rfl (by intro h; first | (cases h; done) | exact ⟨_, _, ⟨rfl, rfl⟩, by simp, by simp⟩) ?_
  rintro _ _ ⟨rfl, rfl⟩
  refine go_ ?_
  refine ch_n fun hU => ?_
  refine sr_ 56 152 hU ?_
  refine go_ ?_
  obtain ⟨y_4, hy_4, hg⟩ := bind_some hg
  refine ch_call (rd := [40]) (ps := [40]) (gs := []) false rfl (w_make_Policy _ _ hy_4) rfl rfl (.cons (.ptr rfl) .nil) ⟨_, _, _, rfl, .head _, ⟨_, rfl, (by repeat' (first | exact AgL.nil | apply AgL.cons | exact Ag.val | exact Ag.sl | exact Ag.nils | exact Ag.ptr rfl | exact Ag.rowK rfl))⟩, rfl⟩ rfl (by intro h; cases h) rfl (by intro h; first | (cases h; done) | exact ⟨_, _, ⟨rfl, rfl⟩, by simp, by simp⟩) ?_
  rintro _ _ ⟨rfl, rfl⟩
  refine go_ ?_
  obtain ⟨y_5, hy_5, hg⟩ := bind_some hg
  refine cb_ [40] [40] [] false (w_make_Owners _ _ hy_5) ?_
  refine go_ ?_
  obtain ⟨y_6, hy_6, hg⟩ := bind_some hg
  refine cb_ [40] [40] [] false (w_make_Use _ _ hy_6) ?_
  refine go_ ?_
  refine ch_n fun hU => ?_
  refine sr_ 152 184 hU ?_
  refine go_ ?_
  obtain ⟨y_7, hy_7, hg⟩ := bind_some hg
  refine cb_ [40] [40] [] false (w_law19_list _ _ _ _ hy_7) ?_
  refine go_ ?_
  refine ch_n fun hU => ?_
  refine sr_ 184 216 hU ?_
  refine go_ ?_
  obtain ⟨y_8, hy_8, hg⟩ := bind_some hg
  refine cb_ [40] [40] [] false (w_make_Use _ _ hy_8) ?_
  refine go_ ?_
  refine ch_n fun hU => ?_
  refine sr_ 216 272 hU ?_
  refine go_ ?_
  obtain ⟨y_9, hy_9, hg⟩ := bind_some hg
  refine cb_ [40] [40] [] false (w_make_Dice_Next _ _ _ hy_9) ?_
  refine go_ ?_
  refine c0_ rfl rfl (r_conv_8i (u := day) und5 und3) rfl rfl ?_
  refine go_ ?_
  refine ch_n fun hU => ?_
  refine sr_ 272 320 hU ?_
  refine go_ ?_
  refine c0_ rfl rfl (r_buildFull sl41 z36 (by decide) rfl rfl rfl rfl ck36 (cs := [.int .i64 y_6.1.Alg, .int .i64 y_6.1.Bits, .int .i64 y_8.1.Alg, .int .i64 y_8.1.Bits]) (.cons .int (.cons .int (.cons .int (.cons .int .nil)))) rfl (l := ([y_6.1, y_8.1] : List api_Use)) (f := api_Use.enc) rfl) rfl rfl ?_
  refine c0_ rfl rfl (r_buildFull sl42 z9 (by decide) rfl rfl rfl rfl ck9 (cs := [.str (⟨#[119, 101, 98]⟩ : ByteArray), .str (⟨#[100, 98]⟩ : ByteArray), .str (⟨#[109, 97, 105, 108]⟩ : ByteArray)]) (.cons .str (.cons .str (.cons .str .nil))) rfl (l := ([(⟨#[119, 101, 98]⟩ : ByteArray), (⟨#[100, 98]⟩ : ByteArray), (⟨#[109, 97, 105, 108]⟩ : ByteArray)] : List ByteArray)) (f := eS) rfl) rfl rfl ?_
  refine go_ ?_
  refine ch_n fun hU => ?_
  refine awp_seq ?_
  refine sr_ 320 328 hU ?_
  refine go_ ?_
  refine ch_n fun hU => ?_
  refine awp_block ?_
  refine lp_ (fun (i_1 : Int) => mk [(6, .ptr 0 0), (7, .ptr 1 0), (9, .sl 7 (encL api_Exception.enc y_7.1)), (11, .val (.int .i64 (W (1 + y_9.1)))), (12, .val (.int .i64 (day.toNat : Int))), (13, .row 2), (14, .row 3), (15, .val (.int .i64 i_1))] [(0, .box [.row 4, .sl 2 (encL api_Keep.enc y_4.1.Keeps)] 30), (1, .box [.sl 1 (encL eI y_5.1.Keys), .val (.int .i64 y_5.1.Need)] 33), (2, .row 36 2 (encL api_Use.enc ([y_6.1, y_8.1] : List api_Use))), (3, .row 9 1 (encL eS ([(⟨#[119, 101, 98]⟩ : ByteArray), (⟨#[100, 98]⟩ : ByteArray), (⟨#[109, 97, 105, 108]⟩ : ByteArray)] : List ByteArray))), (4, .row 57 6 (encL api_Rule.enc y_4.1.Rules))] 5) hg (sub_ [(0, 104), (1, 112), (2, 288), (3, 296), (4, 64)]) ?_
  rintro i_1 m1 o1 hg hn1
  replace hg : g_law19_ExceptionOnly.l1 day y_4 y_5 y_6 y_7 y_8 y_9 i_1 = some o1 := hg
  show awp _ _ _ _ (mk _ _ _)
  unfold g_law19_ExceptionOnly.l1 at hg
  refine awp_seq ?_
  refine sr_ 5 37 mk_U ?_
  refine go_ ?_
  refine ch_n fun hU => ?_
  refine cg_ rfl hg (fun h13 hg => ?_) fun h13 hg => ?_
  ·refine awp_skip ?_
   repeat first | refine st_ ?_ | refine sn_ ?_
   refine awp_seq ?_
   refine awp_block ?_
   refine sr_ 37 45 hU ?_
   refine go_ ?_
   refine ch_n fun hU => ?_
   refine awp_block ?_
   refine lp_ (fun (k_2 : Int) => mk [(6, .ptr 0 0), (7, .ptr 1 0), (9, .sl 7 (encL api_Exception.enc y_7.1)), (11, .val (.int .i64 (W (1 + y_9.1)))), (12, .val (.int .i64 (day.toNat : Int))), (13, .row 2), (14, .row 3), (15, .val (.int .i64 i_1)), (16, .val (.int .i64 k_2))] [(0, .box [.row 4, .sl 2 (encL api_Keep.enc y_4.1.Keeps)] 30), (1, .box [.sl 1 (encL eI y_5.1.Keys), .val (.int .i64 y_5.1.Need)] 33), (2, .row 36 2 (encL api_Use.enc ([y_6.1, y_8.1] : List api_Use))), (3, .row 9 1 (encL eS ([(⟨#[119, 101, 98]⟩ : ByteArray), (⟨#[100, 98]⟩ : ByteArray), (⟨#[109, 97, 105, 108]⟩ : ByteArray)] : List ByteArray))), (4, .row 57 6 (encL api_Rule.enc y_4.1.Rules))] 5) hg (sub_ [(0, 0), (1, 1), (2, 2), (3, 3), (4, 4)]) ?_
   rintro k_2 m2 o2 hg hn2
   replace hg : g_law19_ExceptionOnly.l2 day y_4 y_5 y_6 y_7 y_8 y_9 i_1 k_2 = some o2 := hg
   show awp _ _ _ _ (mk _ _ _)
   unfold g_law19_ExceptionOnly.l2 at hg
   refine awp_seq ?_
   refine sr_ 5 37 mk_U ?_
   refine go_ ?_
   refine ch_n fun hU => ?_
   refine cg_ rfl hg (fun h16 hg => ?_) fun h16 hg => ?_
   ·refine awp_skip ?_
    repeat first | refine st_ ?_ | refine sn_ ?_
    refine awp_seq ?_
    refine awp_block ?_
    refine awp_seq ?_
    refine awp_draw (sys _ _ []) (by kernel_rfl) [0, 0, 0, 6, 14, 0, 0, 127, 255, 511, 511, 511, 1023, 6143, 16383] 37 157 hU rfl rfl (by kernel_rfl) ?_
    refine go_ ?_
    obtain ⟨e, he, hg⟩ := bind_some hg
    refine go_ ?_
    refine ch_s (rd := [2]) rfl rfl (r_loadRA ty36 (enc_cells api_Use.enc_len (getI_at he) (o := 0) (m := 2) (cs := [.int .i64 e.Alg, .int .i64 e.Bits]) rfl (by decide) rfl) (enc_cells_le api_Use.enc_len (getI_at he) (o := 0) (m := 2) (by decide) rfl)) rfl rfl ?_
    refine go_ ?_
    obtain ⟨y_10, hy_10, hg⟩ := bind_some hg
    refine cb_ [4] [] [] true (w_ref18_Allowed _ _ _ _ _ hy_10) ?_
    refine go_ ?_
    refine ch_n fun hU => ?_
    refine awp_seq ?_
    refine awp_draw (sys _ _ []) (by kernel_rfl) [0, 0, 0, 0, 0, 24, 56, 0, 0, 0, 768, 1792, 0, 8191, 16383, 32767, 32767, 65535, 262143] 157 309 hU rfl rfl (by kernel_rfl) ?_
    refine go_ ?_
    refine ch_s (rd := [2]) rfl rfl (r_loadRA ty36 (enc_cells api_Use.enc_len (getI_at he) (o := 0) (m := 2) (cs := [.int .i64 e.Alg, .int .i64 e.Bits]) rfl (by decide) rfl) (enc_cells_le api_Use.enc_len (getI_at he) (o := 0) (m := 2) (by decide) rfl)) rfl rfl ?_
    refine go_ ?_
    obtain ⟨e_2, he_2, hg⟩ := bind_some hg
    refine go_ ?_
    refine ch_s (rd := [3]) rfl rfl (.loadR1 ty9 (enc_cell eS_len (getI_at he_2) (o := 0) (c := .str e_2) rfl rfl)) rfl rfl ?_
    refine go_ ?_
    obtain ⟨y_11, hy_11, hg⟩ := bind_some hg
    refine cb_ [4] [] [] true (w_exception_Allowed _ _ _ _ _ _ _ _ hy_11) ?_
    refine go_ ?_
    refine ch_n fun hU => ?_
    refine sr_ 309 317 hU ?_
    refine go_ ?_
    refine ch_n fun hU => ?_
    refine awp_seq ?_
    refine sr_ 317 325 hU ?_
    refine go_ ?_
    refine ch_n fun hU => ?_
    refine awp_block ?_
    refine lp_ (fun ((meant_3, m_3) : Bool × Int) => mk [(6, .ptr 0 0), (7, .ptr 1 0), (9, .sl 7 (encL api_Exception.enc y_7.1)), (11, .val (.int .i64 (W (1 + y_9.1)))), (12, .val (.int .i64 (day.toNat : Int))), (13, .row 2), (14, .row 3), (15, .val (.int .i64 i_1)), (16, .val (.int .i64 k_2)), (17, .val (.bool y_10.1)), (19, .val (.int .i64 y_10.2.2)), (20, .val (.bool y_11.1)), (21, .val (.int .i64 y_11.2)), (22, .val (.bool meant_3)), (23, .val (.int .i64 m_3))] [(0, .box [.row 4, .sl 2 (encL api_Keep.enc y_4.1.Keeps)] 30), (1, .box [.sl 1 (encL eI y_5.1.Keys), .val (.int .i64 y_5.1.Need)] 33), (2, .row 36 2 (encL api_Use.enc ([y_6.1, y_8.1] : List api_Use))), (3, .row 9 1 (encL eS ([(⟨#[119, 101, 98]⟩ : ByteArray), (⟨#[100, 98]⟩ : ByteArray), (⟨#[109, 97, 105, 108]⟩ : ByteArray)] : List ByteArray))), (4, .row 57 6 (encL api_Rule.enc y_4.1.Rules))] 5) hg (sub_ [(0, 0), (1, 1), (2, 2), (3, 3), (4, 4)]) ?_
    rintro ⟨meant_3, m_3⟩ m3 o3 hg hn3
    replace hg : g_law19_ExceptionOnly.l3 day y_7 y_9 k_2 e y_10 e_2 y_11 meant_3 m_3 = some o3 := hg
    show awp _ _ _ _ (mk _ _ _)
    unfold g_law19_ExceptionOnly.l3 at hg
    refine awp_seq ?_
    refine sr_ 5 37 mk_U ?_
    refine go_ ?_
    refine ch_n fun hU => ?_
    refine cg_ rfl hg (fun h22 hg => ?_) fun h22 hg => ?_
    ·refine awp_skip ?_
     repeat first | refine st_ ?_ | refine sn_ ?_
     refine awp_cut (ι := Bool) (fun (meant_4 : Bool) => mk [(6, .ptr 0 0), (7, .ptr 1 0), (9, .sl 7 (encL api_Exception.enc y_7.1)), (11, .val (.int .i64 (W (1 + y_9.1)))), (12, .val (.int .i64 (day.toNat : Int))), (13, .row 2), (14, .row 3), (15, .val (.int .i64 i_1)), (16, .val (.int .i64 k_2)), (17, .val (.bool y_10.1)), (19, .val (.int .i64 y_10.2.2)), (20, .val (.bool y_11.1)), (21, .val (.int .i64 y_11.2)), (22, .val (.bool meant_4)), (23, .val (.int .i64 m_3))] [(0, .box [.row 4, .sl 2 (encL api_Keep.enc y_4.1.Keeps)] 30), (1, .box [.sl 1 (encL eI y_5.1.Keys), .val (.int .i64 y_5.1.Need)] 33), (2, .row 36 2 (encL api_Use.enc ([y_6.1, y_8.1] : List api_Use))), (3, .row 9 1 (encL eS ([(⟨#[119, 101, 98]⟩ : ByteArray), (⟨#[100, 98]⟩ : ByteArray), (⟨#[109, 97, 105, 108]⟩ : ByteArray)] : List ByteArray))), (4, .row 57 6 (encL api_Rule.enc y_4.1.Rules))] 5) (fun (meant_4 : Bool) => g_law19_ExceptionOnly.j4 m_3 meant_4 = some o3) ?_ ?_
     ·refine awp_block ?_
      refine awp_draw (sys _ _ []) (by kernel_rfl) [0, 1, 3, 3, 15, 31, 63, 3, 3, 387, 899, 2047, 4095, 8191, 8191, 32767, 65535, 131071, 8191, 524287, 1048575, 2097151, 4194303, 4194303, 16777215, 33554431, 67108863, 4194303, 4194303, 406847487, 943718399, 2147483647, 4294967295, 8589934591, 17179869183, 17179869183, 17179869183, 120259084287, 257698037759, 532575944703, 1082331758591, 2199023255551, 4398046511103, 8796093022207, 17592186044415, 17592186044415, 17592186044415, 123145302310911, 263882790666239, 545357767376895, 1108307720798207, 2251799813685247, 4503599627370495, 9007199254740991, 18014398509481983] 37 477 hU rfl rfl (by kernel_rfl) ?_
      refine go_ ?_
      rcases bc_ hg with ⟨h23, hg⟩ | ⟨h23, hg⟩
      ·refine go_ ?_
       refine ch_n fun hU => ?_
       exact ⟨true, hg, sub_ [(0, 0), (1, 1), (2, 2), (3, 3), (4, 4)]⟩
      ·refine go_ ?_
       obtain ⟨e_3, he_3, hg⟩ := bind_some hg
       refine go_ ?_
       refine c0_ (gdv_t rfl rfl h23) rfl (r_fieldE fd52_0 ty36 (by decide) (enc_lt api_Exception.enc_len (getI_at he_3) (o := 0) (by decide) rfl)) rfl rfl ?_
       refine c0_ (gdv_t rfl rfl h23) rfl (r_loadEA ty36 (enc_cells api_Exception.enc_len (getI_at he_3) (o := 0) (m := 2) (cs := [.int .i64 e_3.Use.Alg, .int .i64 e_3.Use.Bits]) rfl (by decide) rfl) (enc_cells_le api_Exception.enc_len (getI_at he_3) (o := 0) (m := 2) (by decide) rfl)) rfl rfl ?_
       refine go_ ?_
       refine ch_s (rd := [2]) (gdv_t rfl rfl h23) rfl (r_loadRA ty36 (enc_cells api_Use.enc_len (getI_at he) (o := 0) (m := 2) (cs := [.int .i64 e.Alg, .int .i64 e.Bits]) rfl (by decide) rfl) (enc_cells_le api_Use.enc_len (getI_at he) (o := 0) (m := 2) (by decide) rfl)) rfl rfl ?_
       refine c0_ (gdv_t rfl rfl h23) rfl (steq36_eql e_3.Use e) rfl rfl ?_
       refine go_ ?_
       rcases bc_ hg with ⟨h25, hg⟩ | ⟨h25, hg⟩
       ·refine go_ ?_
        refine c0_ (gdv_t rfl rfl h25) rfl (r_fieldE fd52_1 ty3 (by decide) (enc_lt api_Exception.enc_len (getI_at he_3) (o := 2) (by decide) rfl)) rfl rfl ?_
        refine c0_ (gdv_t rfl rfl h25) rfl (r_loadE1 ty3 (enc_cell api_Exception.enc_len (getI_at he_3) (o := 2) (c := .int .i64 e_3.Purpose) rfl rfl)) rfl rfl ?_
        refine go_ ?_
        rcases bc_ hg with ⟨h26, hg⟩ | ⟨h26, hg⟩
        ·refine go_ ?_
         refine c0_ (gdv_t rfl rfl h26) rfl (r_fieldE fd52_2 ty9 (by decide) (enc_lt api_Exception.enc_len (getI_at he_3) (o := 3) (by decide) rfl)) rfl rfl ?_
         refine c0_ (gdv_t rfl rfl h26) rfl (r_loadE1 ty9 (enc_cell api_Exception.enc_len (getI_at he_3) (o := 3) (c := .str e_3.Endpoint) rfl rfl)) rfl rfl ?_
         refine go_ ?_
         refine ch_s (rd := [3]) (gdv_t rfl rfl h26) rfl (.loadR1 ty9 (enc_cell eS_len (getI_at he_2) (o := 0) (c := .str e_2) rfl rfl)) rfl rfl ?_
         refine go_ ?_
         rcases bc_ hg with ⟨h27, hg⟩ | ⟨h27, hg⟩
         ·refine go_ ?_
          refine c0_ (gdv_t rfl rfl h27) rfl (r_fieldE fd52_3 ty49 (by decide) (enc_lt api_Exception.enc_len (getI_at he_3) (o := 4) (by decide) rfl)) rfl rfl ?_
          refine c0_ (gdv_t rfl rfl h27) rfl (r_fieldE fd49_0 ty3 (by decide) (enc_lt api_Exception.enc_len (getI_at he_3) (o := 4) (by decide) rfl)) rfl rfl ?_
          refine c0_ (gdv_t rfl rfl h27) rfl (r_loadE1 ty3 (enc_cell api_Exception.enc_len (getI_at he_3) (o := 4) (c := .int .i64 e_3.Days.From) rfl rfl)) rfl rfl ?_
          refine go_ ?_
          rcases bc_ hg with ⟨h28, hg⟩ | ⟨h28, hg⟩
          ·refine go_ ?_
           refine c0_ (gdv_t rfl rfl h28) rfl (r_fieldE fd52_3 ty49 (by decide) (enc_lt api_Exception.enc_len (getI_at he_3) (o := 4) (by decide) rfl)) rfl rfl ?_
           refine c0_ (gdv_t rfl rfl h28) rfl (r_fieldE fd49_1 ty3 (by decide) (enc_lt api_Exception.enc_len (getI_at he_3) (o := 5) (by decide) rfl)) rfl rfl ?_
           refine c0_ (gdv_t rfl rfl h28) rfl (r_loadE1 ty3 (enc_cell api_Exception.enc_len (getI_at he_3) (o := 5) (c := .int .i64 e_3.Days.To) rfl rfl)) rfl rfl ?_
           refine go_ ?_
           refine ch_n fun hU => ?_
           exact ⟨decide ((day.toNat : Int) < e_3.Days.To), hg, sub_ [(0, 0), (1, 1), (2, 2), (3, 3), (4, 4)]⟩
          ·refine go_ ?_
           refine ch_n fun hU => ?_
           exact ⟨false, hg, sub_ [(0, 0), (1, 1), (2, 2), (3, 3), (4, 4)]⟩
         ·refine go_ ?_
          refine ch_n fun hU => ?_
          exact ⟨false, hg, sub_ [(0, 0), (1, 1), (2, 2), (3, 3), (4, 4)]⟩
        ·refine go_ ?_
         refine ch_n fun hU => ?_
         exact ⟨false, hg, sub_ [(0, 0), (1, 1), (2, 2), (3, 3), (4, 4)]⟩
       ·refine go_ ?_
        refine ch_n fun hU => ?_
        exact ⟨false, hg, sub_ [(0, 0), (1, 1), (2, 2), (3, 3), (4, 4)]⟩
     ·rintro meant_4 hg
      replace hg : g_law19_ExceptionOnly.j4 m_3 meant_4 = some o3 := hg
      show awp _ _ _ _ (mk _ _ _)
      unfold g_law19_ExceptionOnly.j4 at hg
      refine awp_region (sys _ _ []) 5 29 mk_U rfl rfl ?_
      refine go_ ?_
      refine ch_n fun hU => ?_
      obtain rfl := Option.some.inj hg
      exact ⟨((meant_4, W (m_3 + 1)), m3), Nat.lt_succ_self _, hn3, sub_ [(0, 0), (1, 1), (2, 2), (3, 3), (4, 4)]⟩
    ·refine awp_exit ?_
     repeat first | refine st_ ?_ | refine sn_ ?_
     replace hg := leave hg hn3
     refine awp_cut (ι := Bool) (fun (x174_5 : Bool) => mk [(6, .ptr 0 0), (7, .ptr 1 0), (9, .sl 7 (encL api_Exception.enc y_7.1)), (11, .val (.int .i64 (W (1 + y_9.1)))), (12, .val (.int .i64 (day.toNat : Int))), (13, .row 2), (14, .row 3), (15, .val (.int .i64 i_1)), (16, .val (.int .i64 k_2)), (174, .val (.bool x174_5))] [(0, .box [.row 4, .sl 2 (encL api_Keep.enc y_4.1.Keeps)] 30), (1, .box [.sl 1 (encL eI y_5.1.Keys), .val (.int .i64 y_5.1.Need)] 33), (2, .row 36 2 (encL api_Use.enc ([y_6.1, y_8.1] : List api_Use))), (3, .row 9 1 (encL eS ([(⟨#[119, 101, 98]⟩ : ByteArray), (⟨#[100, 98]⟩ : ByteArray), (⟨#[109, 97, 105, 108]⟩ : ByteArray)] : List ByteArray))), (4, .row 57 6 (encL api_Rule.enc y_4.1.Rules))] 5) (fun (x174_5 : Bool) => g_law19_ExceptionOnly.j5 k_2 x174_5 = some o2) ?_ ?_
     ·refine awp_region (sys _ _ []) 37 229 hU rfl rfl ?_
      refine go_ ?_
      rcases bc_ hg with ⟨h35, hg⟩ | ⟨h35, hg⟩
      ·refine go_ ?_
       refine ch_n fun hU => ?_
       exact ⟨true, hg, sub_ [(0, 0), (1, 1), (2, 2), (3, 3), (4, 4)]⟩
      ·refine go_ ?_
       rcases bc_ hg with ⟨h37, hg⟩ | ⟨h37, hg⟩
       ·refine go_ ?_
        refine ch_n fun hU => ?_
        exact ⟨true, hg, sub_ [(0, 0), (1, 1), (2, 2), (3, 3), (4, 4)]⟩
       ·refine go_ ?_
        rcases bc_ hg with ⟨h39, hg⟩ | ⟨h39, hg⟩
        ·refine go_ ?_
         rcases bc_ hg with ⟨h40, hg⟩ | ⟨h40, hg⟩
         ·refine go_ ?_
          refine ch_n fun hU => ?_
          exact ⟨true, hg, sub_ [(0, 0), (1, 1), (2, 2), (3, 3), (4, 4)]⟩
         ·refine go_ ?_
          refine ch_n fun hU => ?_
          exact ⟨false, hg, sub_ [(0, 0), (1, 1), (2, 2), (3, 3), (4, 4)]⟩
        ·refine go_ ?_
         rcases bc_ hg with ⟨h43, hg⟩ | ⟨h43, hg⟩
         ·refine go_ ?_
          refine ch_n fun hU => ?_
          exact ⟨!meant_3, hg, sub_ [(0, 0), (1, 1), (2, 2), (3, 3), (4, 4)]⟩
         ·refine go_ ?_
          refine ch_n fun hU => ?_
          exact ⟨false, hg, sub_ [(0, 0), (1, 1), (2, 2), (3, 3), (4, 4)]⟩
     ·rintro x174_5 hg
      replace hg : g_law19_ExceptionOnly.j5 k_2 x174_5 = some o2 := hg
      show awp _ _ _ _ (mk _ _ _)
      unfold g_law19_ExceptionOnly.j5 at hg
      refine cg_ rfl hg (fun h46 hg => ?_) fun h46 hg => ?_
      ·refine awp_seq ?_
       refine awp_region (sys _ _ []) 5 13 mk_U rfl rfl ?_
       refine go_ ?_
       refine ch_n fun hU => ?_
       refine aw_r ?_
       replace hg := leave hg hn2
       replace hg := leave hg hn1
       obtain rfl := Option.some.inj hg
       exact fin_ [] ⟨rfl, rfl⟩
      ·refine awp_skip ?_
       repeat first | refine st_ ?_ | refine sn_ ?_
       refine awp_region (sys _ _ []) 5 29 mk_U rfl rfl ?_
       refine go_ ?_
       refine ch_n fun hU => ?_
       obtain rfl := Option.some.inj hg
       exact ⟨(W (k_2 + 1), m2), Nat.lt_succ_self _, hn2, sub_ [(0, 0), (1, 1), (2, 2), (3, 3), (4, 4)]⟩
   ·refine awp_exit ?_
    repeat first | refine st_ ?_ | refine sn_ ?_
    replace hg := leave hg hn2
    refine awp_region (sys _ _ []) 37 61 hU rfl rfl ?_
    refine go_ ?_
    refine ch_n fun hU => ?_
    obtain rfl := Option.some.inj hg
    exact ⟨(W (i_1 + 1), m1), Nat.lt_succ_self _, hn1, sub_ [(0, 0), (1, 1), (2, 2), (3, 3), (4, 4)]⟩
  ·refine awp_exit ?_
   repeat first | refine st_ ?_ | refine sn_ ?_
   replace hg := leave hg hn1
   refine sr_ 37 53 hU ?_
   obtain ⟨y_12, hy_12, hg⟩ := bind_some hg
   refine ca_ (w_law19_awake _ hy_12) ?_
   refine go_ ?_
   refine ch_n fun hU => ?_
   refine aw_r ?_
   obtain rfl := Option.some.inj hg
   exact fin_ [] ⟨rfl, rfl⟩
end Go.Proofs.YtmbhoimeiahbaaaGreat
