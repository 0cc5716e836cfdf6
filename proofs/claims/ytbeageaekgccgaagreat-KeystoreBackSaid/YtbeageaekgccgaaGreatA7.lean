/- The program computes the plain functions. -/
import Derived.Test.YtbeageaekgccgaaGreatT1
import Derived.Test.YtbeageaekgccgaaGreatA2
import Derived.Test.YtbeageaekgccgaaGreatA6
set_option linter.unusedVariables false
set_option linter.unusedSimpArgs false
set_option maxRecDepth 100000
set_option maxHeartbeats 1600000
namespace Go.Proofs.YtbeageaekgccgaaGreat
open Go.RowKit
theorem w_certificate_Reader_Int (r' : certificate_Reader) (r : Int × certificate_Reader) (hg : g_certificate_Reader_Int r' = some r) : Fn Tryz.prog 105 1 [.ptr 0 0] [.box [.sl 4 (encL api_Value.enc r'.l), .val (.bool r'.Failed)] 131] (fun d' b' => d' = .val (.int .i64 r.1) ∧ b' = [.box [.sl 4 (encL api_Value.enc r.2.l), .val (.bool r.2.Failed)] 131]) := by
 unfold g_certificate_Reader_Int at hg
 refine Fn.of Tryz.func105 rfl rfl rfl fun w0 I ρ0 => ?_
 show awp _ ⟨w0, I, ρ0, 1, 1, 23⟩ _ _ _
 refine sr_ 1 9 mk_U ?_
 refine go_ ?_
 refine ch_n fun hU => ?_
 refine sr_ 9 73 hU ?_
 refine go_ ?_
 obtain ⟨y, hy, hg⟩ := bind_some hg
 refine cb_ [0] [0] [] false (w_certificate_Reader_Next _ _ hy) ?_
 obtain ⟨y_2, hy_2, hg⟩ := bind_some hg
 refine ca_ (w_der_AsInt _ _ hy_2) ?_
 refine go_ ?_
 refine ch_n fun hU => ?_
 refine sr_ 73 169 hU ?_
 refine go_ ?_
 rcases bc_ hg with ⟨h3, hg⟩ | ⟨h3, hg⟩
 ·refine go_ ?_
  refine ch_n fun hU => ?_
  refine sr_ 169 185 hU ?_
  refine go_ ?_
  refine ch_n fun hU => ?_
  refine aw_r ?_
  obtain rfl := Option.some.inj hg
  exact fin_ [(0, 0)] ⟨rfl, rfl⟩
 ·refine go_ ?_
  refine ch_n fun hU => ?_
  refine sr_ 169 185 hU ?_
  refine go_ ?_
  refine ch_n fun hU => ?_
  refine aw_r ?_
  obtain rfl := Option.some.inj hg
  exact fin_ [(0, 0)] ⟨rfl, rfl⟩
theorem w_certificate_Reader_Use (r' : certificate_Reader) (r : api_Use × certificate_Reader) (hg : g_certificate_Reader_Use r' = some r) : Fn Tryz.prog 104 1 [.ptr 0 0] [.box [.sl 4 (encL api_Value.enc r'.l), .val (.bool r'.Failed)] 131] (fun d' b' => d' = .agg [.val (.int .i64 r.1.Alg), .val (.int .i64 r.1.Bits)] ∧ b' = [.box [.sl 4 (encL api_Value.enc r.2.l), .val (.bool r.2.Failed)] 131]) := by
 unfold g_certificate_Reader_Use at hg
 refine Fn.of Tryz.func104 rfl rfl rfl fun w0 I ρ0 => ?_
 show awp _ ⟨w0, I, ρ0, 1, 1, 27⟩ _ _ _
 refine sr_ 1 9 mk_U ?_
 refine go_ ?_
 refine ch_n fun hU => ?_
 refine sr_ 9 41 hU ?_
 refine go_ ?_
 obtain ⟨y, hy, hg⟩ := bind_some hg
 refine cb_ [0] [0] [] false (w_certificate_Reader_Next _ _ hy) ?_
 obtain ⟨y_2, hy_2, hg⟩ := bind_some hg
 refine ch_call (rd := []) (ps := []) (gs := []) false rfl (w_certificate_Read _ _ _ hy_2) rfl rfl (.cons (.agg (.cons .val (.cons .sl (.cons .val (.cons .sl .nil))))) (.cons .val .nil)) rfl rfl (by intro h; cases h) rfl (by intro h; first | (cases h; done) | exact ⟨_, _, ⟨rfl, rfl⟩, by simp, by simp⟩) ?_
 rintro _ _ ⟨rfl, rfl⟩
 refine go_ ?_
 refine ch_n fun hU => ?_
 refine sr_ 41 97 hU ?_
 refine go_ ?_
 obtain ⟨y_3, hy_3, hg⟩ := bind_some hg
 refine cb_ [25] [25] [] false (w_certificate_Reader_Int _ _ hy_3) ?_
 refine go_ ?_
 obtain ⟨y_4, hy_4, hg⟩ := bind_some hg
 refine cb_ [25] [25] [] false (w_certificate_Reader_Int _ _ hy_4) ?_
 refine c0_ rfl rfl (.build (r := [.val (.int .i64 y_3.1), .val (.int .i64 y_4.1)]) und37 pl37 z37 (by kernel_rfl) rfl) rfl rfl ?_
 refine go_ ?_
 refine ch_n fun hU => ?_
 refine awp_cut (ι := Bool) (fun (b_1 : Bool) => mk [(2, .ptr 1 0), (4, .ptr 2 0)] [(0, .box [.sl 4 (encL api_Value.enc y.2.l), .val (.bool b_1)] 131), (1, .box [.val (.int .i64 0), .val (.int .i64 0)] 37), (2, .box [.val (.int .i64 y_3.1), .val (.int .i64 y_4.1)] 37)] 3) (fun (b_1 : Bool) => g_certificate_Reader_Use.j1 y y_3 y_4 b_1 = some r) ?_ ?_
 ·refine awp_region (sys _ _ []) 97 209 hU rfl rfl ?_
  refine go_ ?_
  rcases bc_ hg with ⟨h4, hg⟩ | ⟨h4, hg⟩
  ·refine go_ ?_
   refine ch_n fun hU => ?_
   exact ⟨true, hg, sub_ [(0, 0), (1, 1), (2, 81)]⟩
  ·refine go_ ?_
   refine ch_n fun hU => ?_
   exact ⟨y_4.2.Failed, hg, sub_ [(0, 0), (1, 1), (2, 81)]⟩
 ·rintro b_1 hg
  replace hg : g_certificate_Reader_Use.j1 y y_3 y_4 b_1 = some r := hg
  show awp _ _ _ _ (mk _ _ _)
  unfold g_certificate_Reader_Use.j1 at hg
  refine sr_ 3 19 mk_U ?_
  refine go_ ?_
  refine ch_n fun hU => ?_
  refine aw_r ?_
  obtain rfl := Option.some.inj hg
  exact fin_ [(0, 0)] ⟨rfl, rfl⟩
theorem w_der_AsBool (v : api_Value) (r : Bool × Int) (hg : g_der_AsBool v = some r) : Fn Tryz.prog 147 0 [.agg (api_Value.dv v)] [] (fun d' b' => d' = .tup [.val (.bool r.1), .val (.int .i64 r.2)] ∧ b' = []) := by
 unfold g_der_AsBool at hg
 refine Fn.of Tryz.func147 rfl rfl rfl fun w0 I ρ0 => ?_
 show awp _ ⟨w0, I, ρ0, 0, 0, 32⟩ _ _ _
 refine sr_ 0 24 mk_U ?_
 refine go_ ?_
 refine ch_n fun hU => ?_
 refine awp_seq ?_
 refine awp_cut (ι := Bool) (fun (x26_1 : Bool) => mk [(1, .ptr 0 0), (26, .val (.bool x26_1))] [(0, .box (api_Value.dv v) 50)] 1) (fun (x26_1 : Bool) => g_der_AsBool.j1 v x26_1 = some r) ?_ ?_
 ·refine awp_region (sys _ _ []) 24 208 hU rfl rfl ?_
  refine go_ ?_
  obtain ⟨y, hy, hg⟩ := bind_some hg
  refine ca_ (w_der_plain _ _ _ hy) ?_
  refine go_ ?_
  rcases bc_ hg with ⟨h2, hg⟩ | ⟨h2, hg⟩
  ·refine go_ ?_
   refine ch_n fun hU => ?_
   exact ⟨true, hg, sub_ [(0, 0)]⟩
  ·refine go_ ?_
   rcases bc_ hg with ⟨h4, hg⟩ | ⟨h4, hg⟩
   ·refine go_ ?_
    refine ch_n fun hU => ?_
    exact ⟨true, hg, sub_ [(0, 0)]⟩
   ·refine go_ ?_
    obtain ⟨e, he, hg⟩ := bind_some hg
    refine go_ ?_
    refine c0_ (gdv_t rfl rfl h4) rfl (r_loadE1 ty5 (enc_cell e8_len (getI_at he) (o := 0) (c := .int .u8 (e.toNat : Int)) rfl rfl)) rfl rfl ?_
    refine go_ ?_
    rcases bc_ hg with ⟨h6, hg⟩ | ⟨h6, hg⟩
    ·refine go_ ?_
     refine c0_ (gdv_t rfl rfl h6) rfl (r_loadE1 ty5 (enc_cell e8_len (getI_at he) (o := 0) (c := .int .u8 (e.toNat : Int)) rfl rfl)) rfl rfl ?_
     refine go_ ?_
     refine ch_n fun hU => ?_
     exact ⟨!decide ((e.toNat : Int) = 255), hg, sub_ [(0, 0)]⟩
    ·refine go_ ?_
     refine ch_n fun hU => ?_
     exact ⟨false, hg, sub_ [(0, 0)]⟩
 ·rintro x26_1 hg
  replace hg : g_der_AsBool.j1 v x26_1 = some r := hg
  show awp _ _ _ _ (mk _ _ _)
  unfold g_der_AsBool.j1 at hg
  refine cg_ rfl hg (fun h9 hg => ?_) fun h9 hg => ?_
  ·refine awp_seq ?_
   refine awp_region (sys _ _ []) 1 17 mk_U rfl rfl ?_
   refine go_ ?_
   refine ch_n fun hU => ?_
   refine aw_r ?_
   obtain rfl := Option.some.inj hg
   exact fin_ [] ⟨rfl, rfl⟩
  ·refine awp_skip ?_
   repeat first | refine st_ ?_ | refine sn_ ?_
   refine sr_ 1 57 mk_U ?_
   refine go_ ?_
   obtain ⟨e_2, he_2, hg⟩ := bind_some hg
   refine go_ ?_
   refine c0_ rfl rfl (r_loadE1 ty5 (enc_cell e8_len (getI_at he_2) (o := 0) (c := .int .u8 (e_2.toNat : Int)) rfl rfl)) rfl rfl ?_
   refine go_ ?_
   refine ch_n fun hU => ?_
   refine aw_r ?_
   obtain rfl := Option.some.inj hg
   exact fin_ [] ⟨rfl, rfl⟩
theorem w_certificate_Reader_Bool (r' : certificate_Reader) (r : Bool × certificate_Reader) (hg : g_certificate_Reader_Bool r' = some r) : Fn Tryz.prog 106 1 [.ptr 0 0] [.box [.sl 4 (encL api_Value.enc r'.l), .val (.bool r'.Failed)] 131] (fun d' b' => d' = .val (.bool r.1) ∧ b' = [.box [.sl 4 (encL api_Value.enc r.2.l), .val (.bool r.2.Failed)] 131]) := by
 unfold g_certificate_Reader_Bool at hg
 refine Fn.of Tryz.func106 rfl rfl rfl fun w0 I ρ0 => ?_
 show awp _ ⟨w0, I, ρ0, 1, 1, 23⟩ _ _ _
 refine sr_ 1 9 mk_U ?_
 refine go_ ?_
 refine ch_n fun hU => ?_
 refine sr_ 9 73 hU ?_
 refine go_ ?_
 obtain ⟨y, hy, hg⟩ := bind_some hg
 refine cb_ [0] [0] [] false (w_certificate_Reader_Next _ _ hy) ?_
 obtain ⟨y_2, hy_2, hg⟩ := bind_some hg
 refine ca_ (w_der_AsBool _ _ hy_2) ?_
 refine go_ ?_
 refine ch_n fun hU => ?_
 refine sr_ 73 169 hU ?_
 refine go_ ?_
 rcases bc_ hg with ⟨h3, hg⟩ | ⟨h3, hg⟩
 ·refine go_ ?_
  refine ch_n fun hU => ?_
  refine sr_ 169 185 hU ?_
  refine go_ ?_
  refine ch_n fun hU => ?_
  refine aw_r ?_
  obtain rfl := Option.some.inj hg
  exact fin_ [(0, 0)] ⟨rfl, rfl⟩
 ·refine go_ ?_
  refine ch_n fun hU => ?_
  refine sr_ 169 185 hU ?_
  refine go_ ?_
  refine ch_n fun hU => ?_
  refine aw_r ?_
  obtain rfl := Option.some.inj hg
  exact fin_ [(0, 0)] ⟨rfl, rfl⟩
theorem w_certificate_Reader_List (r' : certificate_Reader) (r : (List api_Value) × certificate_Reader) (hg : g_certificate_Reader_List r' = some r) : Fn Tryz.prog 107 1 [.ptr 0 0] [.box [.sl 4 (encL api_Value.enc r'.l), .val (.bool r'.Failed)] 131] (fun d' b' => d' = .sl 4 (encL api_Value.enc r.1) ∧ b' = [.box [.sl 4 (encL api_Value.enc r.2.l), .val (.bool r.2.Failed)] 131]) := by
 unfold g_certificate_Reader_List at hg
 refine Fn.of Tryz.func107 rfl rfl rfl fun w0 I ρ0 => ?_
 show awp _ ⟨w0, I, ρ0, 1, 1, 23⟩ _ _ _
 refine sr_ 1 9 mk_U ?_
 refine go_ ?_
 refine ch_n fun hU => ?_
 refine sr_ 9 73 hU ?_
 refine go_ ?_
 obtain ⟨y, hy, hg⟩ := bind_some hg
 refine cb_ [0] [0] [] false (w_certificate_Reader_Next _ _ hy) ?_
 obtain ⟨y_2, hy_2, hg⟩ := bind_some hg
 refine ca_ (w_der_AsList _ _ hy_2) ?_
 refine go_ ?_
 refine ch_n fun hU => ?_
 refine sr_ 73 169 hU ?_
 refine go_ ?_
 rcases bc_ hg with ⟨h3, hg⟩ | ⟨h3, hg⟩
 ·refine go_ ?_
  refine ch_n fun hU => ?_
  refine sr_ 169 185 hU ?_
  refine go_ ?_
  refine ch_n fun hU => ?_
  refine aw_r ?_
  obtain rfl := Option.some.inj hg
  exact fin_ [(0, 0)] ⟨rfl, rfl⟩
 ·refine go_ ?_
  refine ch_n fun hU => ?_
  refine sr_ 169 185 hU ?_
  refine go_ ?_
  refine ch_n fun hU => ?_
  refine aw_r ?_
  obtain rfl := Option.some.inj hg
  exact fin_ [(0, 0)] ⟨rfl, rfl⟩
theorem w_certificate_Parse_c1 (c0 : certificate_Reader) (c1 : api_Certificate) (r : certificate_Reader × api_Certificate) (hg : g_certificate_Parse_c1 c0 c1 = some r) : Fn Tryz.prog 148 3 [.ptr 0 0, .ptr 2 0] [.box [.ptr 1 0] 127, .box [.sl 4 (encL api_Value.enc c0.l), .val (.bool c0.Failed)] 131, .box (api_Certificate.dv c1) 68] (fun d' b' => d' = .tup [] ∧ b' = [.box [.ptr 1 0] 127, .box [.sl 4 (encL api_Value.enc r.1.l), .val (.bool r.1.Failed)] 131, .box (api_Certificate.dv r.2) 68]) := by
 unfold g_certificate_Parse_c1 at hg
 refine Fn.of Tryz.func148 rfl rfl rfl fun w0 I ρ0 => ?_
 show awp _ ⟨w0, I, ρ0, 3, 3, 5⟩ _ _ _
 refine awp_region (sys _ _ []) 3 35 mk_U rfl rfl ?_
 refine go_ ?_
 obtain ⟨y, hy, hg⟩ := bind_some hg
 refine cb_ [1] [1] [] false (w_certificate_Reader_Int _ _ hy) ?_
 refine go_ ?_
 refine ch_n fun hU => ?_
 obtain rfl := Option.some.inj hg
 exact fin_ [(0, 0), (1, 1), (2, 2)] ⟨rfl, rfl⟩
theorem w_certificate_Parse_c2 (c0 : certificate_Reader) (c1 : api_Certificate) (r : certificate_Reader × api_Certificate) (hg : g_certificate_Parse_c2 c0 c1 = some r) : Fn Tryz.prog 149 3 [.ptr 0 0, .ptr 2 0] [.box [.ptr 1 0] 127, .box [.sl 4 (encL api_Value.enc c0.l), .val (.bool c0.Failed)] 131, .box (api_Certificate.dv c1) 68] (fun d' b' => d' = .tup [] ∧ b' = [.box [.ptr 1 0] 127, .box [.sl 4 (encL api_Value.enc r.1.l), .val (.bool r.1.Failed)] 131, .box (api_Certificate.dv r.2) 68]) := by
 unfold g_certificate_Parse_c2 at hg
 refine Fn.of Tryz.func149 rfl rfl rfl fun w0 I ρ0 => ?_
 show awp _ ⟨w0, I, ρ0, 3, 3, 8⟩ _ _ _
 refine awp_draw (sys _ _ []) (by kernel_rfl) [0, 1, 0, 7, 15, 31, 63, 127] 3 67 mk_U rfl rfl (by kernel_rfl) ?_
 refine go_ ?_
 obtain ⟨y, hy, hg⟩ := bind_some hg
 refine cb_ [1] [1] [] false (w_certificate_Reader_Text _ _ hy) ?_
 refine go_ ?_
 obtain ⟨y_2, hy_2, hg⟩ := bind_some hg
 refine cb_ [1] [1] [] false (w_certificate_Reader_Text _ _ hy_2) ?_
 refine go_ ?_
 refine ch_n fun hU => ?_
 obtain rfl := Option.some.inj hg
 exact fin_ [(0, 0), (1, 1), (2, 2)] ⟨rfl, rfl⟩
theorem w_certificate_Parse_c3 (c0 : certificate_Reader) (c1 : api_Certificate) (r : certificate_Reader × api_Certificate) (hg : g_certificate_Parse_c3 c0 c1 = some r) : Fn Tryz.prog 150 3 [.ptr 0 0, .ptr 2 0] [.box [.ptr 1 0] 127, .box [.sl 4 (encL api_Value.enc c0.l), .val (.bool c0.Failed)] 131, .box (api_Certificate.dv c1) 68] (fun d' b' => d' = .tup [] ∧ b' = [.box [.ptr 1 0] 127, .box [.sl 4 (encL api_Value.enc r.1.l), .val (.bool r.1.Failed)] 131, .box (api_Certificate.dv r.2) 68]) := by
 unfold g_certificate_Parse_c3 at hg
 refine Fn.of Tryz.func150 rfl rfl rfl fun w0 I ρ0 => ?_
 show awp _ ⟨w0, I, ρ0, 3, 3, 8⟩ _ _ _
 refine awp_draw (sys _ _ []) (by kernel_rfl) [0, 1, 0, 7, 15, 31, 63, 127] 3 67 mk_U rfl rfl (by kernel_rfl) ?_
 refine go_ ?_
 obtain ⟨y, hy, hg⟩ := bind_some hg
 refine cb_ [1] [1] [] false (w_certificate_Reader_Use _ _ hy) ?_
 refine go_ ?_
 obtain ⟨y_2, hy_2, hg⟩ := bind_some hg
 refine cb_ [1] [1] [] false (w_certificate_Reader_Int _ _ hy_2) ?_
 refine go_ ?_
 refine ch_n fun hU => ?_
 obtain rfl := Option.some.inj hg
 exact fin_ [(0, 0), (1, 1), (2, 2)] ⟨rfl, rfl⟩
theorem w_certificate_Parse_c4 (c0 : certificate_Reader) (c1 : api_Certificate) (r : certificate_Reader × api_Certificate) (hg : g_certificate_Parse_c4 c0 c1 = some r) : Fn Tryz.prog 151 3 [.ptr 0 0, .ptr 2 0] [.box [.ptr 1 0] 127, .box [.sl 4 (encL api_Value.enc c0.l), .val (.bool c0.Failed)] 131, .box (api_Certificate.dv c1) 68] (fun d' b' => d' = .tup [] ∧ b' = [.box [.ptr 1 0] 127, .box [.sl 4 (encL api_Value.enc r.1.l), .val (.bool r.1.Failed)] 131, .box (api_Certificate.dv r.2) 68]) := by
 unfold g_certificate_Parse_c4 at hg
 refine Fn.of Tryz.func151 rfl rfl rfl fun w0 I ρ0 => ?_
 show awp _ ⟨w0, I, ρ0, 3, 3, 5⟩ _ _ _
 refine awp_region (sys _ _ []) 3 35 mk_U rfl rfl ?_
 refine go_ ?_
 obtain ⟨y, hy, hg⟩ := bind_some hg
 refine cb_ [1] [1] [] false (w_certificate_Reader_Use _ _ hy) ?_
 refine go_ ?_
 refine ch_n fun hU => ?_
 obtain rfl := Option.some.inj hg
 exact fin_ [(0, 0), (1, 1), (2, 2)] ⟨rfl, rfl⟩
theorem w_certificate_Parse_c5 (c0 : certificate_Reader) (c1 : api_Certificate) (r : certificate_Reader × api_Certificate) (hg : g_certificate_Parse_c5 c0 c1 = some r) : Fn Tryz.prog 152 3 [.ptr 0 0, .ptr 2 0] [.box [.ptr 1 0] 127, .box [.sl 4 (encL api_Value.enc c0.l), .val (.bool c0.Failed)] 131, .box (api_Certificate.dv c1) 68] (fun d' b' => d' = .tup [] ∧ b' = [.box [.ptr 1 0] 127, .box [.sl 4 (encL api_Value.enc r.1.l), .val (.bool r.1.Failed)] 131, .box (api_Certificate.dv r.2) 68]) := by
 unfold g_certificate_Parse_c5 at hg
 refine Fn.of Tryz.func152 rfl rfl rfl fun w0 I ρ0 => ?_
 show awp _ ⟨w0, I, ρ0, 3, 3, 8⟩ _ _ _
 refine awp_draw (sys _ _ []) (by kernel_rfl) [0, 1, 0, 7, 15, 31, 63, 127] 3 67 mk_U rfl rfl (by kernel_rfl) ?_
 refine go_ ?_
 obtain ⟨y, hy, hg⟩ := bind_some hg
 refine cb_ [1] [1] [] false (w_certificate_Reader_Int _ _ hy) ?_
 refine go_ ?_
 obtain ⟨y_2, hy_2, hg⟩ := bind_some hg
 refine cb_ [1] [1] [] false (w_certificate_Reader_Int _ _ hy_2) ?_
 refine go_ ?_
 refine ch_n fun hU => ?_
 obtain rfl := Option.some.inj hg
 exact fin_ [(0, 0), (1, 1), (2, 2)] ⟨rfl, rfl⟩
theorem w_certificate_Parse_c6 (c0 : certificate_Reader) (c1 : api_Certificate) (r : certificate_Reader × api_Certificate) (hg : g_certificate_Parse_c6 c0 c1 = some r) : Fn Tryz.prog 153 3 [.ptr 0 0, .ptr 2 0] [.box [.ptr 1 0] 127, .box [.sl 4 (encL api_Value.enc c0.l), .val (.bool c0.Failed)] 131, .box (api_Certificate.dv c1) 68] (fun d' b' => d' = .tup [] ∧ b' = [.box [.ptr 1 0] 127, .box [.sl 4 (encL api_Value.enc r.1.l), .val (.bool r.1.Failed)] 131, .box (api_Certificate.dv r.2) 68]) := by
 unfold g_certificate_Parse_c6 at hg
 refine Fn.of Tryz.func153 rfl rfl rfl fun w0 I ρ0 => ?_
 show awp _ ⟨w0, I, ρ0, 3, 3, 8⟩ _ _ _
 refine awp_draw (sys _ _ []) (by kernel_rfl) [0, 1, 0, 7, 15, 31, 63, 127] 3 67 mk_U rfl rfl (by kernel_rfl) ?_
 refine go_ ?_
 obtain ⟨y, hy, hg⟩ := bind_some hg
 refine cb_ [1] [1] [] false (w_certificate_Reader_Bool _ _ hy) ?_
 refine go_ ?_
 obtain ⟨y_2, hy_2, hg⟩ := bind_some hg
 refine cb_ [1] [1] [] false (w_certificate_Reader_Int _ _ hy_2) ?_
 refine go_ ?_
 refine ch_n fun hU => ?_
 obtain rfl := Option.some.inj hg
 exact fin_ [(0, 0), (1, 1), (2, 2)] ⟨rfl, rfl⟩
theorem w_certificate_Reader_names (r' : certificate_Reader) (r : (List ByteArray) × certificate_Reader) (hg : g_certificate_Reader_names r' = some r) : Fn Tryz.prog 155 1 [.ptr 0 0] [.box [.sl 4 (encL api_Value.enc r'.l), .val (.bool r'.Failed)] 131] (fun d' b' => d' = .sl 1 (encL eS r.1) ∧ b' = [.box [.sl 4 (encL api_Value.enc r.2.l), .val (.bool r.2.Failed)] 131]) := by
 unfold g_certificate_Reader_names at hg
 refine Fn.of Tryz.func155 rfl rfl rfl fun w0 I ρ0 => ?_
 show awp _ ⟨w0, I, ρ0, 1, 1, 37⟩ _ _ _
 refine sr_ 1 9 mk_U ?_
 refine go_ ?_
 refine ch_n fun hU => ?_
 refine sr_ 9 17 hU ?_
 refine go_ ?_
 refine ch_n fun hU => ?_
 refine awp_seq ?_
 refine sr_ 17 49 hU ?_
 refine go_ ?_
 obtain ⟨y, hy, hg⟩ := bind_some hg
 refine cb_ [0] [0] [] false (w_certificate_Reader_List _ _ hy) ?_
 refine go_ ?_
 refine ch_n fun hU => ?_
 refine awp_block ?_
 refine lp_ (fun ((x11_1, r_1, out_1) : Int × Bool × List ByteArray) => mk [(0, .ptr 0 0), (3, .row 1), (9, .sl 4 (encL api_Value.enc y.1)), (10, .val (.int .i64 (y.1.length : Int))), (11, .val (.int .i64 x11_1))] [(0, .box [.sl 4 (encL api_Value.enc y.2.l), .val (.bool r_1)] 131), (1, .row 9 1 (encL eS out_1))] 2) hg (sub_ [(0, 0)]) ?_
 rintro ⟨x11_1, r_1, out_1⟩ m1 o1 hg hn1
 replace hg : g_certificate_Reader_names.l1 y x11_1 r_1 out_1 = some o1 := hg
 show awp _ _ _ _ (mk _ _ _)
 unfold g_certificate_Reader_names.l1 at hg
 refine sr_ 2 10 mk_U ?_
 refine go_ ?_
 refine ch_n fun hU => ?_
 refine awp_seq ?_
 refine cg_ rfl hg (fun h5 hg => ?_) fun h5 hg => ?_
 ·refine awp_skip ?_
  repeat first | refine st_ ?_ | refine sn_ ?_
  refine awp_seq ?_
  refine awp_block ?_
  refine sr_ 10 42 hU ?_
  obtain ⟨e, he, hg⟩ := bind_some hg
  refine go_ ?_
  refine c0_ rfl rfl (r_loadEA ty50 (enc_cells api_Value.enc_len (getI_at he) (o := 0) (m := 4) (cs := [.int .i64 e.Tag, .sl 1 (encL e8 e.Bytes), .bool e.Nested, .sl 4 (encL api_Value.enc e.Elements)]) (by simp only [api_Value.enc_eq]; rfl) (by decide) rfl) (enc_cells_le api_Value.enc_len (getI_at he) (o := 0) (m := 4) (by decide) rfl)) rfl rfl ?_
  refine go_ ?_
  refine ch_n fun hU => ?_
  refine sr_ 42 98 hU ?_
  refine go_ ?_
  obtain ⟨y_2, hy_2, hg⟩ := bind_some hg
  refine ca_ (w_der_AsText _ _ hy_2) ?_
  refine go_ ?_
  refine ch_n fun hU => ?_
  refine awp_cut (ι := Bool) (fun (r_2 : Bool) => mk [(0, .ptr 0 0), (3, .row 1), (6, .val (.string y_2.1)), (9, .sl 4 (encL api_Value.enc y.1)), (10, .val (.int .i64 (y.1.length : Int))), (11, .val (.int .i64 x11_1))] [(0, .box [.sl 4 (encL api_Value.enc y.2.l), .val (.bool r_2)] 131), (1, .row 9 1 (encL eS out_1))] 2) (fun (r_2 : Bool) => g_certificate_Reader_names.j2 x11_1 out_1 y_2 r_2 = some o1) ?_ ?_
  ·refine awp_region (sys _ _ []) 98 194 hU rfl rfl ?_
   refine go_ ?_
   rcases bc_ hg with ⟨h8, hg⟩ | ⟨h8, hg⟩
   ·refine go_ ?_
    refine ch_n fun hU => ?_
    exact ⟨true, hg, sub_ [(0, 0), (1, 1)]⟩
   ·refine go_ ?_
    refine ch_n fun hU => ?_
    exact ⟨!decide (y_2.2 = 0), hg, sub_ [(0, 0), (1, 1)]⟩
  ·rintro r_2 hg
   replace hg : g_certificate_Reader_names.j2 x11_1 out_1 y_2 r_2 = some o1 := hg
   show awp _ _ _ _ (mk _ _ _)
   unfold g_certificate_Reader_names.j2 at hg
   refine awp_region (sys _ _ []) 2 42 mk_U rfl rfl ?_
   refine go_ ?_
   refine c0_ rfl rfl (r_buildFull sl64 z9 (by decide) rfl rfl rfl rfl ck9 (cs := [.str y_2.1]) (.cons .str .nil) rfl (l := ([y_2.1] : List ByteArray)) (f := eS) rfl) rfl rfl ?_
   obtain ⟨l, hl, hg⟩ := bind_some hg
   refine ch_s (rd := [1, 18]) rfl rfl (r_append sl64 eS_len .row rfl .row rfl hl rfl) rfl rfl ?_
   refine go_ ?_
   refine ch_n fun hU => ?_
   refine awp_region (sys _ _ []) 42 58 hU rfl rfl ?_
   refine go_ ?_
   refine ch_n fun hU => ?_
   obtain rfl := Option.some.inj hg
   exact ⟨((W (x11_1 + 1), r_2, l), m1), Nat.lt_succ_self _, hn1, sub_ [(0, 0), (1, 26)]⟩
 ·refine awp_exit ?_
  repeat first | refine st_ ?_ | refine sn_ ?_
  replace hg := leave hg hn1
  refine sr_ 10 26 hU ?_
  refine go_ ?_
  refine ch_n fun hU => ?_
  refine aw_r ?_
  obtain rfl := Option.some.inj hg
  exact fin_ [(0, 0)] ⟨rfl, rfl⟩
theorem w_certificate_Parse_c7 (c0 : certificate_Reader) (c1 : api_Certificate) (r : certificate_Reader × api_Certificate) (hg : g_certificate_Parse_c7 c0 c1 = some r) : Fn Tryz.prog 154 3 [.ptr 0 0, .ptr 2 0] [.box [.ptr 1 0] 127, .box [.sl 4 (encL api_Value.enc c0.l), .val (.bool c0.Failed)] 131, .box (api_Certificate.dv c1) 68] (fun d' b' => d' = .tup [] ∧ b' = [.box [.ptr 1 0] 127, .box [.sl 4 (encL api_Value.enc r.1.l), .val (.bool r.1.Failed)] 131, .box (api_Certificate.dv r.2) 68]) := by
 unfold g_certificate_Parse_c7 at hg
 refine Fn.of Tryz.func154 rfl rfl rfl fun w0 I ρ0 => ?_
 show awp _ ⟨w0, I, ρ0, 3, 3, 5⟩ _ _ _
 refine awp_region (sys _ _ []) 3 35 mk_U rfl rfl ?_
 refine go_ ?_
 obtain ⟨y, hy, hg⟩ := bind_some hg
 refine cb_ [1] [1] [] false (w_certificate_Reader_names _ _ hy) ?_
 refine go_ ?_
 refine ch_n fun hU => ?_
 obtain rfl := Option.some.inj hg
 exact fin_ [(0, 0), (1, 1), (2, 2)] ⟨rfl, rfl⟩
theorem w_certificate_Parse_c8 (c0 : certificate_Reader) (c1 : api_Certificate) (r : certificate_Reader × api_Certificate) (hg : g_certificate_Parse_c8 c0 c1 = some r) : Fn Tryz.prog 156 3 [.ptr 0 0, .ptr 2 0] [.box [.ptr 1 0] 127, .box [.sl 4 (encL api_Value.enc c0.l), .val (.bool c0.Failed)] 131, .box (api_Certificate.dv c1) 68] (fun d' b' => d' = .tup [] ∧ b' = [.box [.ptr 1 0] 127, .box [.sl 4 (encL api_Value.enc r.1.l), .val (.bool r.1.Failed)] 131, .box (api_Certificate.dv r.2) 68]) := by
 unfold g_certificate_Parse_c8 at hg
 refine Fn.of Tryz.func156 rfl rfl rfl fun w0 I ρ0 => ?_
 show awp _ ⟨w0, I, ρ0, 3, 3, 8⟩ _ _ _
 refine awp_draw (sys _ _ []) (by kernel_rfl) [0, 1, 0, 7, 15, 31, 63] 3 59 mk_U rfl rfl (by kernel_rfl) ?_
 refine go_ ?_
 obtain ⟨y, hy, hg⟩ := bind_some hg
 refine cb_ [1] [1] [] false (w_certificate_Reader_Int _ _ hy) ?_
 refine go_ ?_
 obtain ⟨y_2, hy_2, hg⟩ := bind_some hg
 refine cb_ [1] [1] [] false (w_certificate_Reader_Int _ _ hy_2) ?_
 refine c0_ rfl rfl (.build (r := [.val (.int .i64 y.1), .val (.int .i64 y_2.1)]) und66 pl66 z66 (by kernel_rfl) rfl) rfl rfl ?_
 refine go_ ?_
 refine ch_n fun hU => ?_
 obtain rfl := Option.some.inj hg
 exact fin_ [(0, 0), (1, 1), (2, 2)] ⟨rfl, rfl⟩
theorem w_certificate_Parse (v : api_Value) (r : api_Certificate × Bool) (hg : g_certificate_Parse v = some r) : Fn Tryz.prog 108 0 [.agg (api_Value.dv v)] [] (fun d' b' => d' = .tup [.agg (api_Certificate.dv r.1), .val (.bool r.2)] ∧ b' = []) := by
 unfold g_certificate_Parse at hg
 refine Fn.of Tryz.func108 rfl rfl rfl fun w0 I ρ0 => ?_
 show awp _ ⟨w0, I, ρ0, 0, 0, 51⟩ _ _ _
 refine sr_ 0 24 mk_U ?_
 refine go_ ?_
 refine ch_n fun hU => ?_
 refine sr_ 24 32 hU ?_
 refine go_ ?_
 refine ch_n fun hU => ?_
 refine sr_ 32 56 hU ?_
 refine go_ ?_
 obtain ⟨y, hy, hg⟩ := bind_some hg
 refine ch_call (rd := []) (ps := []) (gs := []) false rfl (w_certificate_Read _ _ _ hy) rfl rfl (.cons (.agg (.cons .val (.cons .sl (.cons .val (.cons .sl .nil))))) (.cons .val .nil)) rfl rfl (by intro h; cases h) rfl (by intro h; first | (cases h; done) | exact ⟨_, _, ⟨rfl, rfl⟩, by simp, by simp⟩) ?_
 rintro _ _ ⟨rfl, rfl⟩
 refine go_ ?_
 refine ch_n fun hU => ?_
 refine sr_ 56 136 hU ?_
 refine go_ ?_
 obtain ⟨y_2, hy_2, hg⟩ := bind_some hg
 refine cb_ [40] [40] [] false (w_certificate_Reader_Next _ _ hy_2) ?_
 obtain ⟨y_3, hy_3, hg⟩ := bind_some hg
 refine ch_call (rd := []) (ps := []) (gs := []) false rfl (w_certificate_Read _ _ _ hy_3) rfl rfl (.cons (.agg (.cons .val (.cons .sl (.cons .val (.cons .sl .nil))))) (.cons .val .nil)) rfl rfl (by intro h; cases h) rfl (by intro h; first | (cases h; done) | exact ⟨_, _, ⟨rfl, rfl⟩, by simp, by simp⟩) ?_
 rintro _ _ ⟨rfl, rfl⟩
 refine go_ ?_
 obtain ⟨y_4, hy_4, hg⟩ := bind_some hg
 refine cb_ [40] [40] [] false (w_certificate_Reader_Next _ _ hy_4) ?_
 obtain ⟨y_5, hy_5, hg⟩ := bind_some hg
 refine ch_call (rd := []) (ps := []) (gs := []) false rfl (w_certificate_Read _ _ _ hy_5) rfl rfl (.cons (.agg (.cons .val (.cons .sl (.cons .val (.cons .sl .nil))))) (.cons .val .nil)) rfl rfl (by intro h; cases h) rfl (by intro h; first | (cases h; done) | exact ⟨_, _, ⟨rfl, rfl⟩, by simp, by simp⟩) ?_
 rintro _ _ ⟨rfl, rfl⟩
 refine go_ ?_
 refine ch_n fun hU => ?_
 refine awp_seq ?_
 refine sr_ 136 216 hU ?_
 refine go_ ?_
 refine c0_ rfl rfl (.buildArr (sz := 1) (r := [.clo 148 0 [.ptr 104 0, .ptr 24 0], .clo 149 0 [.ptr 104 0, .ptr 24 0], .clo 150 0 [.ptr 104 0, .ptr 24 0], .clo 151 0 [.ptr 104 0, .ptr 24 0], .clo 152 0 [.ptr 104 0, .ptr 24 0], .clo 153 0 [.ptr 104 0, .ptr 24 0], .clo 154 0 [.ptr 104 0, .ptr 24 0], .clo 156 0 [.ptr 112 0, .ptr 24 0]]) und167 (by kernel_rfl) z167 (by kernel_rfl) rfl) rfl rfl ?_
 refine go_ ?_
 refine ch_n fun hU => ?_
 refine awp_block ?_
 refine awp_rounds 10 ?_
 refine rnd_ ?_
 refine sr_ 216 224 hU ?_
 refine go_ ?_
 refine ch_n fun hU => ?_
 refine awp_seq ?_
 refine awp_cond rfl (fun h => ?_) (fun h => ?_)
 ·refine awp_skip ?_
  repeat first | refine st_ ?_ | refine sn_ ?_
  refine awp_seq ?_
  refine awp_block ?_
  refine sr_ 224 240 hU ?_
  refine c0_ rfl rfl (.indexA (j := 0) und167 ty1 rfl rfl rfl) rfl rfl ?_
  refine go_ ?_
  refine ch_n fun hU => ?_
  refine awp_region (sys _ _ []) 240 256 hU rfl rfl ?_
  refine go_ ?_
  obtain ⟨y_6, hy_6, hg⟩ := bind_some hg
  refine ch_callC (rd := [104, 24, 72]) (ps := [104, 72, 24]) (gs := []) false rfl rfl (w_certificate_Parse_c1 _ _ _ hy_6) rfl rfl (.cons (.ptr rfl) (.cons (.ptr rfl) .nil)) ⟨_, _, _, rfl, .head _, ⟨_, rfl, (by repeat' (first | exact AgL.nil | apply AgL.cons | exact Ag.val | exact Ag.sl | exact Ag.nils | exact Ag.ptr rfl))⟩, ⟨_, _, _, rfl, .tail _ (.tail _ (.head _)), ⟨_, rfl, (by repeat' (first | exact AgL.nil | apply AgL.cons | exact Ag.val | exact Ag.sl | exact Ag.nils | exact Ag.ptr rfl))⟩, ⟨_, _, _, rfl, .tail _ (.head _), ⟨_, rfl, (by repeat' (first | exact AgL.nil | apply AgL.cons | exact Ag.val | exact Ag.sl | exact Ag.nils | exact Ag.ptr rfl))⟩, rfl⟩⟩⟩ rfl (by intro h; cases h) rfl (by intro h; first | (cases h; done) | exact ⟨_, _, ⟨rfl, rfl⟩, by simp, by simp⟩) ?_
  rintro _ _ ⟨rfl, rfl⟩
  refine ch_n fun hU => ?_
  refine awp_region (sys _ _ []) 256 272 hU rfl rfl ?_
  refine c0_ rfl rfl (r_addL (z := 1) (by decide)) rfl rfl ?_
  refine go_ ?_
  refine ch_n fun hU => ?_
  refine rnd_ ?_
  refine sr_ 272 280 hU ?_
  refine go_ ?_
  refine ch_n fun hU => ?_
  refine awp_seq ?_
  refine awp_cond rfl (fun h => ?_) (fun h => ?_)
  ·refine awp_skip ?_
   repeat first | refine st_ ?_ | refine sn_ ?_
   refine awp_seq ?_
   refine awp_block ?_
   refine sr_ 280 296 hU ?_
   refine c0_ rfl rfl (.indexA (j := 1) und167 ty1 rfl rfl rfl) rfl rfl ?_
   refine go_ ?_
   refine ch_n fun hU => ?_
   refine awp_region (sys _ _ []) 296 312 hU rfl rfl ?_
   refine go_ ?_
   obtain ⟨y_7, hy_7, hg⟩ := bind_some hg
   refine ch_callC (rd := [104, 24, 72]) (ps := [104, 72, 24]) (gs := []) false rfl rfl (w_certificate_Parse_c2 _ _ _ hy_7) rfl rfl (.cons (.ptr rfl) (.cons (.ptr rfl) .nil)) ⟨_, _, _, rfl, .head _, ⟨_, rfl, (by repeat' (first | exact AgL.nil | apply AgL.cons | exact Ag.val | exact Ag.sl | exact Ag.nils | exact Ag.ptr rfl))⟩, ⟨_, _, _, rfl, .tail _ (.tail _ (.head _)), ⟨_, rfl, (by repeat' (first | exact AgL.nil | apply AgL.cons | exact Ag.val | exact Ag.sl | exact Ag.nils | exact Ag.ptr rfl))⟩, ⟨_, _, _, rfl, .tail _ (.head _), ⟨_, rfl, (by repeat' (first | exact AgL.nil | apply AgL.cons | exact Ag.val | exact Ag.sl | exact Ag.nils | exact Ag.ptr rfl))⟩, rfl⟩⟩⟩ rfl (by intro h; cases h) rfl (by intro h; first | (cases h; done) | exact ⟨_, _, ⟨rfl, rfl⟩, by simp, by simp⟩) ?_
   rintro _ _ ⟨rfl, rfl⟩
   refine ch_n fun hU => ?_
   refine awp_region (sys _ _ []) 312 328 hU rfl rfl ?_
   refine c0_ rfl rfl (r_addL (z := 2) (by decide)) rfl rfl ?_
   refine go_ ?_
   refine ch_n fun hU => ?_
   refine rnd_ ?_
   refine sr_ 328 336 hU ?_
   refine go_ ?_
   refine ch_n fun hU => ?_
   refine awp_seq ?_
   refine awp_cond rfl (fun h => ?_) (fun h => ?_)
   ·refine awp_skip ?_
    repeat first | refine st_ ?_ | refine sn_ ?_
    refine awp_seq ?_
    refine awp_block ?_
    refine sr_ 336 352 hU ?_
    refine c0_ rfl rfl (.indexA (j := 2) und167 ty1 rfl rfl rfl) rfl rfl ?_
    refine go_ ?_
    refine ch_n fun hU => ?_
    refine awp_region (sys _ _ []) 352 368 hU rfl rfl ?_
    refine go_ ?_
    obtain ⟨y_8, hy_8, hg⟩ := bind_some hg
    refine ch_callC (rd := [104, 24, 72]) (ps := [104, 72, 24]) (gs := []) false rfl rfl (w_certificate_Parse_c3 _ _ _ hy_8) rfl rfl (.cons (.ptr rfl) (.cons (.ptr rfl) .nil)) ⟨_, _, _, rfl, .head _, ⟨_, rfl, (by repeat' (first | exact AgL.nil | apply AgL.cons | exact Ag.val | exact Ag.sl | exact Ag.nils | exact Ag.ptr rfl))⟩, ⟨_, _, _, rfl, .tail _ (.tail _ (.head _)), ⟨_, rfl, (by repeat' (first | exact AgL.nil | apply AgL.cons | exact Ag.val | exact Ag.sl | exact Ag.nils | exact Ag.ptr rfl))⟩, ⟨_, _, _, rfl, .tail _ (.head _), ⟨_, rfl, (by repeat' (first | exact AgL.nil | apply AgL.cons | exact Ag.val | exact Ag.sl | exact Ag.nils | exact Ag.ptr rfl))⟩, rfl⟩⟩⟩ rfl (by intro h; cases h) rfl (by intro h; first | (cases h; done) | exact ⟨_, _, ⟨rfl, rfl⟩, by simp, by simp⟩) ?_
    rintro _ _ ⟨rfl, rfl⟩
    refine ch_n fun hU => ?_
    refine awp_region (sys _ _ []) 368 384 hU rfl rfl ?_
    refine c0_ rfl rfl (r_addL (z := 3) (by decide)) rfl rfl ?_
    refine go_ ?_
    refine ch_n fun hU => ?_
    refine rnd_ ?_
    refine sr_ 384 392 hU ?_
    refine go_ ?_
    refine ch_n fun hU => ?_
    refine awp_seq ?_
    refine awp_cond rfl (fun h => ?_) (fun h => ?_)
    ·refine awp_skip ?_
     repeat first | refine st_ ?_ | refine sn_ ?_
     refine awp_seq ?_
     refine awp_block ?_
     refine sr_ 392 408 hU ?_
     refine c0_ rfl rfl (.indexA (j := 3) und167 ty1 rfl rfl rfl) rfl rfl ?_
     refine go_ ?_
     refine ch_n fun hU => ?_
     refine awp_region (sys _ _ []) 408 424 hU rfl rfl ?_
     refine go_ ?_
     obtain ⟨y_9, hy_9, hg⟩ := bind_some hg
     refine ch_callC (rd := [104, 24, 72]) (ps := [104, 72, 24]) (gs := []) false rfl rfl (w_certificate_Parse_c4 _ _ _ hy_9) rfl rfl (.cons (.ptr rfl) (.cons (.ptr rfl) .nil)) ⟨_, _, _, rfl, .head _, ⟨_, rfl, (by repeat' (first | exact AgL.nil | apply AgL.cons | exact Ag.val | exact Ag.sl | exact Ag.nils | exact Ag.ptr rfl))⟩, ⟨_, _, _, rfl, .tail _ (.tail _ (.head _)), ⟨_, rfl, (by repeat' (first | exact AgL.nil | apply AgL.cons | exact Ag.val | exact Ag.sl | exact Ag.nils | exact Ag.ptr rfl))⟩, ⟨_, _, _, rfl, .tail _ (.head _), ⟨_, rfl, (by repeat' (first | exact AgL.nil | apply AgL.cons | exact Ag.val | exact Ag.sl | exact Ag.nils | exact Ag.ptr rfl))⟩, rfl⟩⟩⟩ rfl (by intro h; cases h) rfl (by intro h; first | (cases h; done) | exact ⟨_, _, ⟨rfl, rfl⟩, by simp, by simp⟩) ?_
     rintro _ _ ⟨rfl, rfl⟩
     refine ch_n fun hU => ?_
     refine awp_region (sys _ _ []) 424 440 hU rfl rfl ?_
     refine c0_ rfl rfl (r_addL (z := 4) (by decide)) rfl rfl ?_
     refine go_ ?_
     refine ch_n fun hU => ?_
     refine rnd_ ?_
     refine sr_ 440 448 hU ?_
     refine go_ ?_
     refine ch_n fun hU => ?_
     refine awp_seq ?_
     refine awp_cond rfl (fun h => ?_) (fun h => ?_)
     ·refine awp_skip ?_
      repeat first | refine st_ ?_ | refine sn_ ?_
      refine awp_seq ?_
      refine awp_block ?_
      refine sr_ 448 464 hU ?_
      refine c0_ rfl rfl (.indexA (j := 4) und167 ty1 rfl rfl rfl) rfl rfl ?_
      refine go_ ?_
      refine ch_n fun hU => ?_
      refine awp_region (sys _ _ []) 464 480 hU rfl rfl ?_
      refine go_ ?_
      obtain ⟨y_10, hy_10, hg⟩ := bind_some hg
      refine ch_callC (rd := [104, 24, 72]) (ps := [104, 72, 24]) (gs := []) false rfl rfl (w_certificate_Parse_c5 _ _ _ hy_10) rfl rfl (.cons (.ptr rfl) (.cons (.ptr rfl) .nil)) ⟨_, _, _, rfl, .head _, ⟨_, rfl, (by repeat' (first | exact AgL.nil | apply AgL.cons | exact Ag.val | exact Ag.sl | exact Ag.nils | exact Ag.ptr rfl))⟩, ⟨_, _, _, rfl, .tail _ (.tail _ (.head _)), ⟨_, rfl, (by repeat' (first | exact AgL.nil | apply AgL.cons | exact Ag.val | exact Ag.sl | exact Ag.nils | exact Ag.ptr rfl))⟩, ⟨_, _, _, rfl, .tail _ (.head _), ⟨_, rfl, (by repeat' (first | exact AgL.nil | apply AgL.cons | exact Ag.val | exact Ag.sl | exact Ag.nils | exact Ag.ptr rfl))⟩, rfl⟩⟩⟩ rfl (by intro h; cases h) rfl (by intro h; first | (cases h; done) | exact ⟨_, _, ⟨rfl, rfl⟩, by simp, by simp⟩) ?_
      rintro _ _ ⟨rfl, rfl⟩
      refine ch_n fun hU => ?_
      refine awp_region (sys _ _ []) 480 496 hU rfl rfl ?_
      refine c0_ rfl rfl (r_addL (z := 5) (by decide)) rfl rfl ?_
      refine go_ ?_
      refine ch_n fun hU => ?_
      refine rnd_ ?_
      refine sr_ 496 504 hU ?_
      refine go_ ?_
      refine ch_n fun hU => ?_
      refine awp_seq ?_
      refine awp_cond rfl (fun h => ?_) (fun h => ?_)
      ·refine awp_skip ?_
       repeat first | refine st_ ?_ | refine sn_ ?_
       refine awp_seq ?_
       refine awp_block ?_
       refine sr_ 504 520 hU ?_
       refine c0_ rfl rfl (.indexA (j := 5) und167 ty1 rfl rfl rfl) rfl rfl ?_
       refine go_ ?_
       refine ch_n fun hU => ?_
       refine awp_region (sys _ _ []) 520 536 hU rfl rfl ?_
       refine go_ ?_
       obtain ⟨y_11, hy_11, hg⟩ := bind_some hg
       refine ch_callC (rd := [104, 24, 72]) (ps := [104, 72, 24]) (gs := []) false rfl rfl (w_certificate_Parse_c6 _ _ _ hy_11) rfl rfl (.cons (.ptr rfl) (.cons (.ptr rfl) .nil)) ⟨_, _, _, rfl, .head _, ⟨_, rfl, (by repeat' (first | exact AgL.nil | apply AgL.cons | exact Ag.val | exact Ag.sl | exact Ag.nils | exact Ag.ptr rfl))⟩, ⟨_, _, _, rfl, .tail _ (.tail _ (.head _)), ⟨_, rfl, (by repeat' (first | exact AgL.nil | apply AgL.cons | exact Ag.val | exact Ag.sl | exact Ag.nils | exact Ag.ptr rfl))⟩, ⟨_, _, _, rfl, .tail _ (.head _), ⟨_, rfl, (by repeat' (first | exact AgL.nil | apply AgL.cons | exact Ag.val | exact Ag.sl | exact Ag.nils | exact Ag.ptr rfl))⟩, rfl⟩⟩⟩ rfl (by intro h; cases h) rfl (by intro h; first | (cases h; done) | exact ⟨_, _, ⟨rfl, rfl⟩, by simp, by simp⟩) ?_
       rintro _ _ ⟨rfl, rfl⟩
       refine ch_n fun hU => ?_
       refine awp_region (sys _ _ []) 536 552 hU rfl rfl ?_
       refine c0_ rfl rfl (r_addL (z := 6) (by decide)) rfl rfl ?_
       refine go_ ?_
       refine ch_n fun hU => ?_
       refine rnd_ ?_
       refine sr_ 552 560 hU ?_
       refine go_ ?_
       refine ch_n fun hU => ?_
       refine awp_seq ?_
       refine awp_cond rfl (fun h => ?_) (fun h => ?_)
       ·refine awp_skip ?_
        repeat first | refine st_ ?_ | refine sn_ ?_
        refine awp_seq ?_
        refine awp_block ?_
        refine sr_ 560 576 hU ?_
        refine c0_ rfl rfl (.indexA (j := 6) und167 ty1 rfl rfl rfl) rfl rfl ?_
        refine go_ ?_
        refine ch_n fun hU => ?_
        refine awp_region (sys _ _ []) 576 592 hU rfl rfl ?_
        refine go_ ?_
        obtain ⟨y_12, hy_12, hg⟩ := bind_some hg
        refine ch_callC (rd := [104, 24, 72]) (ps := [104, 72, 24]) (gs := []) false rfl rfl (w_certificate_Parse_c7 _ _ _ hy_12) rfl rfl (.cons (.ptr rfl) (.cons (.ptr rfl) .nil)) ⟨_, _, _, rfl, .head _, ⟨_, rfl, (by repeat' (first | exact AgL.nil | apply AgL.cons | exact Ag.val | exact Ag.sl | exact Ag.nils | exact Ag.ptr rfl))⟩, ⟨_, _, _, rfl, .tail _ (.tail _ (.head _)), ⟨_, rfl, (by repeat' (first | exact AgL.nil | apply AgL.cons | exact Ag.val | exact Ag.sl | exact Ag.nils | exact Ag.ptr rfl))⟩, ⟨_, _, _, rfl, .tail _ (.head _), ⟨_, rfl, (by repeat' (first | exact AgL.nil | apply AgL.cons | exact Ag.val | exact Ag.sl | exact Ag.nils | exact Ag.ptr rfl))⟩, rfl⟩⟩⟩ rfl (by intro h; cases h) rfl (by intro h; first | (cases h; done) | exact ⟨_, _, ⟨rfl, rfl⟩, by simp, by simp⟩) ?_
        rintro _ _ ⟨rfl, rfl⟩
        refine ch_n fun hU => ?_
        refine awp_region (sys _ _ []) 592 608 hU rfl rfl ?_
        refine c0_ rfl rfl (r_addL (z := 7) (by decide)) rfl rfl ?_
        refine go_ ?_
        refine ch_n fun hU => ?_
        refine rnd_ ?_
        refine sr_ 608 616 hU ?_
        refine go_ ?_
        refine ch_n fun hU => ?_
        refine awp_seq ?_
        refine awp_cond rfl (fun h => ?_) (fun h => ?_)
        ·refine awp_skip ?_
         repeat first | refine st_ ?_ | refine sn_ ?_
         refine awp_seq ?_
         refine awp_block ?_
         refine sr_ 616 632 hU ?_
         refine c0_ rfl rfl (.indexA (j := 7) und167 ty1 rfl rfl rfl) rfl rfl ?_
         refine go_ ?_
         refine ch_n fun hU => ?_
         refine awp_region (sys _ _ []) 632 648 hU rfl rfl ?_
         refine go_ ?_
         obtain ⟨y_13, hy_13, hg⟩ := bind_some hg
         refine ch_callC (rd := [112, 24, 96]) (ps := [112, 96, 24]) (gs := []) false rfl rfl (w_certificate_Parse_c8 _ _ _ hy_13) rfl rfl (.cons (.ptr rfl) (.cons (.ptr rfl) .nil)) ⟨_, _, _, rfl, .head _, ⟨_, rfl, (by repeat' (first | exact AgL.nil | apply AgL.cons | exact Ag.val | exact Ag.sl | exact Ag.nils | exact Ag.ptr rfl))⟩, ⟨_, _, _, rfl, .tail _ (.tail _ (.head _)), ⟨_, rfl, (by repeat' (first | exact AgL.nil | apply AgL.cons | exact Ag.val | exact Ag.sl | exact Ag.nils | exact Ag.ptr rfl))⟩, ⟨_, _, _, rfl, .tail _ (.head _), ⟨_, rfl, (by repeat' (first | exact AgL.nil | apply AgL.cons | exact Ag.val | exact Ag.sl | exact Ag.nils | exact Ag.ptr rfl))⟩, rfl⟩⟩⟩ rfl (by intro h; cases h) rfl (by intro h; first | (cases h; done) | exact ⟨_, _, ⟨rfl, rfl⟩, by simp, by simp⟩) ?_
         rintro _ _ ⟨rfl, rfl⟩
         refine ch_n fun hU => ?_
         refine awp_region (sys _ _ []) 648 664 hU rfl rfl ?_
         refine c0_ rfl rfl (r_addL (z := 8) (by decide)) rfl rfl ?_
         refine go_ ?_
         refine ch_n fun hU => ?_
         refine rnd_ ?_
         refine sr_ 664 672 hU ?_
         refine go_ ?_
         refine ch_n fun hU => ?_
         refine awp_seq ?_
         refine awp_cond rfl (fun h => ?_) (fun h => ?_)
         ·exact absurd h (by decide)
         ·refine awp_exit ?_
          repeat first | refine st_ ?_ | refine sn_ ?_
          refine awp_seq ?_
          refine awp_cut (ι := Bool) (fun (x48_1 : Bool) => mk [(2, .ptr 0 0), (4, .ptr 1 0), (48, .val (.bool x48_1))] [(0, .box [.val (.int .i64 0), .val (.string (⟨#[]⟩ : ByteArray)), .val (.string (⟨#[]⟩ : ByteArray)), .val (.int .i64 0), .val (.int .i64 0), .val (.int .i64 0), .val (.int .i64 0), .val (.int .i64 0), .val (.int .i64 0), .val (.int .i64 0), .val (.bool false), .val (.int .i64 0), .val (.slice none 0 0), .val (.int .i64 0), .val (.int .i64 0)] 68), (1, .box (api_Certificate.dv y_13.2) 68)] 2) (fun (x48_1 : Bool) => g_certificate_Parse.j1 y_13 x48_1 = some r) ?_ ?_
          ·refine awp_region (sys _ _ []) 672 800 hU rfl rfl ?_
           refine go_ ?_
           rcases bc_ hg with ⟨h39, hg⟩ | ⟨h39, hg⟩
           ·refine go_ ?_
            refine ch_n fun hU => ?_
            exact ⟨true, hg, sub_ [(0, 8), (1, 24)]⟩
           ·refine go_ ?_
            rcases bc_ hg with ⟨h41, hg⟩ | ⟨h41, hg⟩
            ·refine go_ ?_
             refine ch_n fun hU => ?_
             exact ⟨true, hg, sub_ [(0, 8), (1, 24)]⟩
            ·refine go_ ?_
             refine ch_n fun hU => ?_
             exact ⟨y_13.1.Failed, hg, sub_ [(0, 8), (1, 24)]⟩
          ·rintro x48_1 hg
           replace hg : g_certificate_Parse.j1 y_13 x48_1 = some r := hg
           show awp _ _ _ _ (mk _ _ _)
           unfold g_certificate_Parse.j1 at hg
           refine cg_ rfl hg (fun h44 hg => ?_) fun h44 hg => ?_
           ·refine awp_seq ?_
            refine awp_region (sys _ _ []) 2 26 mk_U rfl rfl ?_
            refine c0_ rfl rfl (.build (r := [.val (.int .i64 0), .val (.string (⟨#[]⟩ : ByteArray)), .val (.string (⟨#[]⟩ : ByteArray)), .val (.int .i64 0), .val (.int .i64 0), .val (.int .i64 0), .val (.int .i64 0), .val (.int .i64 0), .val (.int .i64 0), .val (.int .i64 0), .val (.bool false), .val (.int .i64 0), .val (.slice none 0 0), .val (.int .i64 0), .val (.int .i64 0)]) und68 pl68 z68 (by kernel_rfl) rfl) rfl rfl ?_
            refine go_ ?_
            refine ch_n fun hU => ?_
            refine aw_r ?_
            obtain rfl := Option.some.inj hg
            exact fin_ [] ⟨rfl, rfl⟩
           ·refine awp_skip ?_
            repeat first | refine st_ ?_ | refine sn_ ?_
            refine sr_ 2 26 mk_U ?_
            refine go_ ?_
            refine ch_n fun hU => ?_
            refine aw_r ?_
            obtain rfl := Option.some.inj hg
            exact fin_ [] ⟨rfl, rfl⟩
        ·exact absurd h (by decide)
       ·exact absurd h (by decide)
      ·exact absurd h (by decide)
     ·exact absurd h (by decide)
    ·exact absurd h (by decide)
   ·exact absurd h (by decide)
  ·exact absurd h (by decide)
 ·exact absurd h (by decide)
theorem w_keystore_entry (v : api_Value) (r : api_Entry × Bool) (hg : g_keystore_entry v = some r) : Fn Tryz.prog 58 0 [.agg (api_Value.dv v)] [] (fun d' b' => d' = .tup [.agg (api_Entry.dv r.1), .val (.bool r.2)] ∧ b' = []) := by
 unfold g_keystore_entry at hg
 refine Fn.of Tryz.func58 rfl rfl rfl fun w0 I ρ0 => ?_
 show awp _ ⟨w0, I, ρ0, 0, 0, 49⟩ _ _ _
 refine sr_ 0 24 mk_U ?_
 refine go_ ?_
 refine ch_n fun hU => ?_
 refine sr_ 24 48 hU ?_
 refine go_ ?_
 obtain ⟨y, hy, hg⟩ := bind_some hg
 refine ch_call (rd := []) (ps := []) (gs := []) false rfl (w_certificate_Read _ _ _ hy) rfl rfl (.cons (.agg (.cons .val (.cons .sl (.cons .val (.cons .sl .nil))))) (.cons .val .nil)) rfl rfl (by intro h; cases h) rfl (by intro h; first | (cases h; done) | exact ⟨_, _, ⟨rfl, rfl⟩, by simp, by simp⟩) ?_
 rintro _ _ ⟨rfl, rfl⟩
 refine go_ ?_
 refine ch_n fun hU => ?_
 refine sr_ 48 136 hU ?_
 refine go_ ?_
 obtain ⟨y_2, hy_2, hg⟩ := bind_some hg
 refine cb_ [32] [32] [] false (w_certificate_Reader_Text _ _ hy_2) ?_
 refine go_ ?_
 obtain ⟨y_3, hy_3, hg⟩ := bind_some hg
 refine cb_ [32] [32] [] false (w_certificate_Reader_Use _ _ hy_3) ?_
 refine go_ ?_
 obtain ⟨y_4, hy_4, hg⟩ := bind_some hg
 refine cb_ [32] [32] [] false (w_certificate_Reader_Int _ _ hy_4) ?_
 refine go_ ?_
 obtain ⟨y_5, hy_5, hg⟩ := bind_some hg
 refine cb_ [32] [32] [] false (w_certificate_Reader_Bool _ _ hy_5) ?_
 refine c0_ rfl rfl (.build (r := [.val (.string y_2.1), .val (.int .i64 y_3.1.Alg), .val (.int .i64 y_3.1.Bits), .val (.int .i64 y_4.1), .val (.bool y_5.1), .val (.slice none 0 0)]) und40 pl40 z40 (by kernel_rfl) rfl) rfl rfl ?_
 refine go_ ?_
 refine ch_n fun hU => ?_
 refine awp_seq ?_
 refine sr_ 136 168 hU ?_
 refine go_ ?_
 obtain ⟨y_6, hy_6, hg⟩ := bind_some hg
 refine cb_ [32] [32] [] false (w_certificate_Reader_List _ _ hy_6) ?_
 refine go_ ?_
 refine ch_n fun hU => ?_
 refine awp_block ?_
 refine lp_ (fun ((x24_1, l_1) : Int × List api_Certificate) => mk [(2, .ptr 0 0), (4, .ptr 1 0), (5, .ptr 2 0), (22, .sl 4 (encL api_Value.enc y_6.1)), (23, .val (.int .i64 (y_6.1.length : Int))), (24, .val (.int .i64 x24_1))] [(0, .box [.val (.string (⟨#[]⟩ : ByteArray)), .val (.int .i64 0), .val (.int .i64 0), .val (.int .i64 0), .val (.bool false), .val (.slice none 0 0)] 40), (1, .box [.sl 4 (encL api_Value.enc y_6.2.l), .val (.bool y_6.2.Failed)] 131), (2, .box [.val (.string y_2.1), .val (.int .i64 y_3.1.Alg), .val (.int .i64 y_3.1.Bits), .val (.int .i64 y_4.1), .val (.bool y_5.1), .row 3] 40), (3, .row 68 15 (encL api_Certificate.enc l_1))] 4) hg (sub_ [(0, 8), (1, 32), (2, 120)]) ?_
 rintro ⟨x24_1, l_1⟩ m1 o1 hg hn1
 replace hg : g_keystore_entry.l1 y_2 y_3 y_4 y_5 y_6 x24_1 l_1 = some o1 := hg
 show awp _ _ _ _ (mk _ _ _)
 unfold g_keystore_entry.l1 at hg
 refine sr_ 4 12 mk_U ?_
 refine go_ ?_
 refine ch_n fun hU => ?_
 refine awp_seq ?_
 refine cg_ rfl hg (fun h6 hg => ?_) fun h6 hg => ?_
 ·refine awp_skip ?_
  repeat first | refine st_ ?_ | refine sn_ ?_
  refine awp_seq ?_
  refine awp_block ?_
  refine sr_ 12 44 hU ?_
  obtain ⟨e, he, hg⟩ := bind_some hg
  refine go_ ?_
  refine c0_ rfl rfl (r_loadEA ty50 (enc_cells api_Value.enc_len (getI_at he) (o := 0) (m := 4) (cs := [.int .i64 e.Tag, .sl 1 (encL e8 e.Bytes), .bool e.Nested, .sl 4 (encL api_Value.enc e.Elements)]) (by simp only [api_Value.enc_eq]; rfl) (by decide) rfl) (enc_cells_le api_Value.enc_len (getI_at he) (o := 0) (m := 4) (by decide) rfl)) rfl rfl ?_
  refine go_ ?_
  refine ch_n fun hU => ?_
  refine sr_ 44 108 hU ?_
  refine go_ ?_
  obtain ⟨y_7, hy_7, hg⟩ := bind_some hg
  refine ca_ (w_certificate_Parse _ _ hy_7) ?_
  refine go_ ?_
  refine ch_n fun hU => ?_
  refine awp_seq ?_
  refine sr_ 108 124 hU ?_
  refine go_ ?_
  refine ch_n fun hU => ?_
  refine cg_ rfl hg (fun h10 hg => ?_) fun h10 hg => ?_
  ·refine awp_seq ?_
   refine awp_region (sys _ _ []) 124 148 hU rfl rfl ?_
   refine c0_ rfl rfl (.build (r := [.val (.string (⟨#[]⟩ : ByteArray)), .val (.int .i64 0), .val (.int .i64 0), .val (.int .i64 0), .val (.bool false), .val (.slice none 0 0)]) und40 pl40 z40 (by kernel_rfl) rfl) rfl rfl ?_
   refine go_ ?_
   refine ch_n fun hU => ?_
   refine aw_r ?_
   replace hg := leave hg hn1
   obtain rfl := Option.some.inj hg
   exact fin_ [] ⟨rfl, rfl⟩
  ·refine awp_skip ?_
   repeat first | refine st_ ?_ | refine sn_ ?_
   refine awp_region (sys _ _ []) 124 180 hU rfl rfl ?_
   refine go_ ?_
   refine c0_ rfl rfl (r_buildFull sl38 z68 (by decide) rfl rfl rfl rfl ck68 (cs := [.int .i64 y_7.1.Serial, .str y_7.1.Issuer, .str y_7.1.Subject, .int .i64 y_7.1.Key.Alg, .int .i64 y_7.1.Key.Bits, .int .i64 y_7.1.KeyId, .int .i64 y_7.1.Hash.Alg, .int .i64 y_7.1.Hash.Bits, .int .i64 y_7.1.From, .int .i64 y_7.1.To, .bool y_7.1.Authority, .int .i64 y_7.1.Path, .sl 1 (encL eS y_7.1.Names), .int .i64 y_7.1.Seal.Key, .int .i64 y_7.1.Seal.Sum]) (.cons .int (.cons .str (.cons .str (.cons .int (.cons .int (.cons .int (.cons .int (.cons .int (.cons .int (.cons .int (.cons .bool (.cons .int (.cons .sl (.cons .int (.cons .int .nil))))))))))))))) rfl (l := ([y_7.1] : List api_Certificate)) (f := api_Certificate.enc) rfl) rfl rfl ?_
   obtain ⟨l, hl, hg⟩ := bind_some hg
   refine ch_s (rd := [3, 148]) rfl rfl (r_append sl38 api_Certificate.enc_len .row rfl .row rfl hl rfl) rfl rfl ?_
   refine go_ ?_
   refine ch_n fun hU => ?_
   refine awp_region (sys _ _ []) 180 196 hU rfl rfl ?_
   refine go_ ?_
   refine ch_n fun hU => ?_
   obtain rfl := Option.some.inj hg
   exact ⟨((W (x24_1 + 1), l), m1), Nat.lt_succ_self _, hn1, sub_ [(0, 0), (1, 1), (2, 2), (3, 156)]⟩
 ·refine awp_exit ?_
  repeat first | refine st_ ?_ | refine sn_ ?_
  replace hg := leave hg hn1
  refine awp_seq ?_
  refine awp_draw (sys _ _ []) (by kernel_rfl) [0, 0, 2, 6, 14, 30, 1, 127] 12 76 hU rfl rfl (by kernel_rfl) ?_
  refine go_ ?_
  refine ch_n fun hU => ?_
  refine aw_r ?_
  obtain rfl := Option.some.inj hg
  exact fin_ [] ⟨rfl, rfl⟩
theorem w_keystore_Decode (b : (List UInt8)) (r : (List api_Entry) × Int) (hg : g_keystore_Decode b = some r) : Fn Tryz.prog 26 0 [.sl 1 (encL e8 b)] [] (fun d' b' => d' = .tup [.sl 6 (encL api_Entry.enc r.1), .val (.int .i64 r.2)] ∧ b' = []) := by
 unfold g_keystore_Decode at hg
 refine Fn.of Tryz.func26 rfl rfl rfl fun w0 I ρ0 => ?_
 show awp _ ⟨w0, I, ρ0, 0, 0, 49⟩ _ _ _
 refine sr_ 0 16 mk_U ?_
 refine go_ ?_
 refine ch_n fun hU => ?_
 refine sr_ 16 80 hU ?_
 refine go_ ?_
 obtain ⟨y, hy, hg⟩ := bind_some hg
 refine ca_ (w_der_Decode _ _ hy) ?_
 refine go_ ?_
 refine ch_n fun hU => ?_
 refine awp_seq ?_
 refine sr_ 80 96 hU ?_
 refine go_ ?_
 refine ch_n fun hU => ?_
 refine cg_ rfl hg (fun h4 hg => ?_) fun h4 hg => ?_
 ·refine awp_seq ?_
  refine awp_region (sys _ _ []) 96 120 hU rfl rfl ?_
  refine go_ ?_
  refine ch_n fun hU => ?_
  refine aw_r ?_
  obtain rfl := Option.some.inj hg
  exact fin_ [] ⟨rfl, rfl⟩
 ·refine awp_skip ?_
  repeat first | refine st_ ?_ | refine sn_ ?_
  refine sr_ 96 152 hU ?_
  refine go_ ?_
  obtain ⟨y_2, hy_2, hg⟩ := bind_some hg
  refine ca_ (w_der_AsList _ _ hy_2) ?_
  refine go_ ?_
  refine ch_n fun hU => ?_
  refine awp_seq ?_
  refine sr_ 152 168 hU ?_
  refine go_ ?_
  refine ch_n fun hU => ?_
  refine cg_ rfl hg (fun h8 hg => ?_) fun h8 hg => ?_
  ·refine awp_seq ?_
   refine awp_region (sys _ _ []) 168 184 hU rfl rfl ?_
   refine go_ ?_
   refine ch_n fun hU => ?_
   refine aw_r ?_
   obtain rfl := Option.some.inj hg
   exact fin_ [] ⟨rfl, rfl⟩
  ·refine awp_skip ?_
   repeat first | refine st_ ?_ | refine sn_ ?_
   refine sr_ 168 176 hU ?_
   refine go_ ?_
   refine ch_n fun hU => ?_
   refine awp_seq ?_
   refine sr_ 176 200 hU ?_
   refine go_ ?_
   refine ch_n fun hU => ?_
   refine awp_block ?_
   refine lp_ (fun ((x29_1, out_1) : Int × List api_Entry) => mk [(7, .row 0), (27, .sl 4 (encL api_Value.enc y_2.1)), (28, .val (.int .i64 (y_2.1.length : Int))), (29, .val (.int .i64 x29_1))] [(0, .row 40 6 (encL api_Entry.enc out_1))] 1) hg (sub_ []) ?_
   rintro ⟨x29_1, out_1⟩ m1 o1 hg hn1
   replace hg : g_keystore_Decode.l1 y_2 x29_1 out_1 = some o1 := hg
   show awp _ _ _ _ (mk _ _ _)
   unfold g_keystore_Decode.l1 at hg
   refine sr_ 1 9 mk_U ?_
   refine go_ ?_
   refine ch_n fun hU => ?_
   refine awp_seq ?_
   refine cg_ rfl hg (fun h13 hg => ?_) fun h13 hg => ?_
   ·refine awp_skip ?_
    repeat first | refine st_ ?_ | refine sn_ ?_
    refine awp_seq ?_
    refine awp_block ?_
    refine sr_ 9 41 hU ?_
    obtain ⟨e, he, hg⟩ := bind_some hg
    refine go_ ?_
    refine c0_ rfl rfl (r_loadEA ty50 (enc_cells api_Value.enc_len (getI_at he) (o := 0) (m := 4) (cs := [.int .i64 e.Tag, .sl 1 (encL e8 e.Bytes), .bool e.Nested, .sl 4 (encL api_Value.enc e.Elements)]) (by simp only [api_Value.enc_eq]; rfl) (by decide) rfl) (enc_cells_le api_Value.enc_len (getI_at he) (o := 0) (m := 4) (by decide) rfl)) rfl rfl ?_
    refine go_ ?_
    refine ch_n fun hU => ?_
    refine sr_ 41 105 hU ?_
    refine go_ ?_
    obtain ⟨y_3, hy_3, hg⟩ := bind_some hg
    refine ca_ (w_keystore_entry _ _ hy_3) ?_
    refine go_ ?_
    refine ch_n fun hU => ?_
    refine awp_seq ?_
    refine sr_ 105 121 hU ?_
    refine go_ ?_
    refine ch_n fun hU => ?_
    refine cg_ rfl hg (fun h17 hg => ?_) fun h17 hg => ?_
    ·refine awp_seq ?_
     refine awp_region (sys _ _ []) 121 137 hU rfl rfl ?_
     refine go_ ?_
     refine ch_n fun hU => ?_
     refine aw_r ?_
     replace hg := leave hg hn1
     obtain rfl := Option.some.inj hg
     exact fin_ [] ⟨rfl, rfl⟩
    ·refine awp_skip ?_
     repeat first | refine st_ ?_ | refine sn_ ?_
     refine awp_region (sys _ _ []) 121 161 hU rfl rfl ?_
     refine go_ ?_
     refine c0_ rfl rfl (r_buildFull sl27 z40 (by decide) rfl rfl rfl rfl ck40 (cs := [.str y_3.1.Alias, .int .i64 y_3.1.Key.Alg, .int .i64 y_3.1.Key.Bits, .int .i64 y_3.1.KeyId, .bool y_3.1.Secret, .sl 15 (encL api_Certificate.enc y_3.1.Chain)]) (.cons .str (.cons .int (.cons .int (.cons .int (.cons .bool (.cons .sl .nil)))))) rfl (l := ([y_3.1] : List api_Entry)) (f := api_Entry.enc) rfl) rfl rfl ?_
     obtain ⟨l, hl, hg⟩ := bind_some hg
     refine ch_s (rd := [0, 137]) rfl rfl (r_append sl27 api_Entry.enc_len .row rfl .row rfl hl rfl) rfl rfl ?_
     refine go_ ?_
     refine ch_n fun hU => ?_
     refine awp_region (sys _ _ []) 161 177 hU rfl rfl ?_
     refine go_ ?_
     refine ch_n fun hU => ?_
     obtain rfl := Option.some.inj hg
     exact ⟨((W (x29_1 + 1), l), m1), Nat.lt_succ_self _, hn1, sub_ [(0, 145)]⟩
   ·refine awp_exit ?_
    repeat first | refine st_ ?_ | refine sn_ ?_
    replace hg := leave hg hn1
    refine awp_seq ?_
    refine sr_ 9 33 hU ?_
    refine go_ ?_
    obtain ⟨y_4, hy_4, hg⟩ := bind_some hg
    refine cb_ [0] [] [] true (w_keystore_Check _ _ hy_4) ?_
    refine go_ ?_
    refine ch_n fun hU => ?_
    refine cg_ rfl hg (fun h22 hg => ?_) fun h22 hg => ?_
    ·refine awp_seq ?_
     refine awp_region (sys _ _ []) 33 49 hU rfl rfl ?_
     refine go_ ?_
     refine ch_n fun hU => ?_
     refine aw_r ?_
     obtain rfl := Option.some.inj hg
     exact fin_ [] ⟨rfl, rfl⟩
    ·refine awp_skip ?_
     repeat first | refine st_ ?_ | refine sn_ ?_
     refine sr_ 33 57 hU ?_
     refine go_ ?_
     refine ch_n fun hU => ?_
     refine aw_r ?_
     obtain rfl := Option.some.inj hg
     exact fin_ [] ⟨rfl, rfl⟩
theorem w_ref02_SameTexts (a : (List ByteArray)) (b : (List ByteArray)) (r : Bool) (hg : g_ref02_SameTexts a b = some r) : Fn Tryz.prog 113 0 [.sl 1 (encL eS a), .sl 1 (encL eS b)] [] (fun d' b' => d' = .val (.bool r) ∧ b' = []) := by
 unfold g_ref02_SameTexts at hg
 refine Fn.of Tryz.func113 rfl rfl rfl fun w0 I ρ0 => ?_
 show awp _ ⟨w0, I, ρ0, 0, 0, 26⟩ _ _ _
 refine sr_ 0 8 mk_U ?_
 refine go_ ?_
 refine ch_n fun hU => ?_
 refine awp_seq ?_
 refine sr_ 8 48 hU ?_
 refine go_ ?_
 refine ch_n fun hU => ?_
 refine cg_ rfl hg (fun h3 hg => ?_) fun h3 hg => ?_
 ·refine awp_seq ?_
  refine awp_region (sys _ _ []) 48 56 hU rfl rfl ?_
  refine go_ ?_
  refine ch_n fun hU => ?_
  refine aw_r ?_
  obtain rfl := Option.some.inj hg
  exact fin_ [] ⟨rfl, rfl⟩
 ·refine awp_skip ?_
  repeat first | refine st_ ?_ | refine sn_ ?_
  refine awp_seq ?_
  refine sr_ 48 56 hU ?_
  refine go_ ?_
  refine ch_n fun hU => ?_
  refine awp_block ?_
  refine lp_ (fun (i_1 : Int) => mk [(0, .sl 1 (encL eS a)), (1, .sl 1 (encL eS b)), (5, .val (.int .i64 i_1))] [] 0) hg (sub_ []) ?_
  rintro i_1 m1 o1 hg hn1
  replace hg : g_ref02_SameTexts.l1 a b i_1 = some o1 := hg
  show awp _ _ _ _ (mk _ _ _)
  unfold g_ref02_SameTexts.l1 at hg
  refine awp_seq ?_
  refine sr_ 0 32 mk_U ?_
  refine go_ ?_
  refine ch_n fun hU => ?_
  refine cg_ rfl hg (fun h7 hg => ?_) fun h7 hg => ?_
  ·refine awp_skip ?_
   repeat first | refine st_ ?_ | refine sn_ ?_
   refine awp_seq ?_
   refine awp_block ?_
   refine awp_seq ?_
   refine awp_draw (sys _ _ []) (by kernel_rfl) [0, 0, 3, 7, 0, 0, 48, 112, 255] 32 104 hU rfl rfl (by kernel_rfl) ?_
   refine go_ ?_
   obtain ⟨e, he, hg⟩ := bind_some hg
   refine go_ ?_
   refine c0_ rfl rfl (r_loadE1 ty9 (enc_cell eS_len (getI_at he) (o := 0) (c := .str e) rfl rfl)) rfl rfl ?_
   refine go_ ?_
   obtain ⟨e_2, he_2, hg⟩ := bind_some hg
   refine go_ ?_
   refine c0_ rfl rfl (r_loadE1 ty9 (enc_cell eS_len (getI_at he_2) (o := 0) (c := .str e_2) rfl rfl)) rfl rfl ?_
   refine go_ ?_
   refine ch_n fun hU => ?_
   refine cg_ rfl hg (fun h9 hg => ?_) fun h9 hg => ?_
   ·refine awp_seq ?_
    refine awp_region (sys _ _ []) 104 112 hU rfl rfl ?_
    refine go_ ?_
    refine ch_n fun hU => ?_
    refine aw_r ?_
    replace hg := leave hg hn1
    obtain rfl := Option.some.inj hg
    exact fin_ [] ⟨rfl, rfl⟩
   ·refine awp_skip ?_
    repeat first | refine st_ ?_ | refine sn_ ?_
    refine awp_region (sys _ _ []) 104 128 hU rfl rfl ?_
    refine go_ ?_
    refine ch_n fun hU => ?_
    obtain rfl := Option.some.inj hg
    exact ⟨(W (i_1 + 1), m1), Nat.lt_succ_self _, hn1, sub_ []⟩
  ·refine awp_exit ?_
   repeat first | refine st_ ?_ | refine sn_ ?_
   replace hg := leave hg hn1
   refine sr_ 32 40 hU ?_
   refine go_ ?_
   refine ch_n fun hU => ?_
   refine aw_r ?_
   obtain rfl := Option.some.inj hg
   exact fin_ [] ⟨rfl, rfl⟩
theorem w_ref03_Same (a : api_Certificate) (b : api_Certificate) (r : Bool) (hg : g_ref03_Same a b = some r) : Fn Tryz.prog 68 0 [.agg (api_Certificate.dv a), .agg (api_Certificate.dv b)] [] (fun d' b' => d' = .val (.bool r) ∧ b' = []) := by
 unfold g_ref03_Same at hg
 refine Fn.of Tryz.func68 rfl rfl rfl fun w0 I ρ0 => ?_
 show awp _ ⟨w0, I, ρ0, 0, 0, 87⟩ _ _ _
 refine sr_ 0 24 mk_U ?_
 refine go_ ?_
 refine ch_n fun hU => ?_
 refine sr_ 24 688 hU ?_
 refine go_ ?_
 rcases bc_ hg with ⟨h2, hg⟩ | ⟨h2, hg⟩
 ·refine go_ ?_
  rcases bc_ hg with ⟨h3, hg⟩ | ⟨h3, hg⟩
  ·refine go_ ?_
   rcases bc_ hg with ⟨h4, hg⟩ | ⟨h4, hg⟩
   ·refine go_ ?_
    refine c0_ (gdv_t rfl rfl h4) rfl (steq37_eql a.Key b.Key) rfl rfl ?_
    refine go_ ?_
    rcases bc_ hg with ⟨h5, hg⟩ | ⟨h5, hg⟩
    ·refine go_ ?_
     rcases bc_ hg with ⟨h6, hg⟩ | ⟨h6, hg⟩
     ·refine go_ ?_
      refine c0_ (gdv_t rfl rfl h6) rfl (steq37_eql a.Hash b.Hash) rfl rfl ?_
      refine go_ ?_
      rcases bc_ hg with ⟨h7, hg⟩ | ⟨h7, hg⟩
      ·refine go_ ?_
       rcases bc_ hg with ⟨h8, hg⟩ | ⟨h8, hg⟩
       ·refine go_ ?_
        rcases bc_ hg with ⟨h9, hg⟩ | ⟨h9, hg⟩
        ·refine go_ ?_
         refine c0_ (gdv_t rfl rfl h9) rfl (r_beql und4) rfl rfl ?_
         refine go_ ?_
         rcases bc_ hg with ⟨h10, hg⟩ | ⟨h10, hg⟩
         ·refine go_ ?_
          rcases bc_ hg with ⟨h11, hg⟩ | ⟨h11, hg⟩
          ·refine go_ ?_
           obtain ⟨y, hy, hg⟩ := bind_some hg
           refine ca_ (w_ref02_SameTexts _ _ _ hy) ?_
           refine go_ ?_
           rcases bc_ hg with ⟨h12, hg⟩ | ⟨h12, hg⟩
           ·refine go_ ?_
            refine c0_ (gdv_t rfl rfl h12) rfl (steq66_eql a.Seal b.Seal) rfl rfl ?_
            refine go_ ?_
            refine ch_n fun hU => ?_
            refine aw_r ?_
            obtain rfl := Option.some.inj hg
            exact fin_ [] ⟨rfl, rfl⟩
           ·refine go_ ?_
            refine ch_n fun hU => ?_
            refine aw_r ?_
            obtain rfl := Option.some.inj hg
            exact fin_ [] ⟨rfl, rfl⟩
          ·refine go_ ?_
           refine ch_n fun hU => ?_
           refine aw_r ?_
           obtain rfl := Option.some.inj hg
           exact fin_ [] ⟨rfl, rfl⟩
         ·refine go_ ?_
          refine ch_n fun hU => ?_
          refine aw_r ?_
          obtain rfl := Option.some.inj hg
          exact fin_ [] ⟨rfl, rfl⟩
        ·refine go_ ?_
         refine ch_n fun hU => ?_
         refine aw_r ?_
         obtain rfl := Option.some.inj hg
         exact fin_ [] ⟨rfl, rfl⟩
       ·refine go_ ?_
        refine ch_n fun hU => ?_
        refine aw_r ?_
        obtain rfl := Option.some.inj hg
        exact fin_ [] ⟨rfl, rfl⟩
      ·refine go_ ?_
       refine ch_n fun hU => ?_
       refine aw_r ?_
       obtain rfl := Option.some.inj hg
       exact fin_ [] ⟨rfl, rfl⟩
     ·refine go_ ?_
      refine ch_n fun hU => ?_
      refine aw_r ?_
      obtain rfl := Option.some.inj hg
      exact fin_ [] ⟨rfl, rfl⟩
    ·refine go_ ?_
     refine ch_n fun hU => ?_
     refine aw_r ?_
     obtain rfl := Option.some.inj hg
     exact fin_ [] ⟨rfl, rfl⟩
   ·refine go_ ?_
    refine ch_n fun hU => ?_
    refine aw_r ?_
    obtain rfl := Option.some.inj hg
    exact fin_ [] ⟨rfl, rfl⟩
  ·refine go_ ?_
   refine ch_n fun hU => ?_
   refine aw_r ?_
   obtain rfl := Option.some.inj hg
   exact fin_ [] ⟨rfl, rfl⟩
 ·refine go_ ?_
  refine ch_n fun hU => ?_
  refine aw_r ?_
  obtain rfl := Option.some.inj hg
  exact fin_ [] ⟨rfl, rfl⟩
end Go.Proofs.YtbeageaekgccgaaGreat
